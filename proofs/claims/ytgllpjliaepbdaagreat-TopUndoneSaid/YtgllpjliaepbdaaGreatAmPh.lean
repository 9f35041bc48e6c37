/- Contracts and what they rest on: AmPh. -/
import Derived.Test.YtgllpjliaepbdaaGreatAmPg
import Derived.Orders
import Derived.Tactics
set_option linter.unusedVariables false
set_option linter.unusedSimpArgs false
set_option linter.unnecessarySimpa false
namespace Go.Am
open Go
abbrev Sl:=qSl
def SLf(x:Nat→Option Nat)(d:Nat→D)(L:Nat→Bool)(sl:Sl):Nat→Sl
 |0=>sl
 |p+1=>if L p then Q5 (x p) (d p) (SLf x d L sl p) else SLf x d L sl p
def HPf(T:Nat→Hp→Hp)(L:Nat→Bool)(hp:Hp):Nat→Hp
 |0=>hp
 |p+1=>if L p then T p (HPf T L hp p) else HPf T L hp p
theorem Qe5{x:Nat→Option Nat}{d:Nat→D}{sl:Sl}:∀p,SLf (fun p=>x (p+1)) (fun p=>d (p+1)) (fun _=>true) (Q5 (x 0) (d 0) sl) p=SLf x d (fun _=>true) sl (p+1)
 |0=>rfl
 |p+1=>by
  have:=Qe5 (x:=x) (d:=d) (sl:=sl) p
  simp only[SLf,if_true] at this ⊢
  rw[this]
theorem Qe6{T:Nat→Hp→Hp}{hp:Hp}:∀p,HPf (fun p=>T (p+1)) (fun _=>true) (T 0 hp) p=HPf T (fun _=>true) hp (p+1)
 |0=>rfl
 |p+1=>by
  have:=Qe6 (T:=T) (hp:=hp) p
  simp only[HPf,if_true] at this ⊢
  rw[this]
theorem Qe7{x:Nat→Option Nat}{d:Nat→D}{L L':Nat→Bool}{sl:Sl}:∀p,(∀q,q<p→L q=L' q)→SLf x d L sl p=SLf x d L' sl p
 |0,_=>rfl
 |p+1,h=>by simp only[SLf,h p (by omega),Qe7 p fun q hq=>h q (by omega)]
theorem Qe8{T:Nat→Hp→Hp}{L L':Nat→Bool}{hp:Hp}:∀p,(∀q,q<p→L q=L' q)→HPf T L hp p=HPf T L' hp p
 |0,_=>rfl
 |p+1,h=>by simp only[HPf,h p (by omega),Qe8 p fun q hq=>h q (by omega)]
def Y7(l:List LI)(p:Nat):Option Nat:=(l[p]?).bind (·.dst)
def ZL{α:Type}(a:α)(f:Nat→α):Nat→α
 |0=>a
 |n+1=>f n
theorem Qiu{a b:List Nat}(h:Ja a b=true):∀id∈a,id∉b:=by
 intro id hid
 have:=Qs.1 h id hid
 simpa using this
theorem Qiv{P:Program}{n0:Nat}{K:St→Prop}{cs:List (Nat×Option Nat×List Nat×Bool)}:∀(l:List LI)(i n:Nat)(log:List (Nat×List Nat×List Nat))(s:St),(∀x∈l,x.op.det=true)→(∀j e,lk log j=some e→j<i)→WD P cs n0 l i n log s K→
  ∃(d:Nat→D) (T:Nat→Hp→Hp) (rd mu:Nat→List Nat),
   K ⟨SLf (Y7 l) d (fun _=>true) s.sl l.length,HPf T (fun _=>true) s.hp l.length,n+64*l.length⟩∧
   ∀p x,l[p]?=some x→Fra P (n+64*p) x ⟨SLf (Y7 l) d (fun _=>true) s.sl p,HPf T (fun _=>true) s.hp p,s.nx⟩ (d p) (T p) (rd p) (mu p)∧
    ∀om c b,lk cs (i+p)=some (om,c,b)→(∀m,om=some m→∀id∈rd p,Qa7 n0 m id=true)∧
     ∀j∈c,(∀q,j=i+q→q<p∧(∀id∈mu p,id∉rd q)∧(∀id∈mu q,id∉rd p))∧
      (j<i→∃e,lk log j=some e∧(∀id∈mu p,id∉e.1)∧(∀id∈e.2,id∉rd p))
 |[],i,n,log,s,_,hlog,h=>by
  simp only[WD] at h
  exact⟨fun _=>.undef,fun _ l=>l,fun _=>[],fun _=>[],by simpa [SLf,HPf] using h,by simp⟩
 |x::l,i,n,log,s,hdet,hlog,h=>by
  simp only[WD] at h
  obtain⟨hchk,h⟩:=h
  obtain⟨d0,T0,rd0,mu0,hK,hF⟩:=QoF (hdet x (by simp)) h
  have hlog':∀j e,lk (if lgE (lk cs i) then (i,rdI s.sl s.hp x.op,muI s.sl s.hp x.op)::log else log) j=some e→j<i+1:=by
   intro j e he
   split at he
   ·simp only[lk] at he
    split at he
    ·omega
    ·have:=hlog j e he;omega
   ·have:=hlog j e he;omega
  obtain⟨d,T,rd,mu,h1,h2⟩:=Qiv l (i+1) (n+64) _ _ (fun y hy=>hdet y (Qu _ hy)) hlog' hK
  refine⟨ZL d0 d,ZL T0 T,ZL rd0 rd,ZL mu0 mu,?_,?_⟩
  ·have e1:=Qe5 (x:=Y7 (x::l)) (d:=ZL d0 d) (sl:=s.sl) l.length
   have e2:=Qe6 (T:=ZL T0 T) (hp:=s.hp) l.length
   rw[List.length_cons,←e1,←e2,show n+64*(l.length+1)=n+64+64*l.length by omega]
   exact h1
  ·intro p y hp
   cases p with
   |zero=>
    simp only[List.getElem?_cons_zero,Qb] at hp
    subst hp
    refine⟨hF,fun om c b hc=>?_⟩
    rw[Nat.add_zero] at hc
    rw[hc] at hchk
    have hone:∀j,JW log (rdI s.sl s.hp x.op) (muI s.sl s.hp x.op) j=true→(∀q,j=i+q→q<0∧(∀id∈ZL mu0 mu 0,id∉ZL rd0 rd q)∧(∀id∈ZL mu0 mu q,id∉ZL rd0 rd 0))∧
      (j<i→∃e,lk log j=some e∧(∀id∈mu0,id∉e.1)∧(∀id∈e.2,id∉rd0)):=by
     intro j hc
     unfold JW at hc
     split at hc
     ·rename_i rd' mu' hlk
      simp only[Qk] at hc
      have hji:=hlog j _ hlk
      exact⟨fun q hq=>by omega,fun _=>⟨_,hlk,fun id hid=>Qiu hc.1 id (hF.mu id hid).2,fun id hid hid2=>Qiu hc.2 id hid (hF.pre id hid2).2⟩⟩
     ·cases hc
    cases om with
    |none=>
     simp only[Qax,Qs] at hchk
     exact⟨fun m hm=>(by cases hm),fun j hj=>hone j (hchk j hj)⟩
    |some m=>
     simp only[Qax,Qk,Qs] at hchk
     exact⟨fun m' hm id hid=>(by cases hm;exact hchk.1 id (hF.pre id hid).2),fun j hj=>hone j (hchk.2 j hj)⟩
   |succ p=>
    simp only[List.getElem?_cons_succ] at hp
    obtain⟨hF',hC⟩:=h2 p y hp
    refine⟨?_,fun om c b hc=>?_⟩
    ·have e1:=Qe5 (x:=Y7 (x::l)) (d:=ZL d0 d) (sl:=s.sl) p
     have e2:=Qe6 (T:=ZL T0 T) (hp:=s.hp) p
     rw[←e1,←e2,show n+64*(p+1)=n+64+64*p by omega]
     exact hF'
    ·obtain⟨hids',hdis⟩:=hC om c b (by rw[←hc];congr 1;omega)
     refine⟨hids',fun j hj=>?_⟩
     obtain⟨g1,g2⟩:=hdis j hj
     have head:j=i→(∀id∈mu p,id∉rd0)∧∀id∈mu0,id∉rd p:=by
      intro hji
      obtain⟨e,he,a1,a2⟩:=g2 (by omega)
      split at he
      ·simp only[lk,hji,if_true,Qb] at he
       subst he
       exact⟨fun id h1 h2=>a1 id h1 (hF.pre id h2).2,fun id h1=>a2 id (hF.mu id h1).2⟩
      ·have:=hlog _ _ he;omega
     refine⟨fun q hq=>?_,fun hji=>?_⟩
     ·cases q with
      |zero=>exact⟨by omega,head (by omega)⟩
      |succ q=>
       obtain⟨b1,b2⟩:=g1 q (by omega)
       exact⟨by omega,b2⟩
     ·obtain⟨e,he,a1⟩:=g2 (by omega)
      split at he
      ·simp only[lk] at he
       rw[if_neg (by omega)] at he
       exact⟨e,he,a1⟩
      ·exact⟨e,he,a1⟩
def aft(o:Oper):List Nat:=(o.after.toList.filter (Region.binds .any)).map (·.on)
theorem Qiw{ms:List Nat}:∀{es:List Nat}{m:Nat},Qav ms es=some m→∀j,m.testBit j=true↔∃e∈es,∃me,ms[e]?=some me∧(j=e∨me.testBit j=true)
 |[],m,h,j=>by simp only[Qav,Qb] at h;subst h;simp
 |e::es,m,h,j=>by
  simp only[Qav] at h
  split at h
  ·rename_i me r hme hr
   simp only[Qb] at h
   subst h
   simp only[Nat.testBit_or,QG,Nat.testBit_two_pow,Ql,Qiw hr j,Qh,exists_eq_or_imp,hme,Qb,exists_eq_left']
   constructor
   ·rintro ((rfl|h)|h)
    ·exact .inl (.inl rfl)
    ·exact .inl (.inr h)
    ·exact .inr h
   ·rintro ((rfl|h)|h)
    ·exact .inl (.inl rfl)
    ·exact .inl (.inr h)
    ·exact .inr h
  ·cases h
theorem Qc8{ms:List Nat}:∀{es:List Nat}{m:Nat},Qav ms es=some m→∀e∈es,e<ms.length
 |e::es,m,h,e',he'=>by
  simp only[Qav] at h
  split at h
  ·rename_i me r hme hr
   rcases Qh.1 he' with rfl|h'
   ·exact (Qp.1 hme).1
   ·exact Qc8 hr e' h'
  ·cases h
theorem Qe9:∀{os:List Oper}{ms0 ms:List Nat},Qaw os ms0=some ms→
  ms.length=ms0.length+os.length∧(∀p,p<ms0.length→ms[p]?=ms0[p]?)∧
  ∀p o,os[p]?=some o→∃m,ms[ms0.length+p]?=some m∧(∀e∈aft o,e<ms0.length+p)∧∀j,m.testBit j=true↔∃e∈aft o,∃me,ms[e]?=some me∧(j=e∨me.testBit j=true)
 |[],ms0,ms,h=>by simp only[Qaw,Qb] at h;subst h;simp
 |o::os,ms0,ms,h=>by
  simp only[Qaw] at h
  split at h
  case h_2=>cases h
  rename_i m hm
  obtain⟨h1,h2,h3⟩:=Qe9 h
  simp only[Qj,List.length_cons,List.length_nil] at h1 h2 h3
  have hold:∀p,p<ms0.length→ms[p]?=ms0[p]?:=fun p hp=>by rw[h2 p (by omega),Qz hp]
  refine⟨by rw[List.length_cons];omega,hold,?_⟩
  intro p o' ho'
  cases p with
  |zero=>
   simp only[List.getElem?_cons_zero,Qb] at ho'
   subst ho'
   refine⟨m,by rw[Nat.add_zero,h2 _ (by omega),QE (by omega)];simp,fun e he=>by simpa using Qc8 hm e he,fun j=>?_⟩
   rw[Qiw hm]
   constructor
   ·rintro⟨e,he,me,hme,hj⟩
    exact⟨e,he,me,by rw[hold e (Qc8 hm e he)];exact hme,hj⟩
   ·rintro⟨e,he,me,hme,hj⟩
    exact⟨e,he,me,by rw[←hold e (Qc8 hm e he)];exact hme,hj⟩
  |succ p=>
   obtain⟨m',g1,g2,g3⟩:=h3 p o' (by simpa using ho')
   exact⟨m',by rw[←g1];congr 1;omega,fun e he=>by have:=g2 e he;omega,g3⟩
theorem QoG{n0 m id:Nat}(h:Qa7 n0 m id=true):id<n0∨m.testBit ((id-n0)/64)=true:=by
 unfold Qa7 at h
 split at h
 ·exact .inl ‹_›
 ·refine .inr ?_
  rw[Nat.testBit_eq_decide_div_mod_eq]
  simpa using h
theorem Qix{sl:Sl}{hp:Hp}{op:LOp}(h:op.mk=false):muI sl hp op=[]:=by
 cases op<;>simp_all [LOp.mk,muI]
theorem Qfa{sl:Sl}{hp:Hp}{op:LOp}(h:op.rk=false):rdI sl hp op=[]:=by
 cases op<;>simp_all [LOp.rk,LOp.mk,rdI]
theorem Qiy{ms:List Nat}{l:List LI}{i:Nat}(hi:i<l.length):lk (QcK ms l) i=none∧Zn ms l i=(none,[],false)∨lk (QcK ms l) i=some (Zn ms l i):=by
 have key:∀(r:List Nat),i∈r→lk (r.filterMap fun i=>match Zn ms l i with
  |(none,[],false)=>none
  |e=>some (i,e)) i=none∧Zn ms l i=(none,[],false)∨lk (r.filterMap fun i=>match Zn ms l i with
  |(none,[],false)=>none
  |e=>some (i,e)) i=some (Zn ms l i):=by
  have hno:∀r:List Nat,Zn ms l i=(none,[],false)→lk (r.filterMap fun i=>match Zn ms l i with
  |(none,[],false)=>none
  |e=>some (i,e)) i=none:=by
   intro r h
   induction r with
   |nil=>rfl
   |cons a r ih=>
    rw[List.filterMap_cons]
    split
    ·exact ih
    ·rename_i q hq
     have:q.1=a∧q.2=Zn ms l a∧Zn ms l a≠(none,[],false):=by
      split at hq
      ·cases hq
      ·rename_i e hne heq
       simp only[Qb] at hq
       subst hq
       exact⟨rfl,rfl,fun h=>heq h⟩
     obtain⟨q1,q2⟩:=q
     simp only at this
     obtain⟨rfl,rfl,hne⟩:=this
     have hia:i≠q1:=fun e=>hne (e▸h)
     simp only[lk,if_neg hia]
     exact ih
  intro r hr
  by_cases hc:Zn ms l i=(none,[],false)
  ·exact .inl ⟨hno r hc,hc⟩
  ·refine .inr ?_
   induction r with
   |nil=>simp at hr
   |cons a r ih=>
    rw[List.filterMap_cons]
    by_cases hia:i=a
    ·subst hia
     split
     ·rename_i hq
      split at hq
      ·rename_i h0;exact absurd h0 hc
      ·cases hq
     ·rename_i q hq
      split at hq
      ·cases hq
      ·simp only[Qb] at hq
       subst hq
       simp [lk]
    ·have hr':i∈r:=by simpa [hia] using hr
     split
     ·exact ih hr'
     ·rename_i q hq
      have:q.1=a:=by
       split at hq
       ·cases hq
       ·simp only[Qb] at hq
        subst hq
        rfl
      obtain⟨q1,q2⟩:=q
      simp only at this
      subst this
      simp only[lk,if_neg hia]
      exact ih hr'
 exact key _ (by simpa using hi)
theorem Qiz{n:Nat}{f:Nat→Bool}(h:Qel n f=true):∀i,i<n→f i=true:=fun i hi=>Qs.1 h i (by simpa using hi)
theorem Qfb{x y:LI}(h:x.apart y=true):(∀d,x.dst=some d→d∉y.reads)∧(∀d,x.dst=some d→y.dst≠some d)∧(∀d,y.dst=some d→d∉x.reads):=by
 unfold LI.apart at h
 rw[Qk] at h
 obtain⟨h1,h2⟩:=h
 refine⟨fun d hd=>?_,fun d hd hy=>?_,fun d hd=>?_⟩
 ·rw[hd] at h1;simp only[Qk,Bool.not_eq_true',List.contains_eq_mem,QL] at h1;exact h1.1
 ·rw[hd,hy] at h1;simp at h1
 ·rw[hd] at h2;simpa using h2
theorem Je{o:Option Nat}{d:D}{sl:Sl}{t:Nat}:lk (Q5 o d sl) t=if o=some t then some d else lk sl t:=by
 cases o with
 |none=>simp [Q5]
 |some u=>
  simp only[Q5,Xw,Qb]
  by_cases h:t=u
  ·simp [h]
  ·rw[if_neg h,if_neg (Ne.symm h)]
theorem Loc.ext{S:Nat→Prop}{T:Hp→Hp}(h:Loc S T){l m:Hp}(he:∀id,lk m id=lk l id)(id:Nat):lk (T m) id=lk (T l) id:=by
 by_cases hs:S id
 ·exact h.same l m (fun i _=>he i) id hs
 ·rw[h.out m id hs,h.out l id hs,he]
theorem Loc.comm{S S':Nat→Prop}{T U:Hp→Hp}(h:Loc S T)(k:Loc S' U)(hd:∀id,S id→¬S' id)(l:Hp)(id:Nat):lk (T (U l)) id=lk (U (T l)) id:=by
 by_cases hs:S id
 ·rw[k.out (T l) id (hd id hs)]
  exact h.same l (U l) (fun i hi=>k.out l i (hd i hi)) id hs
 ·rw[h.out (U l) id hs]
  by_cases hs':S' id
  ·exact (k.same l (T l) (fun i hi=>h.out l i (fun hh=>hd i hh hi)) id hs').symm
  ·rw[k.out l id hs',k.out (T l) id hs',h.out l id hs]
structure Free(k:Nat)(X:Nat→LI)(ms:Nat→Nat)(T:Nat→Hp→Hp)(rd:Nat→List Nat)(F:Nat→Nat→Prop):Prop where
 loc:∀p,p<k→Loc (F p) (T p)
 lt:∀p,p<k→∀j,(ms p).testBit j=true→j<p
 ap:∀p q,q<p→p<k→(ms p).testBit q=false→(X q).apart (X p)=true
 rdp:∀p q,q<p→p<k→(ms p).testBit q=false→∀id∈rd p,¬F q id
 rdq:∀p q,q<p→p<k→(ms p).testBit q=false→∀id∈rd q,¬F p id
 ff:∀p q,q<p→p<k→(ms p).testBit q=false→∀id,F p id→¬F q id
section
variable {k:Nat} {X:Nat→LI} {ms:Nat→Nat} {T:Nat→Hp→Hp} {rd:Nat→List Nat} {F:Nat→Nat→Prop} {L:Nat→Bool} {i:Nat} {sl:Sl} {hp:Hp} {d:Nat→D} {x:Nat→Option Nat}
theorem Free.bit(hc:∀p,p<k→L p=true→∀j,(ms p).testBit j=true→L j=true){p q:Nat}(hp:p<k)(hL:L p=true)(hq:L q=false):(ms p).testBit q=false:=by
 cases h:(ms p).testBit q
 ·rfl
 ·rw[hc p hp hL q h] at hq;cases hq
theorem Free.slots(h:Free k X ms T rd F)(hx:∀p,p<k→x p=(X p).dst)(hi:i<k)(hL:L i=false)(hm:∀j,(ms i).testBit j=true→L j=true)(hc:∀p,p<k→L p=true→∀j,(ms p).testBit j=true→L j=true)
  {t:Nat} (ht:t∈(X i).reads):lk (SLf x d L sl k) t=lk (SLf x d (fun _=>true) sl i) t:=by
 have A:∀p,p≤i→lk (SLf x d L sl p) t=lk (SLf x d (fun _=>true) sl p) t:=by
  intro p
  induction p with
  |zero=>intro _;rfl
  |succ p ih=>
   intro hp
   have ih:=ih (by omega)
   simp only[SLf,if_true]
   split
   ·rw[Je,Je,ih]
   ·rename_i hLp
    rw[Je,if_neg,ih]
    intro e
    have hb:(ms i).testBit p=false:=by
     cases hb:(ms i).testBit p
     ·rfl
     ·exact absurd (hm p hb) hLp
    exact (Qfb (h.ap i p (by omega) hi hb)).1 t (by rw[←hx p (by omega)];exact e) ht
 have Bc:∀r,i+r≤k→lk (SLf x d L sl (i+r)) t=lk (SLf x d L sl i) t:=by
  intro r
  induction r with
  |zero=>intro _;rfl
  |succ r ih=>
   intro hr
   have ih:=ih (by omega)
   rw[←QA]
   simp only[SLf]
   split
   ·rename_i hLp
    have hri:r≠0:=fun e=>by subst e;rw[Nat.add_zero,hL] at hLp;cases hLp
    rw[Je,if_neg,ih]
    intro e
    exact (Qfb (h.ap (i+r) i (by omega) (by omega) (Free.bit hc (by omega) hLp hL))).2.2 t (by rw[←hx _ (by omega)];exact e) ht
   ·exact ih
 have:=Bc (k-i) (by omega)
 rw[show i+(k-i)=k by omega] at this
 rw[this,A i (Qg _)]
theorem Free.heap(h:Free k X ms T rd F)(hi:i<k)(hL:L i=false)(hm:∀j,(ms i).testBit j=true→L j=true)(hc:∀p,p<k→L p=true→∀j,(ms p).testBit j=true→L j=true)
  {id:Nat} (hid:id∈rd i):lk (HPf T L hp k) id=lk (HPf T (fun _=>true) hp i) id:=by
 have A:∀p,p≤k→∀id,(∀q,q<p→L q=false→¬F q id)→lk (HPf T L hp p) id=lk (HPf T (fun _=>true) hp p) id:=by
  intro p
  induction p with
  |zero=>intro _ _ _;rfl
  |succ p ih=>
   intro hp id hq
   have ih:=ih (by omega)
   simp only[HPf,if_true]
   split
   ·rename_i hLp
    by_cases hF:F p id
    ·exact (h.loc p (by omega)).same _ _ (fun id' hF'=>ih id' fun q hq hLq=>h.ff p q hq (by omega) (Free.bit hc (by omega) hLp hLq) id' hF') id hF
    ·rw[(h.loc p (by omega)).out _ id hF,(h.loc p (by omega)).out _ id hF]
     exact ih id fun q hq' hLq=>hq q (by omega) hLq
   ·rename_i hLp
    rw[(h.loc p (by omega)).out _ id (hq p (by omega) (by simpa using hLp))]
    exact ih id fun q hq' hLq=>hq q (by omega) hLq
 have Bc:∀r,i+r≤k→lk (HPf T L hp (i+r)) id=lk (HPf T L hp i) id:=by
  intro r
  induction r with
  |zero=>intro _;rfl
  |succ r ih=>
   intro hr
   have ih:=ih (by omega)
   rw[←QA]
   simp only[HPf]
   split
   ·rename_i hLp
    have hri:r≠0:=fun e=>by subst e;rw[Nat.add_zero,hL] at hLp;cases hLp
    rw[(h.loc (i+r) (by omega)).out _ id (h.rdq (i+r) i (by omega) (by omega) (Free.bit hc (by omega) hLp hL) id hid)]
    exact ih
   ·exact ih
 have:=Bc (k-i) (by omega)
 rw[show i+(k-i)=k by omega] at this
 rw[this]
 refine A i (by omega) id fun q hq hLq=>h.rdp i q hq hi ?_ id hid
 cases hb:(ms i).testBit q
 ·rfl
 ·rw[hm q hb] at hLq;cases hLq
def Zu(L:Nat→Bool)(i:Nat):Nat→Bool:=fun p=>p==i||L p
theorem J5{q:Nat}(h:q≠i):Zu L i q=L q:=by simp [Zu,h]
theorem Free.slots'(h:Free k X ms T rd F)(hx:∀p,p<k→x p=(X p).dst)(hi:i<k)(hL:L i=false)(hc:∀p,p<k→L p=true→∀j,(ms p).testBit j=true→L j=true)
  (t:Nat):lk (Q5 (x i) (d i) (SLf x d L sl k)) t=lk (SLf x d (Zu L i) sl k) t:=by
 have A:∀r,i+1+r≤k→lk (Q5 (x i) (d i) (SLf x d L sl (i+1+r))) t=lk (SLf x d (Zu L i) sl (i+1+r)) t:=by
  intro r
  induction r with
  |zero=>
   intro _
   simp only[Nat.add_zero,SLf,hL,Bool.false_eq_true,if_false]
   rw[if_pos (by simp [Zu]),Qe7 i fun q hq=>(J5 (L:=L) (i:=i) (q:=q) (by omega))]
  |succ r ih=>
   intro hr
   have ih:=ih (by omega)
   rw[←QA]
   simp only[SLf,J5 (L:=L) (i:=i) (q:=i+1+r) (by omega)]
   split
   ·rename_i hLp
    have ap:=(Qfb (h.ap (i+1+r) i (by omega) (by omega) (Free.bit hc (by omega) hLp hL))).2.1
    rw[←hx _ (by omega),←hx _ (by omega)] at ap
    rw[Je,Je,Je,←ih,Je]
    by_cases e:x i=some t
    ·rw[if_pos e,if_neg (ap t e),if_pos e]
    ·rw[if_neg e,if_neg e]
   ·exact ih
 have:=A (k-i-1) (by omega)
 rwa [show i+1+(k-i-1)=k by omega] at this
theorem Free.heap'(h:Free k X ms T rd F)(hi:i<k)(hL:L i=false)(hc:∀p,p<k→L p=true→∀j,(ms p).testBit j=true→L j=true)
  (id:Nat):lk (T i (HPf T L hp k)) id=lk (HPf T (Zu L i) hp k) id:=by
 have A:∀r,i+1+r≤k→∀id,lk (T i (HPf T L hp (i+1+r))) id=lk (HPf T (Zu L i) hp (i+1+r)) id:=by
  intro r
  induction r with
  |zero=>
   intro _ id
   simp only[Nat.add_zero,HPf,hL,Bool.false_eq_true,if_false]
   rw[if_pos (by simp [Zu]),Qe8 i fun q hq=>(J5 (L:=L) (i:=i) (q:=q) (by omega))]
  |succ r ih=>
   intro hr id
   have ih:=ih (by omega)
   rw[←QA]
   simp only[HPf,J5 (L:=L) (i:=i) (q:=i+1+r) (by omega)]
   split
   ·rename_i hLp
    have hff:=h.ff (i+1+r) i (by omega) (by omega) (Free.bit hc (by omega) hLp hL)
    rw[(h.loc i hi).comm (h.loc (i+1+r) (by omega)) (fun id h1 h2=>hff id h2 h1)]
    exact (h.loc (i+1+r) (by omega)).ext ih id
   ·exact ih id
 have:=A (k-i-1) (by omega) id
 rwa [show i+1+(k-i-1)=k by omega] at this
end
section
variable {B:Base} {κ κ':Nat→Option KI} {hp hp':Hp} {F:Nat→Prop} {w w':World} {sl sl':Sl} {tm:Array Value}
theorem Qfc(h:∀id,lk hp' id=lk hp id):OB κ hp'=OB κ hp:=by
 funext w id b;simp only[OB,h]
theorem Qfd(h:∀id,lk hp' id=lk hp id):Im B κ hp' w=Im B κ hp w:=by
 funext b;simp only[Im,Zz,Qfc h]
theorem RH.ext(h:RH B κ hp F w)(he:∀id,lk hp' id=lk hp id):RH B κ hp' F w:=by
 refine⟨h.stp,h.fr,fun id e hl=>?_,fun b hb=>h.own b ?_,fun id id' b=>?_⟩
 ·rw[Qfd he];exact h.ent id e (by rw[←he];exact hl)
 ·simpa only[Zz,Qfc he] using hb
 ·rw[Qfc he];exact h.inj id id' b
theorem RS.ext(h:RS B κ hp w sl tm)(he:∀id,lk hp' id=lk hp id)(hs:∀t,lk sl' t=lk sl t):RS B κ hp' w sl' tm:=by
 refine⟨h.size,fun t d ht=>?_,h.fx⟩
 rw[Qfd he]
 exact h.sl t d (by rw[←hs];exact ht)
theorem Nxt.ext{hp0:Hp}(h:Nxt B κ κ' hp0 hp w w')(he:∀id,lk hp' id=lk hp id):Nxt B κ κ' hp0 hp' w w':=
 ⟨h.kle,by rw[Qfd he];exact h.keep⟩
theorem Ow.ext{e:Ent}{k:KI}{b:Nat}(hh:w'.heap=w.heap):Ow w' e k b=Ow w e k b:=propext ⟨fun h=>h.congr fun _ _=>by rw[hh],fun h=>h.congr fun _ _=>by rw[hh]⟩
theorem Qfe(hh:w'.heap=w.heap):OB κ hp w'=OB κ hp w:=by
 funext id b;simp only[OB,Ow.ext hh]
theorem QoH(hh:w'.heap=w.heap)(h1:w'.os=w.os)(h2:w'.tape=w.tape)(h3:w'.output=w.output)(h4:w.drawn≤w'.drawn)(h:RH B κ hp F w):RH B κ hp F w'∧Nxt B κ κ hp hp w w':=by
 have hI:∀b,Im B κ hp w b→Im B κ hp w' b:=fun b ⟨a1,a2,a3⟩=>⟨a1,by rw[hh];exact a2,by unfold Zz;rw[Qfe hh];exact a3⟩
 have hk:Keep w w' (Im B κ hp w) (Im B κ hp w'):=⟨hI,fun b _=>by rw[hh]⟩
 refine⟨⟨?_,h.fr,fun id e he=>ER.mono hk (fun _ _ h=>h) (fun _ q b _ _=>by rw[hh]) (h.ent id e he),fun b hb=>?_,by rw[Qfe hh];exact h.inj⟩,⟨fun _ _ h=>h,hk⟩⟩
 ·have hs:=h.stp
  exact⟨h1.trans hs.os,h2.trans hs.tape,h3.trans hs.output,by rw[hh];exact hs.size,fun b hb hO=>by rw[hh];exact hs.block b hb hO,fun b c e fr hg=>by rw[hh];exact hs.len b c e fr hg⟩
 ·unfold Zz at hb;rw[Qfe hh] at hb;rw[hh];exact h.own b hb
end
theorem Qff{α β:Type}{f:α→Option β}:∀{l:List α}{m:List β},QU f l=some m→m.length=l.length∧∀(p:Nat)(a:α),l[p]?=some a→∃b,f a=some b∧m[p]?=some b
 |[],m,h=>by simp only[QU,Qb] at h;subst h;simp
 |a::l,m,h=>by
  simp only[QU] at h
  split at h
  case h_2=>cases h
  rename_i b m' hb hm'
  simp only[Qb] at h
  subst h
  obtain⟨h1,h2⟩:=Qff hm'
  refine⟨by simp [h1],fun p a' hp=>?_⟩
  cases p with
  |zero=>simp only[List.getElem?_cons_zero,Qb] at hp;subst hp;exact⟨b,hb,rfl⟩
  |succ p=>exact h2 p a' hp
section
variable {P:Program} {B:Base} {H:Hints} {ops:Array Oper} {l:List LI} {ms:List Nat}
theorem QoI{x y:LOp}(h:¬y.may x=true):(y.mk=false∨x.rk=false)∧(y.rk=false∨x.mk=false):=by
 unfold LOp.may at h
 generalize y.mk=a at h ⊢
 generalize x.mk=b at h ⊢
 generalize y.rk=c at h ⊢
 generalize x.rk=d at h ⊢
 revert a b c d
 decide
theorem QoJ{n0:Nat}{s:St}{K:St→Prop}(hm:Qaw ops.toList []=some ms)(hll:l.length=ops.size)(hsl:QgX ms l=true)(hdet:∀x∈l,x.op.det=true)
  (hfresh:∀id,n0≤id→lk s.hp id=none) (hw:WD P (QcK ms l) n0 l 0 n0 [] s K):
  ∃(d:Nat→D) (T:Nat→Hp→Hp) (rd mu:Nat→List Nat),
   K ⟨SLf (Y7 l) d (fun _=>true) s.sl l.length,HPf T (fun _=>true) s.hp l.length,n0+64*l.length⟩∧
   (∀p x,l[p]?=some x→Fra P (n0+64*p) x ⟨SLf (Y7 l) d (fun _=>true) s.sl p,HPf T (fun _=>true) s.hp p,s.nx⟩ (d p) (T p) (rd p) (mu p))∧
   Free l.length (fun p=>(l[p]?).getD default) (fun p=>ms.getD p 0) T rd (fun p=>Fp (n0+64*p) ((l[p]?).getD default).op.ck (mu p)):=by
 obtain⟨d,T,rd,mu,hK,hF⟩:=Qiv l 0 n0 [] s hdet (by simp [lk]) hw
 refine⟨d,T,rd,mu,hK,fun p x hp=>(hF p x hp).1,?_⟩
 obtain⟨hml,_,hms⟩:=Qe9 hm
 have hx:∀p,p<l.length→∃x,l[p]?=some x:=fun p hp=>⟨_,Qn hp⟩
 have hfra:∀p,p<l.length→Fra P (n0+64*p) ((l[p]?).getD default) ⟨SLf (Y7 l) d (fun _=>true) s.sl p,HPf T (fun _=>true) s.hp p,s.nx⟩ (d p) (T p) (rd p) (mu p):=by
  intro p hp
  obtain⟨x,hx⟩:=hx p hp
  rw[hx]
  exact (hF p x hx).1
 have hmsp:∀p,p<l.length→∃m,ms[p]?=some m∧ms.getD p 0=m:=by
  intro p hp
  have:p<ms.length:=by simp at hml;omega
  exact⟨ms[p],Qn this,by simp [this]⟩
 have hlt:∀p,p<l.length→∀j,(ms.getD p 0).testBit j=true→j<p:=by
  intro p
  induction p using Nat.strongRecOn with
  |_ p ih=>
   intro hp j hj
   obtain⟨m,hmp,hmd⟩:=hmsp p hp
   have hpo:p<ops.toList.length:=by simp;omega
   obtain⟨m',hm',he,hb⟩:=hms p _ (Qn hpo)
   simp only[List.length_nil,Nat.zero_add] at hm' he
   rw[hmp,Qb] at hm'
   subst hm'
   rw[hmd,hb] at hj
   obtain⟨e,hea,me,hme,rfl|hj⟩:=hj
   ·exact he _ hea
   ·have hep:=he e hea
    have:=ih e hep (by omega) j (by simpa [hme] using hj)
    omega
 have hap:∀p q,q<p→p<l.length→(ms.getD p 0).testBit q=false→((l[q]?).getD default:LI).apart ((l[p]?).getD default)=true:=by
  intro p q hq hp hb
  have:=Qiz (Qiz hsl p hp) q hq
  obtain⟨m,hmp,hmd⟩:=hmsp p hp
  obtain⟨x,hxp⟩:=hx p hp
  obtain⟨y,hyq⟩:=hx q (by omega)
  rw[hmd] at hb
  simp only[hmp,hxp,hyq,hb,Bool.false_or] at this
  simpa [hxp,hyq] using this
 have hA:∀p q,q<p→p<l.length→(ms.getD p 0).testBit q=false→(∀id∈mu p,id∉rd q)∧(∀id∈mu q,id∉rd p):=by
  intro p q hq hp hb
  obtain⟨m,hmp,hmd⟩:=hmsp p hp
  obtain⟨x,hxp⟩:=hx p hp
  obtain⟨y,hyq⟩:=hx q (by omega)
  have fp:=(hF p x hxp).1
  have fq:=(hF q y hyq).1
  by_cases hmay:y.op.may x.op=true
  ·have hmem:q∈QcJ ms l p:=by
    unfold QcJ
    rw[List.mem_filter]
    refine⟨by simpa using hq,?_⟩
    rw[hmd] at hb
    simp [hmp,hxp,hyq,hb,hmay]
   rcases Qiy (ms:=ms) hp with⟨_,h⟩|h
   ·simp only[Zn,Qc] at h
    rw[h.2.1] at hmem
    cases hmem
   ·obtain⟨_,hd⟩:=(hF p x hxp).2 _ _ _ (by rw[Nat.zero_add,h])
    obtain⟨h1,h2⟩:=((hd q hmem).1 q (by omega)).2
    exact⟨h1,h2⟩
  ·replace hmay:=QoI hmay
   refine⟨fun id h1 h2=>?_,fun id h1 h2=>?_⟩
   ·rcases hmay.2 with h|h
    ·have:=(fq.pre id h2).2;rw[Qfa h] at this;cases this
    ·have:=(fp.mu id h1).2;rw[Qix h] at this;cases this
   ·rcases hmay.1 with h|h
    ·have:=(fq.mu id h1).2;rw[Qix h] at this;cases this
    ·have:=(fp.pre id h2).2;rw[Qfa h] at this;cases this
 have hpres:∀p,p≤l.length→∀id,n0+64*p≤id→lk (HPf T (fun _=>true) s.hp p) id=none:=by
  intro p
  induction p with
  |zero=>intro _ id hid;exact hfresh id (by omega)
  |succ p ih=>
   intro hp id hid
   have ih:=ih (by omega)
   simp only[HPf,if_true]
   have fp:=hfra p (by omega)
   rw[fp.loc.out]
   ·exact ih id (by omega)
   ·rintro (h|⟨_,_,h⟩)
    ·exact (fp.pre id (fp.mu id h).1).1 (ih id (by omega))
    ·omega
 have hrdlt:∀p,p<l.length→∀id∈rd p,id<n0+64*p:=by
  intro p hp id hid
  refine Nat.lt_of_not_le fun hle=>(hfra p hp).pre id hid|>.1 (hpres p (by omega) id hle)
 have hrdp:∀p q,q<p→p<l.length→(ms.getD p 0).testBit q=false→∀id∈rd p,¬Fp (n0+64*q) ((l[q]?).getD default).op.ck (mu q) id:=by
  intro p q hq hp hb id hid
  rintro (h|⟨hck,h1,h2⟩)
  ·exact (hA p q hq hp hb).2 id h hid
  ·obtain⟨m,hmp,hmd⟩:=hmsp p hp
   obtain⟨x,hxp⟩:=hx p hp
   obtain⟨y,hyq⟩:=hx q (by omega)
   have hrk:x.op.rk=true:=by
    cases h:x.op.rk
    ·have:=((hF p x hxp).1.pre id hid).2;rw[Qfa h] at this;cases this
    ·rfl
   have hnew:Qem ms l p=true:=by
    unfold Qem
    rw[List.any_eq_true]
    refine⟨q,by simpa using hq,?_⟩
    rw[hmd] at hb
    simp only[hyq,Option.getD_some] at hck
    simp [hmp,hxp,hyq,hb,hrk,hck]
   rcases Qiy (ms:=ms) hp with⟨_,h⟩|h
   ·simp [Zn,hnew] at h
   ·obtain⟨hok,_⟩:=(hF p x hxp).2 _ _ _ (by rw[Nat.zero_add,h])
    rcases QoG (hok (ms.getD p 0) (by simp only[Zn,hnew,if_true]) id hid) with h|h
    ·omega
    ·rw[show (id-n0)/64=q by omega,hb] at h;cases h
 have hrdq:∀p q,q<p→p<l.length→(ms.getD p 0).testBit q=false→∀id∈rd q,¬Fp (n0+64*p) ((l[p]?).getD default).op.ck (mu p) id:=by
  intro p q hq hp hb id hid
  rintro (h|⟨hck,h1,h2⟩)
  ·exact (hA p q hq hp hb).1 id h hid
  ·have:=hrdlt q (by omega) id hid
   omega
 refine⟨fun p hp=>(hfra p hp).loc,hlt,hap,hrdp,hrdq,fun p q hq hp hb id h1 h2=>?_⟩
 rcases h1 with h1|⟨_,h1,_⟩
 ·exact hrdp p q hq hp hb id ((hfra p hp).mu id h1).1 h2
 ·rcases h2 with h2|⟨_,_,h2⟩
  ·have:=hrdlt q (by omega) id ((hfra q (by omega)).mu id h2).1
   omega
  ·omega
theorem Qc9{listed:Array Bool}{i p:Nat}(hi:i<listed.size):(listed.setIfInBounds i true).getD p false=Zu (fun p=>listed.getD p false) i p:=by
 by_cases h:p=i
 ·subst h;simp [Zu,hi]
 ·rw[getD_set_ne false (Ne.symm h),J5 h]
theorem Qfg{listed:Array Bool}{p:Nat}(hp:p<listed.size):listed.getD p true=listed.getD p false:=by
 simp [hp]
theorem QoK{n0:Nat}{s0:St}{κ0:Nat→Option KI}{w0:World}{df:List Deferred}{Q:Exit→Act→World→Prop}(hfx:B.fx=H.fx)(hl:QU (cI P H B.N ops) ops.toList=some l)(hm:Qaw ops.toList []=some ms)
  {d:Nat→D} {T:Nat→Hp→Hp} {rd mu:Nat→List Nat}
  (hfra:∀p x,l[p]?=some x→Fra P (n0+64*p) x ⟨SLf (Y7 l) d (fun _=>true) s0.sl p,HPf T (fun _=>true) s0.hp p,s0.nx⟩ (d p) (T p) (rd p) (mu p))
  (hfree:Free l.length (fun p=>(l[p]?).getD default) (fun p=>ms.getD p 0) T rd (fun p=>Fp (n0+64*p) ((l[p]?).getD default).op.ck (mu p)))
  (hn:∀κ' a' w',RH B κ' (HPf T (fun _=>true) s0.hp l.length) (fun id=>n0+64*l.length≤id) w'→RS B κ' (HPf T (fun _=>true) s0.hp l.length) w' (SLf (Y7 l) d (fun _=>true) s0.sl l.length) a'.tmps→
   Nxt B κ0 κ' s0.hp (HPf T (fun _=>true) s0.hp l.length) w0 w'→a'.defers=df→Q .normal a' w'):
  ∀(fuel:Nat)(listed:Array Bool)(a:Act)(w:World)(U:List Nat)(κ:Nat→Option KI)(sl:Sl)(hp:Hp),
   listed.size=ops.size→(∀p,p<l.length→listed.getD p false=false→p∈U)→U.length≤fuel→
   (∀p,p<l.length→listed.getD p false=true→∀j,(ms.getD p 0).testBit j=true→listed.getD j false=true)→
   (∀t,lk sl t=lk (SLf (Y7 l) d (fun p=>listed.getD p false) s0.sl l.length) t)→(∀id,lk hp id=lk (HPf T (fun p=>listed.getD p false) s0.hp l.length) id)→
   RH B κ hp (fun id=>n0+64*l.length≤id∨∃p,p<l.length∧listed.getD p false=false∧n0+64*p≤id∧id<n0+64*p+64) w→RS B κ hp w sl a.tmps→Nxt B κ0 κ s0.hp hp w0 w→a.defers=df→
   wpAny P .any ops Q fuel listed a w:=by
 obtain⟨hll,hci⟩:=Qff hl
 obtain⟨hml,_,hms⟩:=Qe9 hm
 simp only[List.length_nil,Nat.zero_add,Array.length_toList] at hml hms hll
 have hx:∀p,p<l.length→Y7 l p=((l[p]?).getD default:LI).dst:=by
  intro p hp
  simp [Y7,Qn hp]
 have hmsk:∀p o,ops[p]?=some o→(∀e∈aft o,e<p)∧∀j,(ms.getD p 0).testBit j=true↔∃e∈aft o,(j=e∨(ms.getD e 0).testBit j=true):=by
  intro p o ho
  obtain⟨m,h1,h2,h3⟩:=hms p o (by simpa using ho)
  refine⟨h2,fun j=>?_⟩
  have:ms.getD p 0=m:=by simp [h1]
  rw[this,h3]
  constructor
  ·rintro⟨e,he,me,hme,hj⟩
   exact⟨e,he,by simpa [hme] using hj⟩
  ·rintro⟨e,he,hj⟩
   have hep:e<ms.length:=by
    have:=h2 e he
    have:p<ops.size:=(QB.1 ho).1
    omega
   exact⟨e,he,ms[e],Qn hep,by simpa [hep] using hj⟩
 have hedge:∀(o:Oper)(listed:Array Bool),(∀e∈o.after,Region.binds .any e=true→listed.getD e.on false=true)↔∀e∈aft o,listed.getD e false=true:=by
  intro o listed
  simp only[aft,Qv,List.mem_filter,Array.mem_toList_iff]
  constructor
  ·rintro h e ⟨e',⟨h1,h2⟩,rfl⟩;exact h e' h1 h2
  ·intro h e h1 h2;exact h e.on ⟨e,⟨h1,h2⟩,rfl⟩
 intro fuel
 have done:∀(listed:Array Bool)(a:Act)(w:World)(κ:Nat→Option KI)(sl:Sl)(hp:Hp),
   listed.size=ops.size→(∀t,lk sl t=lk (SLf (Y7 l) d (fun p=>listed.getD p false) s0.sl l.length) t)→(∀id,lk hp id=lk (HPf T (fun p=>listed.getD p false) s0.hp l.length) id)→
   RH B κ hp (fun id=>n0+64*l.length≤id∨∃p,p<l.length∧listed.getD p false=false∧n0+64*p≤id∧id<n0+64*p+64) w→RS B κ hp w sl a.tmps→Nxt B κ0 κ s0.hp hp w0 w→a.defers=df→
   Region.ready .any ops listed=[]→Q .normal a w:=by
  intro listed a w κ sl hp hsz hs hh hR hS hN hD hr
  have all:∀p,p<l.length→listed.getD p false=true:=by
   intro p
   induction p using Nat.strongRecOn with
   |_ p ih=>
    intro hp
    cases hL:listed.getD p false with
    |true=>rfl
    |false=>
     exfalso
     have hpo:p<ops.size:=by omega
     have:p∈Region.ready .any ops listed:=by
      rw[mem_ready]
      refine⟨by rw[Qfg (by omega)];exact hL,_,Array.getElem?_eq_getElem hpo,?_⟩
      rw[hedge]
      intro e he
      have:=(hmsk p _ (Array.getElem?_eq_getElem hpo)).1 e he
      exact ih e this (by omega)
     rw[hr] at this
     cases this
  have e1:=Qe7 (x:=Y7 l) (d:=d) (sl:=s0.sl) (L:=fun p=>listed.getD p false) (L':=fun _=>true) l.length (fun q hq=>all q hq)
  have e2:=Qe8 (T:=T) (hp:=s0.hp) (L:=fun p=>listed.getD p false) (L':=fun _=>true) l.length (fun q hq=>all q hq)
  rw[e1] at hs
  rw[e2] at hh
  have hh':=fun id=>(hh id).symm
  exact hn κ a w ((hR.ext hh').same (fun id hid=>.inl hid)) (hS.ext hh' (fun t=>(hs t).symm)) (hN.ext hh') hD
 induction fuel with
 |zero=>
  intro listed a w U κ sl hp hsz hU hUl hcl hs hh hR hS hN hD
  have hr:Region.ready .any ops listed=[]:=by
   cases hr:Region.ready .any ops listed with
   |nil=>rfl
   |cons p r=>
    have hp:p∈Region.ready .any ops listed:=by rw[hr];simp
    rw[mem_ready] at hp
    obtain⟨h0,o,ho,_⟩:=hp
    have hpo:p<ops.size:=(QB.1 ho).1
    have:=hU p (by omega) (by rw[←Qfg (by omega)];exact h0)
    have:U=[]:=List.length_eq_zero_iff.1 (by omega)
    subst this
    simp_all
  exact⟨hr,done listed a w κ sl hp hsz hs hh hR hS hN hD hr⟩
 |succ fuel ih=>
  intro listed a w U κ sl hp hsz hU hUl hcl hs hh hR hS hN hD
  refine⟨done listed a w κ sl hp hsz hs hh hR hS hN hD,fun i hi=>?_⟩
  rw[mem_ready] at hi
  obtain⟨h0,o,ho,hed⟩:=hi
  rw[hedge] at hed
  have hio:i<ops.size:=(QB.1 ho).1
  have hik:i<l.length:=by omega
  have hLi:listed.getD i false=false:=by rw[←Qfg (by omega)];exact h0
  obtain⟨li,hcli,hli⟩:=hci i o (by simpa using ho)
  have hmi:∀j,(ms.getD i 0).testBit j=true→listed.getD j false=true:=by
   intro j hj
   obtain⟨e,he,rfl|hj⟩:=((hmsk i o ho).2 j).1 hj
   ·exact hed _ he
   ·have:=(hmsk i o ho).1 e he
    exact hcl e (by omega) (hed e he) j hj
  have hreads:∀t∈li.reads,lk sl t=lk (SLf (Y7 l) d (fun _=>true) s0.sl i) t:=by
   intro t ht
   rw[hs t]
   exact hfree.slots (L:=fun p=>listed.getD p false) hx hik hLi hmi hcl (by simpa [hli] using ht)
  have hheap:∀id∈rd i,lk hp id=lk (HPf T (fun _=>true) s0.hp i) id:=by
   intro id hid
   rw[hh id]
   exact hfree.heap (L:=fun p=>listed.getD p false) hik hLi hmi hcl hid
  have fr:=hfra i li hli
  have hst:=fr.go sl hp s0.nx hreads hheap
  have hdst:Y7 l i=li.dst:=by rw[hx i hik];simp [hli]
  have:=QhZ (n:=n0+64*i) (Q:=Q) (next:=wpAny P .any ops Q fuel (listed.setIfInBounds i true)) (s:=⟨sl,hp,s0.nx⟩) (a:=a) hR hS
   (fun k hk=>.inr ⟨i,hik,hLi,by omega,by omega⟩) hfx hcli hst (fun κ1 s1 a1 w1 hK hR1 hS1 hN1 hD1=>by
    subst hK
    have haL:(fun p=>(listed.setIfInBounds i true).getD p false)=Zu (fun p=>listed.getD p false) i:=by
     funext p;exact Qc9 (by omega)
    refine ih _ a1 w1 (U.erase i) κ1 _ _ (by simp [hsz]) ?_ ?_ ?_ ?_ ?_ ?_ hS1 (hN.trans hN1) (hD1.trans hD)
    ·intro p hp hL
     rw[Qc9 (by omega)] at hL
     have hpi:p≠i:=fun e=>by subst e;simp [Zu] at hL
     rw[J5 hpi] at hL
     exact (List.mem_erase_of_ne hpi).2 (hU p hp hL)
    ·rw[List.length_erase_of_mem (hU i hik hLi)];omega
    ·intro p hp hL j hj
     rw[Qc9 (by omega)] at hL ⊢
     have:listed.getD j false=true:=by
      by_cases hpi:p=i
      ·subst hpi;exact hmi j hj
      ·rw[J5 hpi] at hL;exact hcl p hp hL j hj
     simp [Zu,this]
    ·intro t
     rw[haL,←hfree.slots' (L:=fun p=>listed.getD p false) hx hik hLi hcl,Je,Je,hs t,hdst]
    ·intro id
     rw[haL,←hfree.heap' (L:=fun p=>listed.getD p false) hik hLi hcl]
     exact (hfree.loc i hik).ext hh id
    ·refine hR1.same fun id hid=>?_
     rcases hid with hid|⟨p,hp,hL,h1,h2⟩
     ·exact⟨.inl hid,.inr (by omega)⟩
     ·rw[Qc9 (by omega)] at hL
      have hpi:p≠i:=fun e=>by subst e;simp [Zu] at hL
      rw[J5 hpi] at hL
      exact⟨.inr ⟨p,hp,hL,h1,h2⟩,by omega⟩)
  unfold wpOp
  rw[ho]
  simp only
  split at this
  ·rename_i hw;rw[if_pos hw];exact .inl this
  ·rename_i hw;rw[if_neg hw];exact this
theorem QoL{κ:Nat→Option KI}{s:St}{a:Act}{w:World}{K:St→Prop}{cs:List (Nat×Option Nat×List Nat×Bool)}{Q:Exit→Act→World→Prop}{id:Nat}(hmx:P.follows .mixedOrders=true)(hfx:B.fx=H.fx)(hl:QU (cI P H B.N ops) ops.toList=some l)
  (hd:Qen ops.toList l=some cs) (h:RH B κ s.hp (fun id=>s.nx≤id) w) (hs:RS B κ s.hp w s.sl a.tmps) (hk:WD P cs s.nx l 0 s.nx [] s K)
  (hn:∀κ' s' a' w',K s'→RH B κ' s'.hp (fun id=>s'.nx≤id) w'→RS B κ' s'.hp w' s'.sl a'.tmps→Nxt B κ κ' s.hp s'.hp w w'→a'.defers=a.defers→Q .normal a' w'):(Code.region id ops true).wp P Q a w:=by
 unfold Qen at hd
 split at hd
 case h_2=>cases hd
 rename_i ms hm
 split at hd
 case isFalse=>cases hd
 rename_i hsl
 simp only[Qb] at hd
 subst hd
 rw[Qk,Qs] at hsl
 obtain⟨hsl,hdet⟩:=hsl
 obtain⟨hll,_⟩:=Qff hl
 simp only[Array.length_toList] at hll
 obtain⟨d,T,rd,mu,hK,hfra,hfree⟩:=QoJ hm hll hsl hdet (fun id hid=>h.fresh hid) hk
 obtain⟨hR,hN⟩:=QoH (w:=w) (w':={w with drawn:=w.drawn+1}) rfl rfl rfl rfl (Nat.le_succ _) h
 have emp:∀p,(Array.replicate ops.size false).getD p false=false:=by
  intro p
  simp only[Array.getD_eq_getD_getElem?,Array.getElem?_replicate]
  split<;>rfl
 have e1:∀p,SLf (Y7 l) d (fun p=>(Array.replicate ops.size false).getD p false) s.sl p=s.sl:=by
  intro p
  induction p with
  |zero=>rfl
  |succ p ih=>rw[SLf,if_neg (by rw[emp];simp)];exact ih
 have e2:∀p,HPf T (fun p=>(Array.replicate ops.size false).getD p false) s.hp p=s.hp:=by
  intro p
  induction p with
  |zero=>rfl
  |succ p ih=>rw[HPf,if_neg (by rw[emp];simp)];exact ih
 refine wp_region_any hmx (QoK (s0:=s) (κ0:=κ) (w0:=w) (df:=a.defers) hfx hl hm hfra hfree (fun κ' a' w' h1 h2 h3 h4=>hn κ' _ a' w' hK h1 h2 h3 h4) ops.size _ a _ (List.range l.length) κ s.sl s.hp (by simp) ?_ (by simp [hll]) ?_ ?_ ?_ ?_ (hs.next hN) hN rfl)
 ·intro p hp _;simpa using hp
 ·intro p hp h;rw[emp] at h;cases h
 ·intro t;rw[e1]
 ·intro t;rw[e2]
 ·refine hR.same fun id hid=>?_
  rcases hid with hid|⟨p,_,_,hid,_⟩<;>omega
end
end Go.Am
namespace Go.Am
open Go
section
variable {B:Base} {κ κ' κ'':Nat→Option KI} {hp:Hp} {F:Nat→Prop} {w:World} {n n':NS}
structure NI(B:Base)(κ:Nat→Option KI)(hp:Hp)(w:World)(n:NS)(κ':Nat→Option KI):Prop where
 fr:∀j,n.k≤j→κ' j=none
 map:∀id j,lk n.m id=some j→κ' j=κ id∧j<n.k
 ent:∀j e,lk n.e j=some e→j<n.k∧ER w (Im B κ hp w) κ' j e
 own:∀j b,OB κ' n.e w j b→∃id,lk n.m id=some j∧OB κ hp w id b
structure NN(hp:Hp)(n n':NS)(κ' κ'':Nat→Option KI):Prop where
 kle:Kle κ' κ''
 box:∀id cs,lk hp id=some (.box cs)→lk n.m id=none→lk n'.m id=none
theorem NN.refl:NN hp n n κ κ:=⟨fun _ _ h=>h,fun _ _ _ h=>h⟩
theorem NN.trans{n'':NS}(h:NN hp n n' κ κ')(k:NN hp n' n'' κ' κ''):NN hp n n'' κ κ'':=
 ⟨fun _ _ e=>k.kle _ _ (h.kle _ _ e),fun id cs h1 h2=>k.box id cs h1 (h.box id cs h1 h2)⟩
theorem NI.ends(h:NI B κ hp w n κ'):lk n.e n.k=none:=by
 cases he:lk n.e n.k with
 |none=>rfl
 |some e=>have:=(h.ent _ _ he).1;omega
theorem NI.snoc(h:NI B κ hp w n κ'){id:Nat}{e e0:Ent}(hid:lk n.m id=none)(he0:lk hp id=some e0)(how:e.owned=true→e0.owned=true∧∀k b,Ow w e k b→Ow w e0 k b){q:KI}(hq:κ id=some q)
  (he:ER w (Im B κ hp w) (Xf κ' n.k q) n.k e):NI B κ hp w ⟨(id,n.k)::n.m,n.e++[(n.k,e)],n.k+1⟩ (Xf κ' n.k q)∧Kle κ' (Xf κ' n.k q):=by
 have kle:Kle κ' (Xf κ' n.k q):=fun j k hj=>by
  rw[XS]
  ·exact hj
  ·intro e;subst e;rw[h.fr _ (Qg _)] at hj;cases hj
 have hends:=h.ends
 refine⟨⟨fun j hj=>?_,fun id' j hj=>?_,fun j e' hj=>?_,fun j b hj=>?_⟩,kle⟩
 ·simp only at hj
  rw[XS (by omega)]
  exact h.fr j (by omega)
 ·simp only[lk] at hj
  split at hj
  ·rename_i hi
   simp only[Qb] at hj
   subst hi hj
   exact⟨by rw[Xe,hq],by simp⟩
  ·obtain⟨h1,h2⟩:=h.map _ _ hj
   exact⟨by rw[XS (by omega),h1],by simp only;omega⟩
 ·simp only[Jy] at hj
  cases hl:lk n.e j with
  |some e1=>
   rw[hl] at hj
   simp only[Option.some_or,Qb] at hj
   subst hj
   obtain⟨h1,h2⟩:=h.ent _ _ hl
   exact⟨by simp only;omega,h2.mono ⟨fun _ h=>h,fun _ _=>rfl⟩ kle (fun _ _ _ _ _=>rfl)⟩
  |none=>
   rw[hl] at hj
   simp only[Option.none_or,lk] at hj
   split at hj
   ·rename_i hjk
    simp only[Qb] at hj
    subst hjk hj
    exact⟨by simp,he⟩
   ·cases hj
 ·obtain⟨e1,k,h1,h2,h3,h4⟩:=hj
  simp only[Jy] at h1
  cases hl:lk n.e j with
  |some e2=>
   rw[hl] at h1
   simp only[Option.some_or,Qb] at h1
   subst h1
   have hjk:=(h.ent _ _ hl).1
   rw[XS (by omega)] at h3
   obtain⟨id',g1,g2⟩:=h.own j b ⟨_,_,hl,h2,h3,h4⟩
   refine⟨id',?_,g2⟩
   simp only[lk]
   rw[if_neg]
   ·exact g1
   ·intro e;subst e;rw[hid] at g1;cases g1
  |none=>
   rw[hl] at h1
   simp only[Option.none_or,lk] at h1
   split at h1
   ·rename_i hjk
    simp only[Qb] at h1
    subst hjk h1
    rw[Xe,Qb] at h3
    subst h3
    exact⟨id,by simp [lk],e0,q,he0,(how h2).1,hq,(how h2).2 _ _ h4⟩
   ·cases h1
theorem NI.snocNil(h:NI B κ hp w n κ')(sz:Nat):NI B κ hp w ⟨n.m,n.e++[(n.k,.arr sz [])],n.k+1⟩ (Xf κ' n.k (.nil sz))∧Kle κ' (Xf κ' n.k (.nil sz)):=by
 have kle:Kle κ' (Xf κ' n.k (.nil sz)):=fun j k hj=>by
  rw[XS]
  ·exact hj
  ·intro e;subst e;rw[h.fr _ (Qg _)] at hj;cases hj
 refine⟨⟨fun j hj=>?_,fun id' j hj=>?_,fun j e' hj=>?_,fun j b hj=>?_⟩,kle⟩
 ·simp only at hj
  rw[XS (by omega)]
  exact h.fr j (by omega)
 ·obtain⟨h1,h2⟩:=h.map _ _ hj
  exact⟨by rw[XS (by omega),h1],by simp only;omega⟩
 ·simp only[Jy] at hj
  cases hl:lk n.e j with
  |some e1=>
   rw[hl] at hj
   simp only[Option.some_or,Qb] at hj
   subst hj
   obtain⟨h1,h2⟩:=h.ent _ _ hl
   exact⟨by simp only;omega,h2.mono ⟨fun _ h=>h,fun _ _=>rfl⟩ kle (fun _ _ _ _ _=>rfl)⟩
  |none=>
   rw[hl] at hj
   simp only[Option.none_or,lk] at hj
   split at hj
   ·rename_i hjk
    simp only[Qb] at hj
    subst hjk hj
    refine⟨by simp,?_⟩
    simp only[ER]
    exact⟨by simp,.inl ⟨Xe,trivial⟩⟩
   ·cases hj
 ·obtain⟨e1,k,h1,h2,h3,h4⟩:=hj
  simp only[Jy] at h1
  cases hl:lk n.e j with
  |some e2=>
   rw[hl] at h1
   simp only[Option.some_or,Qb] at h1
   subst h1
   have hjk:=(h.ent _ _ hl).1
   rw[XS (by omega)] at h3
   exact h.own j b ⟨_,_,hl,h2,h3,h4⟩
  |none=>
   rw[hl] at h1
   simp only[Option.none_or,lk] at h1
   split at h1
   ·rename_i hjk
    subst hjk
    rw[Xe,Qb] at h3
    subst h3
    simp only[Qb] at h1
    subst h1
    cases h4.own1 rfl
   ·cases h1
theorem Qfh(hR:RH B κ hp F w)(h:NI B κ hp w n κ'){d:D}{v:Value}(hd:MR w (Im B κ hp w) κ d v):
  ∃κ'',NI B κ hp w (XG hp n d).2 κ''∧NN hp n (XG hp n d).2 κ' κ''∧MR w (Im B κ hp w) κ'' (XG hp n d).1 v:=by
 have hnb:=MR.nb hd
 have un:(∀b,d≠.bool b)→XG hp n d=(.undef,n)→∃κ'',NI B κ hp w (XG hp n d).2 κ''∧NN hp n (XG hp n d).2 κ' κ''∧MR w (Im B κ hp w) κ'' (XG hp n d).1 v:=fun e0 e=>by
  rw[e];exact⟨κ',h,NN.refl,by simp only[MR];exact hnb e0⟩
 cases d
 case sl id lo len=>
  simp only[MR] at hd
  simp only[XG]
  cases hm:lk n.m id with
  |some j=>
   simp only
   obtain⟨h1,_⟩:=h.map _ _ hm
   refine⟨κ',h,NN.refl,?_⟩
   simp only[MR,h1]
   exact hd
  |none=>
   simp only
   cases he:lk hp id with
   |none=>exact⟨κ',h,NN.refl,by simp only[MR];exact hnb (by simp)⟩
   |some e=>
    obtain⟨q,hq⟩:=hR.place he
    have hent:=hR.ent _ _ he
    have nn:∀(n':NS),n'.m=(id,n.k)::n.m→(∀cs,e≠.box cs)→Kle κ' (Xf κ' n.k q)→NN hp n n' κ' (Xf κ' n.k q):=fun n' hn' hb kle=>by
     refine⟨kle,fun id' cs h1 h2=>?_⟩
     rw[hn']
     simp only[lk]
     rw[if_neg]
     ·exact h2
     ·intro ee;subst ee;rw[he] at h1;cases h1;exact hb _ rfl
    cases e with
    |box cs=>exact⟨κ',h,NN.refl,by simp only[MR];exact hnb (by simp)⟩
    |arr sz xs=>
     simp only
     obtain⟨g1,g2⟩:=h.snoc (e:=.arr sz xs) hm he (fun h=>⟨h,fun _ _ h=>h⟩) hq (by simp only[ER,Xe] at hent ⊢;rw[←hq];exact hent)
     refine⟨_,g1,nn _ rfl (fun _=>by simp) g2,?_⟩
     simp only[MR,Xe]
     rw[←hq];exact hd
    |imm sz xs=>
     simp only
     obtain⟨g1,g2⟩:=h.snoc (e:=.imm sz xs) hm he (fun h=>⟨h,fun _ _ h=>h⟩) hq (by simp only[ER,Xe] at hent ⊢;rw[←hq];exact hent)
     refine⟨_,g1,nn _ rfl (fun _=>by simp) g2,?_⟩
     simp only[MR,Xe]
     rw[←hq];exact hd
    |nst sz l o=>
     simp only
     obtain⟨g1,g2⟩:=h.snoc (e:=.nst sz l none) hm he (fun h=>⟨h,fun k _ h=>h.imp (fun g=>g) (fun g=>by cases k<;>exact g)⟩) hq (by
      simp only[ER,Xe] at hent ⊢
      refine⟨hent.1,(fun _ _ _ h=>by cases h),?_⟩
      rw[←hq];exact hent.2.2)
     refine⟨_,g1,nn _ rfl (fun _=>by simp) g2,?_⟩
     simp only[MR,Xe]
     rw[←hq];exact hd
    |mp m es=>
     simp only
     obtain⟨g1,g2⟩:=h.snoc (e:=.mp m es) hm he (fun h=>⟨h,fun _ _ h=>h⟩) hq (by simp only[ER,Xe] at hent ⊢;rw[←hq];exact hent)
     refine⟨_,g1,nn _ rfl (fun _=>by simp) g2,?_⟩
     simp only[MR,Xe]
     rw[←hq];exact hd
    |it m es seen=>
     simp only
     obtain⟨g1,g2⟩:=h.snoc (e:=.it m es seen) hm he (fun h=>⟨h,fun _ _ h=>h⟩) hq (by simp only[ER,Xe] at hent ⊢;rw[←hq];exact hent)
     refine⟨_,g1,nn _ rfl (fun _=>by simp) g2,?_⟩
     simp only[MR,Xe]
     rw[←hq];exact hd
    |lnk j=>
     simp only
     obtain⟨g1,g2⟩:=h.snoc (e:=.lnk j) hm he (fun h=>⟨h,fun _ _ h=>h⟩) hq (by simp only[ER,Xe] at hent ⊢;rw[←hq];exact hent)
     refine⟨_,g1,nn _ rfl (fun _=>by simp) g2,?_⟩
     simp only[MR,Xe]
     rw[←hq];exact hd
 case nl sz=>
  simp only[XG]
  obtain⟨g1,g2⟩:=h.snocNil sz
  refine⟨_,g1,⟨g2,fun _ _ _ h=>h⟩,?_⟩
  simp only[MR] at hd ⊢
  exact .inl ⟨sz,Xe,hd,trivial,trivial⟩
 case mh id=>
  simp only[MR] at hd
  obtain⟨b,hb,rfl⟩:=hd
  simp only[XG]
  cases hm:lk n.m id with
  |some j=>
   obtain⟨h1,_⟩:=h.map _ _ hm
   exact⟨κ',h,NN.refl,by simp only[MR,h1];exact⟨b,hb,rfl⟩⟩
  |none=>
   cases he:lk hp id with
   |none=>exact⟨κ',h,NN.refl,by simp only[MR];exact hnb (by simp)⟩
   |some e=>
    have hent:=hR.ent _ _ he
    cases e with
    |mp m es=>
     simp only
     obtain⟨g1,g2⟩:=h.snoc (e:=.mp m es) hm he (fun h=>⟨h,fun _ _ h=>h⟩) hb (by simp only[ER,Xe] at hent ⊢;rw[←hb];exact hent)
     refine⟨_,g1,⟨g2,fun id' cs h1 h2=>?_⟩,?_⟩
     ·simp only[lk]
      rw[if_neg]
      ·exact h2
      ·intro ee;subst ee;rw[he] at h1;cases h1
     ·simp only[MR,Xe];exact⟨b,rfl,rfl⟩
    |_=>exact⟨κ',h,NN.refl,by simp only[MR];exact hnb (by simp)⟩
 case int=>exact⟨κ',h,NN.refl,by simpa only[XG,MR] using hd⟩
 case bool=>exact⟨κ',h,NN.refl,by simpa only[XG,MR] using hd⟩
 case str=>exact⟨κ',h,NN.refl,by simpa only[XG,MR] using hd⟩
 case nf=>exact⟨κ',h,NN.refl,by simpa only[XG,MR] using hd⟩
 case clo f cs=>
  by_cases ho:cs.all YS=true
  ·have e:XG hp n (.clo f cs)=(.clo f cs,n):=by simp only[XG,ho,if_true]
   rw[e]
   simp only[MR] at hd
   obtain⟨vs,rfl,hm⟩:=hd
   exact⟨κ',h,NN.refl,MR.of_DR _ _ (by simp only[DR];exact⟨vs,rfl,Qes hm ho⟩)⟩
  ·exact un (by simp) (by simp only[XG];rw[if_neg ho])
 case lst=>exact⟨κ',h,NN.refl,by simpa only[XG,MR] using hd⟩
 case ref=>exact⟨κ',h,NN.refl,by simpa only[XG,MR] using hd⟩
 all_goals exact un (by simp) rfl
theorem Qfi(f:NS→D→D×NS)(hf:∀(n:NS)(κ':Nat→Option KI)(d:D)(v:Value),NI B κ hp w n κ'→MR w (Im B κ hp w) κ d v→
   ∃κ'',NI B κ hp w (f n d).2 κ''∧NN hp n (f n d).2 κ' κ''∧MR w (Im B κ hp w) κ'' (f n d).1 v):
  ∀(ds:List D)(n:NS)(κ':Nat→Option KI)(vs:List Value),NI B κ hp w n κ'→MRs w (Im B κ hp w) κ ds vs→
   ∃κ'',NI B κ hp w (Yf f n ds).2 κ''∧NN hp n (Yf f n ds).2 κ' κ''∧MRs w (Im B κ hp w) κ'' (Yf f n ds).1 vs
 |[],n,κ',vs,h,hd=>by
  simp only[MRs] at hd
  subst hd
  exact⟨κ',h,NN.refl,by simp only[Yf,MRs]⟩
 |d::ds,n,κ',vs,h,hd=>by
  simp only[MRs] at hd
  obtain⟨v,vs',rfl,h1,h2⟩:=hd
  obtain⟨κ1,a1,b1,c1⟩:=hf n κ' d v h h1
  obtain⟨κ2,a2,b2,c2⟩:=Qfi f hf ds _ κ1 vs' a1 h2
  refine⟨κ2,a2,b1.trans b2,?_⟩
  simp only[Yf,MRs]
  exact⟨v,vs',rfl,c1.mono ⟨fun _ h=>h,fun _ _=>rfl⟩ b2.kle,c2⟩
theorem QiA(hR:RH B κ hp F w)(h:NI B κ hp w n κ'){d:D}{v:Value}(hd:MR w (Im B κ hp w) κ d v):
  ∃κ'',NI B κ hp w (XR hp n d).2 κ''∧MR w (Im B κ hp w) κ'' (XR hp n d).1 v∧Kle κ' κ'':=by
 have hnb:=MR.nb hd
 have zero:XR hp n d=XG hp n d→∃κ'',NI B κ hp w (XR hp n d).2 κ''∧MR w (Im B κ hp w) κ'' (XR hp n d).1 v∧Kle κ' κ'':=fun e=>by
  rw[e]
  obtain⟨κ1,a1,b1,c1⟩:=Qfh hR h hd
  exact⟨κ1,a1,c1,b1.kle⟩
 cases d
 case agg cs=>
  simp only[MR] at hd
  obtain⟨vs,rfl,h1,h2⟩:=hd
  obtain⟨κ1,a1,b1,c1⟩:=Qfi (XG hp) (fun n κ' d v h hd=>Qfh hR h hd) cs n κ' _ h h2
  exact⟨κ1,a1,by simp only[XR,MR];exact⟨vs,rfl,h1,c1⟩,b1.kle⟩
 case pt id off=>
  simp only[MR] at hd
  obtain⟨b,hb,rfl⟩:=hd
  simp only[XR]
  cases hm:lk n.m id with
  |some j=>
   simp only
   obtain⟨h1,_⟩:=h.map _ _ hm
   refine⟨κ',h,?_,fun _ _ h=>h⟩
   simp only[MR,h1]
   exact⟨b,hb,rfl⟩
  |none=>
   simp only
   cases he:lk hp id with
   |none=>exact⟨κ',h,by simp only[MR];exact hnb (by simp),fun _ _ h=>h⟩
   |some e=>
    cases e with
    |arr=>exact⟨κ',h,by simp only[MR];exact hnb (by simp),fun _ _ h=>h⟩
    |imm=>exact⟨κ',h,by simp only[MR];exact hnb (by simp),fun _ _ h=>h⟩
    |nst=>exact⟨κ',h,by simp only[MR];exact hnb (by simp),fun _ _ h=>h⟩
    |lnk=>exact⟨κ',h,by simp only[MR];exact hnb (by simp),fun _ _ h=>h⟩
    |mp=>exact⟨κ',h,by simp only[MR];exact hnb (by simp),fun _ _ h=>h⟩
    |it m es seen=>
     simp only
     have hent:=hR.ent _ _ he
     obtain⟨g1,g2⟩:=h.snoc (e:=.it m es seen) hm he (fun h=>⟨h,fun _ _ h=>h⟩) hb (by simp only[ER,Xe] at hent ⊢;rw[←hb];exact hent)
     refine⟨_,g1,?_,g2⟩
     simp only[MR,Xe]
     exact⟨b,rfl,rfl⟩
    |box cs=>
     simp only[QcL]
     have hent:=hR.ent _ _ he
     simp only[ER] at hent
     obtain⟨b',cur,e,hb',hg,h1,h2⟩:=hent
     rw[hb] at hb'
     cases hb'
     obtain⟨κ1,a1,b1,c1⟩:=Qfi (XG hp) (fun n κ' d v h hd=>Qfh hR h hd) cs n κ' _ h h2
     obtain⟨g1,g2⟩:=a1.snoc (id:=id) (e:=.box (Yf (XG hp) n cs).1) (e0:=.box cs) (b1.box id cs he hm) he (fun _=>⟨rfl,fun _ _ h=>.inl (h.own1 rfl)⟩) hb (by
      simp only[ER,Xe]
      refine⟨b,cur,e,rfl,hg,h1,?_⟩
      refine c1.mono ⟨fun _ h=>h,fun _ _=>rfl⟩ ?_
      intro j k hj
      rw[XS]
      ·exact hj
      ·intro e;subst e;rw[a1.fr _ (Qg _)] at hj;cases hj)
     refine⟨_,g1,?_,fun _ _ h=>g2 _ _ (b1.kle _ _ h)⟩
     simp only[MR,Xe]
     exact⟨b,rfl,rfl⟩
 all_goals exact zero rfl
theorem Qfj(hR:RH B κ hp F w):∀(ds:List D)(n:NS)(κ':Nat→Option KI)(vs:List Value),NI B κ hp w n κ'→MRs w (Im B κ hp w) κ ds vs→
   ∃κ'',NI B κ hp w (Yf (XR hp) n ds).2 κ''∧MRs w (Im B κ hp w) κ'' (Yf (XR hp) n ds).1 vs∧Kle κ' κ''
 |[],n,κ',vs,h,hd=>by
  simp only[MRs] at hd
  subst hd
  exact⟨κ',h,by simp only[Yf,MRs],fun _ _ h=>h⟩
 |d::ds,n,κ',vs,h,hd=>by
  simp only[MRs] at hd
  obtain⟨v,vs',rfl,h1,h2⟩:=hd
  obtain⟨κ1,a1,c1,b1⟩:=QiA hR h h1
  obtain⟨κ2,a2,c2,b2⟩:=Qfj hR ds _ κ1 vs' a1 h2
  refine⟨κ2,a2,?_,fun _ _ h=>b2 _ _ (b1 _ _ h)⟩
  simp only[Yf,MRs]
  exact⟨v,vs',rfl,c1.mono ⟨fun _ h=>h,fun _ _=>rfl⟩ b2,c2⟩
theorem QoM(hR:RH B κ hp F w)(h:NI B κ hp w n κ'){d:D}{v:Value}(hd:MR w (Im B κ hp w) κ d v):
  ∃κ'',NI B κ hp w (YW hp n d).2 κ''∧MR w (Im B κ hp w) κ'' (YW hp n d).1 v∧Kle κ' κ'':=by
 cases d
 case clo f cs=>
  simp only[MR] at hd
  obtain⟨vs,rfl,h2⟩:=hd
  obtain⟨κ1,a1,c1,b1⟩:=Qfj hR cs n κ' _ h h2
  exact⟨κ1,a1,by simp only[YW,MR];exact⟨vs,rfl,c1⟩,b1⟩
 case tup cs=>
  simp only[MR] at hd
  obtain⟨vs,rfl,h2⟩:=hd
  obtain⟨κ1,a1,c1,b1⟩:=Qfj hR cs n κ' _ h h2
  exact⟨κ1,a1,by simp only[YW,MR];exact⟨vs,rfl,c1⟩,b1⟩
 all_goals exact QiA hR h hd
theorem Qfk{s:St}{tm:Array Value}(hR:RH B κ s.hp F w)(hS:RS B κ s.hp w s.sl tm):∀(keep:List Nat)(n:NS)(κ':Nat→Option KI),NI B κ s.hp w n κ'→
  ∃κ'',NI B κ s.hp w (Zg s keep n).2 κ''∧Kle κ' κ''∧∀t d,lk (Zg s keep n).1 t=some d→∃v,tm[t]?=some v∧MR w (Im B κ s.hp w) κ'' d v
 |[],n,κ',h=>⟨κ',h,fun _ _ h=>h,by simp [Zg,lk]⟩
 |t::keep,n,κ',h=>by
  simp only[Zg]
  cases ht:lk s.sl t with
  |none=>
   simp only
   exact Qfk hR hS keep n κ' h
  |some d=>
   simp only
   obtain⟨v,hv,hm⟩:=hS.sl t d ht
   obtain⟨κ1,a1,c1,b1⟩:=QoM hR h hm
   obtain⟨κ2,a2,b2,c2⟩:=Qfk hR hS keep _ κ1 a1
   refine⟨κ2,a2,fun _ _ h=>b2 _ _ (b1 _ _ h),fun t' d' hl=>?_⟩
   simp only[lk] at hl
   split at hl
   ·rename_i e
    simp only[Qb] at hl
    subst e hl
    exact⟨v,hv,c1.mono ⟨fun _ h=>h,fun _ _=>rfl⟩ b2⟩
   ·exact c2 t' d' hl
theorem QoN{s:St}{tm:Array Value}(hR:RH B κ s.hp F w)(hS:RS B κ s.hp w s.sl tm)(keep:List Nat):
  ∃κ',RH B κ' (norm keep s).hp (fun id=>(norm keep s).nx≤id) w∧RS B κ' (norm keep s).hp w (norm keep s).sl tm:=by
 obtain⟨κ1,a1,_,c1⟩:=Qfk hR hS keep ⟨[],[],0⟩ (fun _=>none) ⟨fun _ _=>rfl,by simp [lk],by simp [lk],by rintro j b ⟨e,k,h1,_⟩;simp [lk] at h1⟩
 have hown:∀b,Zz κ1 (norm keep s).hp w b→Zz κ s.hp w b:=fun b ⟨j,hj⟩=>let ⟨id,_,h⟩:=a1.own j b hj;⟨id,h⟩
 have hk:Keep w w (Im B κ s.hp w) (Im B κ1 (norm keep s).hp w):=⟨fun b ⟨h1,h2,h3⟩=>⟨h1,h2,fun h=>h3 (hown b h)⟩,fun _ _=>rfl⟩
 refine⟨κ1,⟨hR.stp,a1.fr,fun id e he=>?_,fun b hb=>hR.own b (hown b hb),fun j j' b h1 h2=>?_⟩,⟨hS.size,fun t d ht=>?_,hS.fx⟩⟩
 ·exact (a1.ent id e he).2.mono hk (fun _ _ h=>h) (fun _ _ _ _ _=>rfl)
 ·obtain⟨id,g1,g2⟩:=a1.own j b h1
  obtain⟨id',g3,g4⟩:=a1.own j' b h2
  have:=hR.inj _ _ _ g2 g4
  subst this
  rw[g1] at g3
  exact Option.some.inj g3
 ·obtain⟨v,hv,hm⟩:=c1 t d ht
  exact⟨v,hv,hm.mono hk (fun _ _ h=>h)⟩
end
end Go.Am
namespace Go.Am
open Go
theorem QoO{P:Program}{c:Code}{Q:Exit→Act→World→Prop}{a:Act}{w:World}{m:Nat}(J:Nat→Act→World→Prop)(h₀:J m a w)
  (round:∀m a w,J m a w→c.wp P (Exit.then (fun a' w'=>∃m',m'<m∧J m' a' w') Q) a w):(Code.loop c).wp P Q a w:=by
 intro b k cs
 have key:∀n a w,J n a w→
   ∃e a' w',Q e a' w'∧Arrives P (lone (b.at a (.code c::.inLoop c::k)) cs w) b k cs e a' w':=by
  intro n
  induction n using Nat.strongRecOn with
  |_ n ih=>
   intro a w hI
   obtain⟨e,a₁,w₁,hq,harr⟩:=round n a w hI b (.inLoop c::k) cs
   cases e with
   |normal=>
    obtain⟨m',hlt,hI₁⟩:=hq
    obtain⟨e₂,a₂,w₂,hq₂,harr₂⟩:=ih m' hlt a₁ w₁ hI₁
    exact⟨e₂,a₂,w₂,hq₂,.of_steps (Steps.trans harr (.one step_inLoop)) harr₂⟩
   |exit id=>exact⟨_,a₁,w₁,hq,.pass (x:=.inLoop c) rfl (fun _ _=>.inl (by simp)) harr⟩
   |goto l=>exact⟨_,a₁,w₁,hq,.pass (x:=.inLoop c) rfl (fun _ _=>.inl (by simp)) harr⟩
   |ret=>exact⟨_,a₁,w₁,hq,.pass (x:=.inLoop c) rfl (fun _ _=>.inl (by simp)) harr⟩
   |panic ch=>exact⟨_,a₁,w₁,hq,.pass (x:=.inLoop c) rfl (fun _ _=>.inl (by simp)) harr⟩
   |outgrown=>exact⟨_,a₁,w₁,hq,.pass (x:=.inLoop c) rfl (fun _ _=>.inl (by simp)) harr⟩
 obtain⟨e,a',w',hq,harr⟩:=key _ a w h₀
 exact⟨e,a',w',hq,.of_steps (.one step_loop) harr⟩
def QiB:LX→Exit
 | .normal=>.normal
 | .exit id=>.exit id
 | .ret=>.ret
def At(B:Base)(s:St)(a:Act)(w:World):Prop:=a.defers=[]∧∃κ,RH B κ s.hp (fun id=>s.nx≤id) w∧RS B κ s.hp w s.sl a.tmps
theorem At.fil{B:Base}{s:St}{a:Act}{w:World}{keep:List Nat}(h:At B s a w):At B ⟨fil keep s.sl,s.hp,s.nx⟩ a w:=by
 obtain⟨hd,κ,h1,h2⟩:=h
 refine⟨hd,κ,h1,⟨h2.size,fun t d ht=>?_,h2.fx⟩⟩
 simp only[QmU] at ht
 split at ht
 ·exact h2.sl t d ht
 ·cases ht
theorem At.norm{B:Base}{s:St}{a:Act}{w:World}{keep:List Nat}(h:At B s a w):At B (norm keep s) a w:=by
 obtain⟨hd,κ,h1,h2⟩:=h
 obtain⟨κ',g1,g2⟩:=QoN h1 h2 keep
 exact⟨hd,κ',g1,g2⟩
theorem QoP{o:Option D}{p q:Prop}(hb:Ju o p q):∃c:Bool,o=some (.bool c)∧(c=true→p)∧(c=false→q):=by
 unfold Ju at hb
 split at hb
 ·exact⟨_,rfl,hb.1,hb.2⟩
 ·exact hb.elim
theorem QaD{P:Program}{B:Base}{H:Hints}(hmx:P.follows .mixedOrders=true)(hfx:B.fx=H.fx):
  ∀(c:Code)(lc:LC),cC P H B.N c=some lc→∀(Qa:LX→St→Prop)(Q:Exit→Act→World→Prop)(s:St)(a:Act)(w:World),
   At B s a w→W P lc Qa s→(∀e s' a' w',Qa e s'→At B s' a' w'→Q (QiB e) a' w')→c.wp P Q a w
 | .skip,lc,hc,Qa,Q,s,a,w,hat,hw,hQ=>by
  simp only[cC,Qb] at hc
  subst hc
  simp only[W] at hw
  exact wp_skip (hQ _ _ _ _ hw hat)
 | .ret,lc,hc,Qa,Q,s,a,w,hat,hw,hQ=>by
  simp only[cC,Qb] at hc
  subst hc
  simp only[W] at hw
  exact wp_ret (hQ _ _ _ _ hw hat)
 | .exit id,lc,hc,Qa,Q,s,a,w,hat,hw,hQ=>by
  simp only[cC,Qb] at hc
  subst hc
  simp only[W] at hw
  exact wp_exit (hQ _ _ _ _ hw hat)
 | .seq x y,lc,hc,Qa,Q,s,a,w,hat,hw,hQ=>by
  simp only[cC] at hc
  split at hc
  case h_2=>cases hc
  rename_i lx ly hx hy
  simp only[Qb] at hc
  subst hc
  simp only[W] at hw
  refine wp_seq (QaD hmx hfx x lx hx _ _ s a w hat hw fun e s' a' w' he hat'=>?_)
  cases e with
  |normal=>exact QaD hmx hfx y ly hy _ _ s' a' w' hat' he hQ
  |exit id=>exact hQ _ _ _ _ he hat'
  |ret=>exact hQ _ _ _ _ he hat'
 | .region id ops draw,lc,hc,Qa,Q,s,a,w,hat,hw,hQ=>by
  simp only[cC] at hc
  split at hc
  case h_2=>cases hc
  rename_i l hl
  obtain⟨hd,κ,h1,h2⟩:=hat
  cases draw with
  |false=>
   simp only[Bool.false_eq_true,if_false,Qb] at hc
   subst hc
   simp only[W] at hw
   refine wp_region_list (Qh0 hfx hl h1 h2 hw fun κ' s' a' w' hK hR hS hN hD=>?_)
   exact hQ .normal _ _ _ hK (At.fil ⟨hD.trans hd,κ',hR,hS⟩)
  |true=>
   simp only[if_true,Qi] at hc
   obtain⟨cs,hcs,rfl⟩:=hc
   simp only[W] at hw
   refine QoL hmx hfx hl hcs h1 h2 hw fun κ' s' a' w' hK hR hS hN hD=>?_
   exact hQ .normal _ _ _ hK (At.fil ⟨hD.trans hd,κ',hR,hS⟩)
 | .cond c x y,lc,hc,Qa,Q,s,a,w,hat,hw,hQ=>by
  simp only[cC] at hc
  split at hc
  case h_2=>cases hc
  rename_i lc' lx ly hcx hx hy
  simp only[Qb] at hc
  subst hc
  simp only[W] at hw
  obtain⟨t,ht,g1,g2⟩:=QoP hw
  obtain⟨hd,κ,h1,h2⟩:=hat
  have hev:=Xd (df:=a.defers) h2 hcx ht
  simp only[MR] at hev
  refine wp_cond_split hev (fun ht=>?_) (fun ht=>?_)
  ·exact QaD hmx hfx x lx hx _ _ s a w ⟨hd,κ,h1,h2⟩ (g1 ht) hQ
  ·exact QaD hmx hfx y ly hy _ _ s a w ⟨hd,κ,h1,h2⟩ (g2 ht) hQ
 | .block id x,lc,hc,Qa,Q,s,a,w,hat,hw,hQ=>by
  simp only[cC,Qi] at hc
  obtain⟨lx,hx,rfl⟩:=hc
  simp only[W] at hw
  refine wp_block (QaD hmx hfx x lx hx _ _ s a w hat hw fun e s' a' w' he hat'=>?_)
  cases e with
  |normal=>exact hQ .normal _ _ _ he hat'
  |exit i=>
   simp only[LX.blk] at he
   simp only[QiB,Exit.inBlock]
   split
   ·rename_i hi;rw[if_pos hi] at he;exact hQ .normal _ _ _ he hat'
   ·rename_i hi;rw[if_neg hi] at he;exact hQ (.exit i) _ _ _ he hat'
  |ret=>exact hQ .ret _ _ _ he hat'
 | .loop x,lc,hc,Qa,Q,s,a,w,hat,hw,hQ=>by
  simp only[cC,Qi] at hc
  obtain⟨lx,hx,rfl⟩:=hc
  simp only[W] at hw
  obtain⟨I,⟨m,hm⟩,hI⟩:=hw
  refine QoO (m:=m) (fun m a w=>∃s,I m s∧At B s a w) ⟨_,hm,hat.norm⟩ ?_
  rintro m a w ⟨s,hs,hat⟩
  refine QaD hmx hfx x lx hx _ _ s a w hat (hI m s hs) fun e s' a' w' he hat'=>?_
  cases e with
  |normal=>
   obtain⟨m',hlt,hm'⟩:=he
   exact⟨m',hlt,_,hm',hat'.norm⟩
  |exit i=>exact hQ (.exit i) _ _ _ he hat'
  |ret=>exact hQ .ret _ _ _ he hat'
 | .label _,lc,hc,_,_,_,_,_,_,_,_=>by simp [cC] at hc
 | .goto _,lc,hc,_,_,_,_,_,_,_,_=>by simp [cC] at hc
 | .scope _,lc,hc,_,_,_,_,_,_,_,_=>by simp [cC] at hc
 | .rangeFunc ..,lc,hc,_,_,_,_,_,_,_,_=>by simp [cC] at hc
 | .refuse _,lc,hc,_,_,_,_,_,_,_,_=>by simp [cC] at hc
end Go.Am
namespace Go.Am
open Go
section
variable {P:Program} {B:Base} {κ:Nat→Option KI} {hp0 hp hp' hp'':Hp} {F:Nat→Prop} {w:World} {d e:D} {v:Value}
theorem QiC:∀(ds:List D)(t n:Nat),(Zp t n ds).2=(Xa Xo n ds).2∧∀s d,lk (Zp t n ds).1 s=some d→∃i,s=t+i∧(Xa Xo n ds).1[i]?=some d
 |[],t,n=>by simp [Zp,Xa,lk]
 |d::ds,t,n=>by
  obtain⟨h1,h2⟩:=QiC ds (t+1) (Xo n d).2.2
  simp only[Zp,Xa]
  refine⟨by rw[h1],fun s d' hl=>?_⟩
  simp only[lk] at hl
  split at hl
  ·rename_i hst
   simp only[Qb] at hl
   exact⟨0,by omega,by simp [hl]⟩
  ·obtain⟨i,g1,g2⟩:=h2 s d' hl
   exact⟨i+1,by omega,by simpa using g2⟩
def Jf(P:Program):List ResultVar→Option (List RV)
 |[]=>some []
 | .tmp t::l=>(Jf P l).map (.t t::·)
 | .cell a t::l=>match Zd P t,Xi P t,Jf P l with
  |some ag,some m,some l=>some (.c a ag m::l)
  |_,_,_=>none
def Jz(tm:Array Value):ResultVar→Sem Value
 | .tmp t=>pure (tm.getD t undef)
 | .cell a t=>do loadVar t (←asAddr (tm.getD a undef))
theorem QoQ(fn:Func)(tm:Array Value):results fn tm=(do
  let vs←fn.results.mapM (Jz tm)
  pure (if h:vs.size=1 then vs[0] else .tuple vs)):=rfl
theorem Qfl{N:Nat}{tm:Array Value}{s:St}(hB:B.N=N)(h:RH B κ s.hp F w)(hS:RS B κ s.hp w s.sl tm):∀(l:List ResultVar)(rs:List RV)(ds:List D),Jf P l=some rs→QU (JY s) rs=some ds→
  ∃vs,((l.mapM (Jz tm)).run P w=.ok vs w)∧vs.length=l.length∧MRs w (Im B κ s.hp w) κ ds vs
 |[],rs,ds,hr,hd=>by
  simp only[Jf,Qb] at hr
  subst hr
  simp only[QU,Qb] at hd
  subst hd
  exact⟨[],by simp,rfl,by simp [MRs]⟩
 | .tmp t::l,rs,ds,hr,hd=>by
  simp only[Jf,Qi] at hr
  obtain⟨rs',hr,rfl⟩:=hr
  simp only[QU] at hd
  split at hd
  case h_2=>cases hd
  rename_i d ds' h1 h2
  simp only[Qb] at hd
  subst hd
  obtain⟨vs,g1,g2,g3⟩:=Qfl hB h hS l rs' ds' hr h2
  obtain⟨v,hv,hm⟩:=hS.sl t d h1
  refine⟨v::vs,?_,by simp [g2],by simp only[MRs];exact⟨v,vs,rfl,hm,g3⟩⟩
  have:(Jz tm (.tmp t)).run P w=.ok v w:=by simp [Jz,hv]
  rw[List.mapM_cons]
  simp only[Sem.run_bind,this,Result.andThen_ok,g1,Sem.run_pure]
 | .cell a t::l,rs,ds,hr,hd=>by
  simp only[Jf] at hr
  split at hr
  case h_2=>cases hr
  rename_i ag m rs' hag hm hr'
  simp only[Qb] at hr
  subst hr
  simp only[QU] at hd
  split at hd
  case h_2=>cases hd
  rename_i d ds' h1 h2
  simp only[Qb] at hd
  subst hd
  obtain⟨vs,g1,g2,g3⟩:=Qfl hB h hS l rs' ds' hr' h2
  simp only[JY] at h1
  split at h1
  case h_2=>cases h1
  rename_i id hla
  split at h1
  case h_2=>cases h1
  rename_i cs hlb
  obtain⟨pv,hpv,hpm⟩:=hS.sl a _ hla
  obtain⟨b,cur,ty,k1,k2,k3,k4,k5⟩:=h.box hlb
  simp only[MR,k1,Qb,KI.box.injEq] at hpm
  obtain⟨b',rfl,rfl⟩:=hpm
  obtain⟨q1,q2⟩:=QbO h1
  simp only[Nat.zero_add,List.drop_zero] at q1 q2
  have k5':=(k5.take m).1
  obtain⟨r1,r2⟩:=Qey k5' (fun u hu=>k4 u (Qw hu)) q2
  have hlen:(cur.toList.take m).length=m:=by rw[k5'.length];simp;omega
  have hload:=Qex (P:=P) (w:=w) (b:=b) (off:=0) hag hm (us:=cur.toList.take m) (Mem.of_cells k3 (fun j u hj=>by
   rw[List.getElem?_take] at hj
   split at hj
   ·simpa using hj
   ·cases hj)) hlen (fun e=>by rw[←hlen];exact r1 e)
  refine⟨_::vs,?_,by simp [g2],by simp only[MRs];exact⟨_,vs,rfl,r2,g3⟩⟩
  have:(Jz tm (.cell a t)).run P w=.ok (if ag then .agg (cur.toList.take m).toArray else (cur.toList.take m).headD undef) w:=by
   simp only[Jz,Array.getD_eq_getD_getElem?,hpv,Option.getD_some,asAddr,Sem.run_bind,Sem.run_pure,Result.andThen_ok,hload]
  rw[List.mapM_cons]
  simp only[Sem.run_bind,this,Result.andThen_ok,g1,Sem.run_pure]
theorem QiD{I:Nat→Prop}:∀{cs ds:List D}{us:List Value}{os:List Nat},DRs w I (cs++ds) us os→∃u v o o',us=u++v∧os=o++o'∧DRs w I cs u o∧DRs w I ds v o'
 |[],ds,us,os,h=>⟨[],us,[],os,rfl,rfl,by simp [DRs],h⟩
 |c::cs,ds,us,os,h=>by
  simp only[List.cons_append,DRs] at h
  obtain⟨v,vs',o,o',rfl,rfl,h1,h2⟩:=h
  obtain⟨u,z,p,q,rfl,rfl,g1,g2⟩:=QiD h2
  exact⟨v::u,z,o++p,q,rfl,by simp,by simp only[DRs];exact⟨v,u,o,p,rfl,rfl,h1,g1⟩,g2⟩
def Qfm(vs:List Value):Value:=match vs with|[v]=>v|_=>.tuple vs.toArray
theorem QoR{fn:Func}{tm:Array Value}{vs:List Value}(h:(fn.results.toList.mapM (Jz tm)).run P w=.ok vs w):
  (results fn tm).run P w=.ok (Qfm vs) w:=by
 have e:fn.results.mapM (Jz tm)=List.toArray<$>(fn.results.toList.mapM (Jz tm)):=by
  rw[Array.mapM_eq_mapM_toList]
 rw[QoQ,e]
 simp only[map_eq_pure_bind,Sem.run_bind,h,Result.andThen_ok,Sem.run_pure]
 congr 1
 match vs with
 |[]=>rfl
 |[v]=>rfl
 |_::_::_=>simp [Qfm]
theorem QiE{s:St}{tm:Array Value}(hS:RS B κ s.hp w s.sl tm):∀(l:List Nat),(∀i∈l,(lk s.sl i).isSome=true)→MRs w (Im B κ s.hp w) κ (l.filterMap fun i=>lk s.sl i) (l.map fun i=>tm.getD i undef)
 |[],_=>by simp [MRs]
 |i::l,h=>by
  have hi:=h i (by simp)
  cases hl:lk s.sl i with
  |none=>rw[hl] at hi;cases hi
  |some d=>
   obtain⟨v,hv,hm⟩:=hS.sl i d hl
   simp only[List.filterMap_cons,hl,List.map_cons,MRs]
   exact⟨v,_,by simp [hv],hm,QiE hS l fun j hj=>h j (Qu _ hj)⟩
theorem QiF{s:St}:∀{l:List Nat},l.length≤(l.filterMap fun i=>lk s.sl i).length→∀i∈l,(lk s.sl i).isSome=true
 |[],_,i,hi=>by cases hi
 |j::l,h,i,hi=>by
  rw[List.filterMap_cons] at h
  cases hl:lk s.sl j with
  |none=>
   rw[hl] at h
   have:=List.length_filterMap_le (fun i=>lk s.sl i) l
   simp at h;omega
  |some d=>
   rw[hl] at h
   simp only[List.length_cons] at h
   rcases Qh.1 hi with rfl|hi
   ·rw[hl];rfl
   ·exact QiF (by omega) i hi
theorem QiG{f:Hp→D→Option (D×Hp)}:∀{ds:List D}{hp hp':Hp}{es:List D},XO f hp ds=some (es,hp')→es.length=ds.length
 |[],_,_,_,h=>by simp only[XO,Qb,Qc] at h;rw[←h.1]
 |d::ds,hp,hp',es,h=>by
  simp only[XO] at h
  split at h
  case h_2=>cases h
  split at h
  case h_2=>cases h
  rename_i h2
  simp only[Qb,Qc] at h
  rw[←h.1,List.length_cons,List.length_cons,QiG h2]
theorem Qda{f:Nat}{fn:Func}(hf:P.funcs[f]?=some fn)(hnm:(fn.name== "runtime.NumGoroutine")=false){body:Code}(hb:fn.body=some body)(vs:Array Value)(w:World):
  (callFunc f vs).run P w=.ok (.enter f vs) w:=by
 unfold callFunc
 have:¬fn.name= "runtime.NumGoroutine" :=by simpa using hnm
 simp [hf,this,hb]
def Frz(w:World)(I:Nat→Prop)(d':D)(v:Value)(os:List Nat):Prop:=∃o:List Nat,o.Sublist os∧∀J:Nat→Prop,(∀b,I b→J b)→(∀b∈os,b∉o→J b)→DR w J d' v o
theorem QiH{I:Nat→Prop}{d:D}{v:Value}{os:List Nat}(h:DR w I d v os):Frz w I (Zs d) v os:=by
 have same:Zs d=d→Frz w I (Zs d) v os:=fun e=>by
  rw[e]
  exact⟨os,List.Sublist.refl _,fun J hJ _=>DR.mono ⟨hJ,fun _ _=>rfl⟩ _ _ _ (fun _ _=>rfl) h⟩
 cases d
 case arr sz xs=>
  refine⟨[],List.nil_sublist _,fun J hJ hb=>?_⟩
  simp only[DR] at h
  simp only[Zs,DR]
  refine⟨trivial,h.1,?_⟩
  rcases h.2 with⟨h1,h2,_⟩|⟨b,cap,cur,e,us,h1,h2,h3,h4,h5,h6,h7,h8⟩
  ·exact .inl ⟨⟨_,h1⟩,h2⟩
  ·exact .inr ⟨b,0,cap,us,h1,h4,h5,hb b (by rw[h2];simp) (by simp),h7,PE.mono ⟨hJ,fun _ _=>rfl⟩ _ _ _ h8⟩
 all_goals exact same rfl
theorem Qfn{f:D→D}{I:Nat→Prop}(hf:∀{d v os},os.Nodup→DR w I d v os→Frz w I (f d) v os):∀{ds:List D}{vs:List Value}{os:List Nat},os.Nodup→DRs w I ds vs os→
  ∃o:List Nat,o.Sublist os∧∀J:Nat→Prop,(∀b,I b→J b)→(∀b∈os,b∉o→J b)→DRs w J (ds.map f) vs o
 |[],vs,os,nd,h=>by
  simp only[DRs] at h
  obtain⟨rfl,rfl⟩:=h
  exact⟨[],List.Sublist.refl _,fun J _ _=>by simp [DRs]⟩
 |d::ds,vs,os,nd,h=>by
  simp only[DRs] at h
  obtain⟨v,vs',o,o',rfl,rfl,h1,h2⟩:=h
  obtain⟨n1,n2,n3⟩:=Qy.1 nd
  obtain⟨p,q1,q2⟩:=hf n1 h1
  obtain⟨p',q3,q4⟩:=Qfn hf n2 h2
  refine⟨p++p',q1.append q3,fun J hJ hb=>?_⟩
  simp only[List.map_cons,DRs]
  refine⟨v,vs',p,p',rfl,rfl,q2 J hJ fun b hbo hbp=>hb b (List.mem_append_left _ hbo) fun hm=>?_,q4 J hJ fun b hbo hbp=>hb b (List.mem_append_right _ hbo) fun hm=>?_⟩
  ·rcases Qd.1 hm with hm|hm
   ·exact hbp hm
   ·exact n3 b hbo b (q3.subset hm) rfl
  ·rcases Qd.1 hm with hm|hm
   ·exact n3 b (q1.subset hm) b hbo rfl
   ·exact hbp hm
theorem QiI{I:Nat→Prop}{d:D}{v:Value}{os:List Nat}(nd:os.Nodup)(h:DR w I d v os):Frz w I (JZ d) v os:=by
 cases d
 case agg cs=>
  simp only[DR] at h
  obtain⟨vs,h1,h2,h3⟩:=h
  obtain⟨o,q1,q2⟩:=Qfn (f:=Zs) (fun _ h=>QiH h) nd h3
  exact⟨o,q1,fun J hJ hb=>by simp only[JZ,DR];exact⟨vs,h1,h2,q2 J hJ hb⟩⟩
 all_goals exact QiH h
theorem QoS{I:Nat→Prop}{d:D}{v:Value}{os:List Nat}(nd:os.Nodup)(h:DR w I d v os):Frz w I (frz d) v os:=by
 cases d
 case tup ds=>
  simp only[DR] at h
  obtain⟨vs,h1,h3⟩:=h
  obtain⟨o,q1,q2⟩:=Qfn (f:=JZ) (fun nd h=>QiI nd h) nd h3
  exact⟨o,q1,fun J hJ hb=>by simp only[frz,DR];exact⟨vs,h1,q2 J hJ hb⟩⟩
 all_goals exact QiI nd h
theorem QoT{J0:Nat→Prop}{r:D}{v:Value}{ds:List D}{vs:List Value}{os:List Nat}(nd:os.Nodup)(h:DRs w (fun b=>J0 b∧b∉os∧b<w.heap.size) (r::ds) (v::vs) os)(ho:∀b∈os,J0 b∧b<w.heap.size):
  ∃o:List Nat,o.Sublist os∧DRs w (fun b=>J0 b∧b∉o∧b<w.heap.size) (frz r::ds) (v::vs) o:=by
 simp only[DRs] at h
 obtain⟨v',vs',o1,o2,he,rfl,h1,h2⟩:=h
 simp only[List.cons.injEq] at he
 obtain⟨rfl,rfl⟩:=he
 obtain⟨n1,n2,n3⟩:=Qy.1 nd
 obtain⟨p,q1,q2⟩:=QoS n1 h1
 have hs:(p++o2).Sublist (o1++o2):=q1.append (List.Sublist.refl _)
 have hJ:∀b,(J0 b∧b∉o1++o2∧b<w.heap.size)→(J0 b∧b∉p++o2∧b<w.heap.size):=fun b ⟨a1,a2,a3⟩=>⟨a1,fun hm=>a2 (hs.subset hm),a3⟩
 refine⟨p++o2,hs,?_⟩
 simp only[DRs]
 refine⟨v,vs,p,o2,rfl,rfl,q2 _ hJ fun b hb hp=>⟨(ho b (List.mem_append_left _ hb)).1,fun hm=>?_,(ho b (List.mem_append_left _ hb)).2⟩,DRs.mono ⟨hJ,fun _ _=>rfl⟩ _ _ _ (fun _ _=>rfl) h2⟩
 rcases Qd.1 hm with hm|hm
 ·exact hp hm
 ·exact n3 b hb b hm rfl
theorem FC.of{f:Nat}{fn:Func}{body:Code}{lc:LC}{rs:List RV}{outs:List Nat}{args:List D}{r:D}{os':qSl}{H:Hints}
  (hf:P.funcs[f]?=some fn) (hnm:(fn.name== "runtime.NumGoroutine")=false) (hb:fn.body=some body) (hmx:P.follows .mixedOrders=true) (hfx:H.fx=outs) (hc:cC P H fn.ntmps body=some lc)
  (hrs:Jf P fn.results.toList=some rs) (hN:args.length≤fn.ntmps) (hout:∀i∈outs,i<args.length) (hok:args.all XK=true)
  (hW:W P lc (QcO rs outs r os') (init args)):FC P f args r os':=by
 refine⟨Qda hf hnm hb,fun w I vs os hI hnd hos hdr=>?_⟩
 let B:Base:=⟨w,I,os,fn.ntmps,outs,vs⟩
 obtain⟨κ,ht,hm,hfr⟩:=J2 Xo XK (fun n κ d v os ho h hd hf=>QeK ho h hd hf) args 0 (fun _=>none) vs os hok hdr hnd (fun _ _=>rfl)
 obtain⟨hi1,hi2⟩:=QiC args 0 0
 have hvl:vs.length=args.length:=hdr.length
 have hhp:(init args).hp=(Xa Xo 0 args).2.1:=by simp only[init,hi1]
 have hnx:(init args).nx=(Xa Xo 0 args).2.2:=by simp only[init,hi1]
 have hob:∀id b,OB κ (Xa Xo 0 args).2.1 w id b→b∈os∧∃e,(id,e)∈(Xa Xo 0 args).2.1∧b∈ebk w κ (id,e):=by
  rintro id b ⟨e,k,h1,h2,h3,h4⟩
  have hb:b∈ebk w κ (id,e):=QeJ h3 h4
  exact⟨by rw[←ht.blks];exact Qr.2 ⟨(id,e),J3 h1,hb⟩,e,J3 h1,hb⟩
 have hIm:∀b,I b→Im B κ (Xa Xo 0 args).2.1 w b:=fun b hb=>⟨.inl hb,(hI b hb).1,fun⟨id,ho⟩=>(hI b hb).2 (hob id b ho).1⟩
 have hkeep:Keep w w I (Im B κ (Xa Xo 0 args).2.1 w):=⟨hIm,fun _ _=>rfl⟩
 have hR:RH B κ (init args).hp (fun id=>(init args).nx≤id) w:=by
  rw[hhp,hnx]
  refine⟨Stp.refl _ _,hfr,fun id e he=>(ht.ent _ (J3 he)).mono hkeep (fun _ _ h=>h) (fun _ _ _ _ _=>rfl),fun b ⟨id,ho⟩=>?_,fun id id' b h1 h2=>?_⟩
  ·have:=(hob id b ho).1
   exact⟨.inl this,hos b this⟩
  ·obtain⟨_,e1,m1,b1⟩:=hob id b h1
   obtain⟨_,e2,m2,b2⟩:=hob id' b h2
   have:=QeP (g:=ebk w κ) (l:=(Xa Xo 0 args).2.1) (by have:=ht.blks;unfold blks at this;rw[this];exact hnd) m1 m2 b1 b2
   exact congrArg Prod.fst this
 have hS:RS B κ (init args).hp w (init args).sl (vs.toArray++Array.replicate (fn.ntmps-vs.toArray.size) undef):=by
  have hget:∀(i:Nat)(v:Value),vs[i]?=some v→(vs.toArray++Array.replicate (fn.ntmps-vs.toArray.size) undef)[i]?=some v:=by
   intro i v hv
   have:i<vs.length:=(Qp.1 hv).1
   rw[Array.getElem?_append_left (by simpa using this)]
   simpa using hv
  refine⟨by simp [B];omega,fun t d htd=>?_,fun t htf=>?_⟩
  ·obtain⟨i,rfl,hi⟩:=hi2 t d htd
   obtain⟨v,hv,hmv⟩:=hm.get hi
   refine⟨v,hget _ v (by simpa using hv),?_⟩
   rw[hhp]
   exact hmv.mono hkeep (fun _ _ h=>h)
  ·have h1:=hout t htf
   have h2:t<vs.length:=by omega
   show _=vs[t]?
   rw[Qn h2]
   exact hget t _ (Qn h2)
 refine calls_of_wp hf hb (QaD (B:=B) hmx (by rw[hfx]) body lc hc _ _ (init args) _ w ⟨rfl,κ,hR,hS⟩ hW ?_)
 intro e s a w' hdone hat
 obtain⟨hdf,κ',hR',hS'⟩:=hat
 obtain⟨ids,r',hdone,hr'⟩:=hdone
 obtain⟨hR',hN'⟩:=hR'.freezes ids
 replace hS':=hS'.next hN'
 clear hN'
 replace hR':RH B κ' (St.hp ⟨s.sl,Q9 ids s.hp,s.nx⟩) (fun id=>(St.nx ⟨s.sl,Q9 ids s.hp,s.nx⟩)≤id) w':=hR'
 replace hS':RS B κ' (St.hp ⟨s.sl,Q9 ids s.hp,s.nx⟩) w' (St.sl ⟨s.sl,Q9 ids s.hp,s.nx⟩) a.tmps:=hS'
 generalize (⟨s.sl,Q9 ids s.hp,s.nx⟩:St)=s at*
 have fin:fin s rs outs=some (r',os')→bodyPost P fn (fun e w'=>∃v' os'',e=.returned v'∧Stp (·∈os) w w'∧os''.Nodup∧(∀b∈os'',(b∈os∨w.heap.size≤b)∧b<w'.heap.size)∧
   DRs w' (fun b=>(I b∨b∈os∨w.heap.size≤b)∧b∉os''∧b<w'.heap.size) (r::os'.map (·.2)) (v'::os'.map (fun o=>vs.getD o.1 undef)) os'') .ret a w':=by
  intro hfin
  unfold Am.fin at hfin
  split at hfin
  case h_2=>cases hfin
  rename_i ds hds
  split at hfin
  case h_2=>cases hfin
  rename_i l hpl hex
  split at hfin
  case isFalse=>cases hfin
  rename_i hlen
  simp only[Qb,Qc] at hfin
  obtain⟨hr,ho⟩:=hfin
  obtain⟨rvs,hrun,hrl,hrm⟩:=Qfl rfl hR' hS' _ _ _ hrs hds
  have hres:=QoR hrun
  have hel:=QiG hex
  rw[Qj] at hel
  have hsome:=QiF (s:=s) (l:=outs) (by omega)
  have hom:=QiE hS' outs hsome
  have hall:=Qc5 hrm hom
  obtain⟨os'',hdr',hg⟩:=Qbh hR' X2 (fun hp hp' d e v hs hd he=>QeL hR' hs hd he) _ _ _ _ _ Sub.refl hall hex
  have hsplit:l=l.take ds.length++l.drop ds.length:=(List.take_append_drop _ _).symm
  have hdl:ds.length=rvs.length:=hrm.length.symm
  rw[hsplit] at hdr'
  obtain⟨u,z,o1,o2,huz,rfl,hd1,hd2⟩:=QiD hdr'
  have hul:u.length=rvs.length:=by
   rw[hd1.length,Qo];omega
  obtain⟨rfl,rfl⟩:=List.append_inj huz hul.symm
  have hown:∀b∈o1++o2,(b∈os∨w.heap.size≤b)∧b<w'.heap.size:=fun b hb=>let ⟨id,h,_⟩:=hg.own b hb;hR'.own b ⟨id,h⟩
  have hk:Keep w' w' (Im B κ' s.hp w') (fun b=>(I b∨b∈os∨w.heap.size≤b)∧b∉o1++o2∧b<w'.heap.size):=
   ⟨fun b ⟨h1,h2,h3⟩=>⟨h1,fun hb=>let ⟨id,h,_⟩:=hg.own b hb;h3 ⟨id,h⟩,h2⟩,fun _ _=>rfl⟩
  suffices hb:DRs w' (fun b=>(I b∨b∈os∨w.heap.size≤b)∧b∉o1++o2∧b<w'.heap.size) (r'::os'.map (·.2)) (Qfm rvs::os'.map (fun o=>vs.getD o.1 undef)) (o1++o2) by
   rcases hr' with rfl|rfl
   ·exact⟨hdf,_,hres,_,o1++o2,rfl,hR'.stp,hg.nd,hown,hb⟩
   ·obtain⟨o,q1,q2⟩:=QoT hg.nd hb fun b hb=>⟨.inr (hown b hb).1,(hown b hb).2⟩
    exact⟨hdf,_,hres,_,o,rfl,hR'.stp,q1.nodup hg.nd,fun b hb=>hown b (q1.subset hb),q2⟩
  simp only[DRs]
  have hd1':=DRs.mono hk _ _ _ (fun _ _=>rfl) hd1
  have hd2':=DRs.mono hk _ _ _ (fun _ _=>rfl) hd2
  refine⟨_,_,o1,o2,rfl,rfl,?_,?_⟩
  ·rw[←hr]
   have htl:(l.take ds.length).length=rvs.length:=hd1.length.symm
   generalize hL:l.take ds.length=L at hd1' htl ⊢
   match L,rvs,htl,hd1' with
   |[],[],_,h=>simp only[DR];exact⟨_,rfl,h⟩
   |[d],[v],_,h=>
    simp only[DRs] at h
    obtain⟨v0,vs0,p,q,h1,h2,h3,h4,h5⟩:=h
    simp only[List.cons.injEq] at h1
    obtain⟨rfl,rfl⟩:=h1
    subst h5
    rw[List.append_nil] at h2
    subst h2
    exact h3
   |d1::d2::L,v1::v2::rvs,_,h=>simp only[DR];exact⟨_,rfl,h⟩
  ·rw[←ho]
   have hdl2:(l.drop ds.length).length=outs.length:=by rw[List.length_drop];omega
   have e1:(outs.zip (l.drop ds.length)).map (·.2)=l.drop ds.length:=by
    rw[List.map_snd_zip];omega
   have e2:(outs.zip (l.drop ds.length)).map (fun o=>vs.getD o.1 undef)=outs.map (fun i=>a.tmps.getD i undef):=by
    have:(outs.zip (l.drop ds.length)).map (fun o=>vs.getD o.1 undef)=((outs.zip (l.drop ds.length)).map (·.1)).map fun i=>vs.getD i undef:=by rw[List.map_map];rfl
    rw[this,List.map_fst_zip (by omega)]
    refine List.map_congr_left fun i hi=>?_
    have:=hS'.fx i hi
    simp only[B] at this
    simp only[Array.getD_eq_getD_getElem?,List.getD_eq_getElem?_getD,this]
   rw[e1,e2]
   exact hd2'
 cases e with
 |normal=>exact fin hdone
 |exit id=>exact hdone.elim
 |ret=>exact fin hdone
end
end Go.Am
