/- A region whose operations may come in several orders. -/
import Derived.Test.YtgllpjliaepbdaaGreatAmPf
import Derived.Orders
namespace Go.Am
set_option linter.unusedVariables false
set_option linter.unusedSimpArgs false
set_option linter.unnecessarySimpa false
open Go
abbrev Sl:=qSl
def SLf(x:Nat→Option Nat)(d:Nat→D)(L:Nat→Bool)(sl:Sl):Nat→Sl
 |0=>sl
 |p+1=>if L p then Xe (x p) (d p) (SLf x d L sl p) else SLf x d L sl p
def HPf(T:Nat→Hp→Hp)(L:Nat→Bool)(hp:Hp):Nat→Hp
 |0=>hp
 |p+1=>if L p then T p (HPf T L hp p) else HPf T L hp p
theorem QgJ{x:Nat→Option Nat}{d:Nat→D}{sl:Sl}:∀p,SLf (fun p=>x (p+1)) (fun p=>d (p+1)) (fun _=>true) (Xe (x 0) (d 0) sl) p=SLf x d (fun _=>true) sl (p+1)
 |0=>rfl
 |p+1=>by
  have:=QgJ (x:=x) (d:=d) (sl:=sl) p
  simp only[SLf,if_true] at this ⊢
  rw[this]
theorem QgK{T:Nat→Hp→Hp}{hp:Hp}:∀p,HPf (fun p=>T (p+1)) (fun _=>true) (T 0 hp) p=HPf T (fun _=>true) hp (p+1)
 |0=>rfl
 |p+1=>by
  have:=QgK (T:=T) (hp:=hp) p
  simp only[HPf,if_true] at this ⊢
  rw[this]
theorem QgL{x:Nat→Option Nat}{d:Nat→D}{L L':Nat→Bool}{sl:Sl}:∀p,(∀q,q<p→L q=L' q)→SLf x d L sl p=SLf x d L' sl p
 |0,_=>rfl
 |p+1,h=>by simp only[SLf,h p (by omega),QgL p fun q hq=>h q (by omega)]
theorem QgM{T:Nat→Hp→Hp}{L L':Nat→Bool}{hp:Hp}:∀p,(∀q,q<p→L q=L' q)→HPf T L hp p=HPf T L' hp p
 |0,_=>rfl
 |p+1,h=>by simp only[HPf,h p (by omega),QgM p fun q hq=>h q (by omega)]
def Zd(l:List LI)(p:Nat):Option Nat:=(l[p]?).bind (·.dst)
def Jq{α:Type}(a:α)(f:Nat→α):Nat→α
 |0=>a
 |n+1=>f n
theorem QoN{a b:List Nat}(h:JP a b=true):∀id∈a,id∉b:=by
 intro id hid
 have:=Qr.1 h id hid
 simpa using this
theorem QoO{P:Program}{n0:Nat}{K:St→Prop}{cs:List (Nat×Option Nat×List Nat×Bool)}:∀(l:List LI)(i n:Nat)(log:List (Nat×List Nat×List Nat))(s:St),(∀x∈l,x.op.det=true)→(∀j e,lk log j=some e→j<i)→WD P cs n0 l i n log s K→
  ∃(d:Nat→D) (T:Nat→Hp→Hp) (rd mu:Nat→List Nat),
   K ⟨SLf (Zd l) d (fun _=>true) s.sl l.length,HPf T (fun _=>true) s.hp l.length,n+64*l.length⟩∧
   ∀p x,l[p]?=some x→Fra P (n+64*p) x ⟨SLf (Zd l) d (fun _=>true) s.sl p,HPf T (fun _=>true) s.hp p,s.nx⟩ (d p) (T p) (rd p) (mu p)∧
    ∀om c b,lk cs (i+p)=some (om,c,b)→(∀m,om=some m→∀id∈rd p,Qbm n0 m id=true)∧
     ∀j∈c,(∀q,j=i+q→q<p∧(∀id∈mu p,id∉rd q)∧(∀id∈mu q,id∉rd p))∧
      (j<i→∃e,lk log j=some e∧(∀id∈mu p,id∉e.1)∧(∀id∈e.2,id∉rd p))
 |[],i,n,log,s,_,hlog,h=>by
  simp only[WD] at h
  exact⟨fun _=>.undef,fun _ l=>l,fun _=>[],fun _=>[],by simpa [SLf,HPf] using h,by simp⟩
 |x::l,i,n,log,s,hdet,hlog,h=>by
  simp only[WD] at h
  obtain⟨hchk,h⟩:=h
  obtain⟨d0,T0,rd0,mu0,hK,hF⟩:=QQ0 (hdet x (by simp)) h
  have hlog':∀j e,lk (if lgE (lk cs i) then (i,rdI s.sl s.hp x.op,muI s.sl s.hp x.op)::log else log) j=some e→j<i+1:=by
   intro j e he
   split at he
   ·simp only[lk] at he
    split at he
    ·omega
    ·have:=hlog j e he;omega
   ·have:=hlog j e he;omega
  obtain⟨d,T,rd,mu,h1,h2⟩:=QoO l (i+1) (n+64) _ _ (fun y hy=>hdet y (Qs _ hy)) hlog' hK
  refine⟨Jq d0 d,Jq T0 T,Jq rd0 rd,Jq mu0 mu,?_,?_⟩
  ·have e1:=QgJ (x:=Zd (x::l)) (d:=Jq d0 d) (sl:=s.sl) l.length
   have e2:=QgK (T:=Jq T0 T) (hp:=s.hp) l.length
   rw[List.length_cons,←e1,←e2,show n+64*(l.length+1)=n+64+64*l.length by omega]
   exact h1
  ·intro p y hp
   cases p with
   |zero=>
    simp only[List.getElem?_cons_zero,Qb] at hp
    subst hp
    refine⟨hF,fun om c b hc=>?_⟩
    rw[Nat.add_zero] at hc
    rw[hc] at hchk
    have hone:∀j,Qaq log (rdI s.sl s.hp x.op) (muI s.sl s.hp x.op) j=true→(∀q,j=i+q→q<0∧(∀id∈Jq mu0 mu 0,id∉Jq rd0 rd q)∧(∀id∈Jq mu0 mu q,id∉Jq rd0 rd 0))∧
      (j<i→∃e,lk log j=some e∧(∀id∈mu0,id∉e.1)∧(∀id∈e.2,id∉rd0)):=by
     intro j hc
     unfold Qaq at hc
     split at hc
     ·rename_i rd' mu' hlk
      simp only[Qi] at hc
      have hji:=hlog j _ hlk
      exact⟨fun q hq=>by omega,fun _=>⟨_,hlk,fun id hid=>QoN hc.1 id (hF.mu id hid).2,fun id hid hid2=>QoN hc.2 id hid (hF.pre id hid2).2⟩⟩
     ·cases hc
    cases om with
    |none=>
     simp only[Qbn,Qr] at hchk
     exact⟨fun m hm=>(by cases hm),fun j hj=>hone j (hchk j hj)⟩
    |some m=>
     simp only[Qbn,Qi,Qr] at hchk
     exact⟨fun m' hm id hid=>(by cases hm;exact hchk.1 id (hF.pre id hid).2),fun j hj=>hone j (hchk.2 j hj)⟩
   |succ p=>
    simp only[List.getElem?_cons_succ] at hp
    obtain⟨hF',hC⟩:=h2 p y hp
    refine⟨?_,fun om c b hc=>?_⟩
    ·have e1:=QgJ (x:=Zd (x::l)) (d:=Jq d0 d) (sl:=s.sl) p
     have e2:=QgK (T:=Jq T0 T) (hp:=s.hp) p
     rw[←e1,←e2,show n+64*(p+1)=n+64+64*p by omega]
     exact hF'
    ·obtain⟨hids',hdis⟩:=hC om c b (by rw[←hc];congr 1;omega)
     refine⟨hids',fun j hj=>?_⟩
     obtain⟨g1,g2⟩:=hdis j hj
     have head:j=i→(∀id∈mu p,id∉rd0)∧∀id∈mu0,id∉rd p:=by
      intro hji
      obtain⟨e,he,a1,a2⟩:=g2 (by omega)
      split at he
      ·simp only[lk,hji,if_true,Qb] at he
       subst he
       exact⟨fun id h1 h2=>a1 id h1 (hF.pre id h2).2,fun id h1=>a2 id (hF.mu id h1).2⟩
      ·have:=hlog _ _ he;omega
     refine⟨fun q hq=>?_,fun hji=>?_⟩
     ·cases q with
      |zero=>exact⟨by omega,head (by omega)⟩
      |succ q=>
       obtain⟨b1,b2⟩:=g1 q (by omega)
       exact⟨by omega,b2⟩
     ·obtain⟨e,he,a1⟩:=g2 (by omega)
      split at he
      ·simp only[lk] at he
       rw[if_neg (by omega)] at he
       exact⟨e,he,a1⟩
      ·exact⟨e,he,a1⟩
def aft(o:Oper):List Nat:=(o.after.toList.filter (Region.binds .any)).map (·.on)
theorem QoP{ms:List Nat}:∀{es:List Nat}{m:Nat},QaU ms es=some m→∀j,m.testBit j=true↔∃e∈es,∃me,ms[e]?=some me∧(j=e∨me.testBit j=true)
 |[],m,h,j=>by simp only[QaU,Qb] at h;subst h;simp
 |e::es,m,h,j=>by
  simp only[QaU] at h
  split at h
  ·rename_i me r hme hr
   simp only[Qb] at h
   subst h
   simp only[Nat.testBit_or,Qx,Nat.testBit_two_pow,Qk,QoP hr j,Qh,exists_eq_or_imp,hme,Qb,exists_eq_left']
   constructor
   ·rintro ((rfl|h)|h)
    ·exact .inl (.inl rfl)
    ·exact .inl (.inr h)
    ·exact .inr h
   ·rintro ((rfl|h)|h)
    ·exact .inl (.inl rfl)
    ·exact .inl (.inr h)
    ·exact .inr h
  ·cases h
theorem QdL{ms:List Nat}:∀{es:List Nat}{m:Nat},QaU ms es=some m→∀e∈es,e<ms.length
 |e::es,m,h,e',he'=>by
  simp only[QaU] at h
  split at h
  ·rename_i me r hme hr
   rcases Qh.1 he' with rfl|h'
   ·exact (Qw.1 hme).1
   ·exact QdL hr e' h'
  ·cases h
theorem QgN:∀{os:List Oper}{ms0 ms:List Nat},QaV os ms0=some ms→
  ms.length=ms0.length+os.length∧(∀p,p<ms0.length→ms[p]?=ms0[p]?)∧
  ∀p o,os[p]?=some o→∃m,ms[ms0.length+p]?=some m∧(∀e∈aft o,e<ms0.length+p)∧∀j,m.testBit j=true↔∃e∈aft o,∃me,ms[e]?=some me∧(j=e∨me.testBit j=true)
 |[],ms0,ms,h=>by simp only[QaV,Qb] at h;subst h;simp
 |o::os,ms0,ms,h=>by
  simp only[QaV] at h
  split at h
  case h_2=>cases h
  rename_i m hm
  obtain⟨h1,h2,h3⟩:=QgN h
  simp only[Ql,List.length_cons,List.length_nil] at h1 h2 h3
  have XK:∀p,p<ms0.length→ms[p]?=ms0[p]?:=fun p hp=>by rw[h2 p (by omega),Qy hp]
  refine⟨by rw[List.length_cons];omega,XK,?_⟩
  intro p o' ho'
  cases p with
  |zero=>
   simp only[List.getElem?_cons_zero,Qb] at ho'
   subst ho'
   refine⟨m,by rw[Nat.add_zero,h2 _ (by omega),QH (by omega)];simp,fun e he=>by simpa using QdL hm e he,fun j=>?_⟩
   rw[QoP hm]
   constructor
   ·rintro⟨e,he,me,hme,hj⟩
    exact⟨e,he,me,by rw[XK e (QdL hm e he)];exact hme,hj⟩
   ·rintro⟨e,he,me,hme,hj⟩
    exact⟨e,he,me,by rw[←XK e (QdL hm e he)];exact hme,hj⟩
  |succ p=>
   obtain⟨m',g1,g2,g3⟩:=h3 p o' (by simpa using ho')
   exact⟨m',by rw[←g1];congr 1;omega,fun e he=>by have:=g2 e he;omega,g3⟩
theorem QTf{n0 m id:Nat}(h:Qbm n0 m id=true):id<n0∨m.testBit ((id-n0)/64)=true:=by
 unfold Qbm at h
 split at h
 ·exact .inl ‹_›
 ·refine .inr ?_
  rw[Nat.testBit_eq_decide_div_mod_eq]
  simpa using h
theorem QoQ{sl:Sl}{hp:Hp}{op:LOp}(h:op.mk=false):muI sl hp op=[]:=by
 cases op<;>simp_all [LOp.mk,muI]
theorem QgO{sl:Sl}{hp:Hp}{op:LOp}(h:op.rk=false):rdI sl hp op=[]:=by
 cases op<;>simp_all [LOp.rk,LOp.mk,rdI]
theorem QoR{ms:List Nat}{l:List LI}{i:Nat}(hi:i<l.length):lk (Qdi ms l) i=none∧Zz ms l i=(none,[],false)∨lk (Qdi ms l) i=some (Zz ms l i):=by
 have key:∀(r:List Nat),i∈r→lk (r.filterMap fun i=>match Zz ms l i with
  |(none,[],false)=>none
  |e=>some (i,e)) i=none∧Zz ms l i=(none,[],false)∨lk (r.filterMap fun i=>match Zz ms l i with
  |(none,[],false)=>none
  |e=>some (i,e)) i=some (Zz ms l i):=by
  have hno:∀r:List Nat,Zz ms l i=(none,[],false)→lk (r.filterMap fun i=>match Zz ms l i with
  |(none,[],false)=>none
  |e=>some (i,e)) i=none:=by
   intro r h
   induction r with
   |nil=>rfl
   |cons a r ih=>
    rw[List.filterMap_cons]
    split
    ·exact ih
    ·rename_i q hq
     have:q.1=a∧q.2=Zz ms l a∧Zz ms l a≠(none,[],false):=by
      split at hq
      ·cases hq
      ·rename_i e hne heq
       simp only[Qb] at hq
       subst hq
       exact⟨rfl,rfl,fun h=>heq h⟩
     obtain⟨q1,q2⟩:=q
     simp only at this
     obtain⟨rfl,rfl,hne⟩:=this
     have hia:i≠q1:=fun e=>hne (e▸h)
     simp only[lk,if_neg hia]
     exact ih
  intro r hr
  by_cases hc:Zz ms l i=(none,[],false)
  ·exact .inl ⟨hno r hc,hc⟩
  ·refine .inr ?_
   induction r with
   |nil=>simp at hr
   |cons a r ih=>
    rw[List.filterMap_cons]
    by_cases hia:i=a
    ·subst hia
     split
     ·rename_i hq
      split at hq
      ·rename_i h0;exact absurd h0 hc
      ·cases hq
     ·rename_i q hq
      split at hq
      ·cases hq
      ·simp only[Qb] at hq
       subst hq
       simp [lk]
    ·have hr':i∈r:=by simpa [hia] using hr
     split
     ·exact ih hr'
     ·rename_i q hq
      have:q.1=a:=by
       split at hq
       ·cases hq
       ·simp only[Qb] at hq
        subst hq
        rfl
      obtain⟨q1,q2⟩:=q
      simp only at this
      subst this
      simp only[lk,if_neg hia]
      exact ih hr'
 exact key _ (by simpa using hi)
theorem QoS{n:Nat}{f:Nat→Bool}(h:QfI n f=true):∀i,i<n→f i=true:=fun i hi=>Qr.1 h i (by simpa using hi)
theorem QgP{x y:LI}(h:x.apart y=true):(∀d,x.dst=some d→d∉y.reads)∧(∀d,x.dst=some d→y.dst≠some d)∧(∀d,y.dst=some d→d∉x.reads):=by
 unfold LI.apart at h
 rw[Qi] at h
 obtain⟨h1,h2⟩:=h
 refine⟨fun d hd=>?_,fun d hd hy=>?_,fun d hd=>?_⟩
 ·rw[hd] at h1;simp only[Qi,Bool.not_eq_true',List.contains_eq_mem,QE] at h1;exact h1.1
 ·rw[hd,hy] at h1;simp at h1
 ·rw[hd] at h2;simpa using h2
theorem JW{o:Option Nat}{d:D}{sl:Sl}{t:Nat}:lk (Xe o d sl) t=if o=some t then some d else lk sl t:=by
 cases o with
 |none=>simp [Xe]
 |some u=>
  simp only[Xe,Yw,Qb]
  by_cases h:t=u
  ·simp [h]
  ·rw[if_neg h,if_neg (Ne.symm h)]
theorem Loc.ext{S:Nat→Prop}{T:Hp→Hp}(h:Loc S T){l m:Hp}(he:∀id,lk m id=lk l id)(id:Nat):lk (T m) id=lk (T l) id:=by
 by_cases hs:S id
 ·exact h.same l m (fun i _=>he i) id hs
 ·rw[h.out m id hs,h.out l id hs,he]
theorem Loc.comm{S S':Nat→Prop}{T U:Hp→Hp}(h:Loc S T)(k:Loc S' U)(hd:∀id,S id→¬S' id)(l:Hp)(id:Nat):lk (T (U l)) id=lk (U (T l)) id:=by
 by_cases hs:S id
 ·rw[k.out (T l) id (hd id hs)]
  exact h.same l (U l) (fun i hi=>k.out l i (hd i hi)) id hs
 ·rw[h.out (U l) id hs]
  by_cases hs':S' id
  ·exact (k.same l (T l) (fun i hi=>h.out l i (fun hh=>hd i hh hi)) id hs').symm
  ·rw[k.out l id hs',k.out (T l) id hs',h.out l id hs]
structure Free(k:Nat)(X:Nat→LI)(ms:Nat→Nat)(T:Nat→Hp→Hp)(rd:Nat→List Nat)(F:Nat→Nat→Prop):Prop where
 loc:∀p,p<k→Loc (F p) (T p)
 lt:∀p,p<k→∀j,(ms p).testBit j=true→j<p
 ap:∀p q,q<p→p<k→(ms p).testBit q=false→(X q).apart (X p)=true
 rdp:∀p q,q<p→p<k→(ms p).testBit q=false→∀id∈rd p,¬F q id
 rdq:∀p q,q<p→p<k→(ms p).testBit q=false→∀id∈rd q,¬F p id
 ff:∀p q,q<p→p<k→(ms p).testBit q=false→∀id,F p id→¬F q id
section
variable {k:Nat} {X:Nat→LI} {ms:Nat→Nat} {T:Nat→Hp→Hp} {rd:Nat→List Nat} {F:Nat→Nat→Prop} {L:Nat→Bool} {i:Nat} {sl:Sl} {hp:Hp} {d:Nat→D} {x:Nat→Option Nat}
theorem Free.bit(hc:∀p,p<k→L p=true→∀j,(ms p).testBit j=true→L j=true){p q:Nat}(hp:p<k)(hL:L p=true)(hq:L q=false):(ms p).testBit q=false:=by
 cases h:(ms p).testBit q
 ·rfl
 ·rw[hc p hp hL q h] at hq;cases hq
theorem Free.slots(h:Free k X ms T rd F)(hx:∀p,p<k→x p=(X p).dst)(hi:i<k)(hL:L i=false)(hm:∀j,(ms i).testBit j=true→L j=true)(hc:∀p,p<k→L p=true→∀j,(ms p).testBit j=true→L j=true)
  {t:Nat} (ht:t∈(X i).reads):lk (SLf x d L sl k) t=lk (SLf x d (fun _=>true) sl i) t:=by
 have A:∀p,p≤i→lk (SLf x d L sl p) t=lk (SLf x d (fun _=>true) sl p) t:=by
  intro p
  induction p with
  |zero=>intro _;rfl
  |succ p ih=>
   intro hp
   have ih:=ih (by omega)
   simp only[SLf,if_true]
   split
   ·rw[JW,JW,ih]
   ·rename_i hLp
    rw[JW,if_neg,ih]
    intro e
    have hb:(ms i).testBit p=false:=by
     cases hb:(ms i).testBit p
     ·rfl
     ·exact absurd (hm p hb) hLp
    exact (QgP (h.ap i p (by omega) hi hb)).1 t (by rw[←hx p (by omega)];exact e) ht
 have Bc:∀r,i+r≤k→lk (SLf x d L sl (i+r)) t=lk (SLf x d L sl i) t:=by
  intro r
  induction r with
  |zero=>intro _;rfl
  |succ r ih=>
   intro hr
   have ih:=ih (by omega)
   rw[←QD]
   simp only[SLf]
   split
   ·rename_i hLp
    have hri:r≠0:=fun e=>by subst e;rw[Nat.add_zero,hL] at hLp;cases hLp
    rw[JW,if_neg,ih]
    intro e
    exact (QgP (h.ap (i+r) i (by omega) (by omega) (Free.bit hc (by omega) hLp hL))).2.2 t (by rw[←hx _ (by omega)];exact e) ht
   ·exact ih
 have:=Bc (k-i) (by omega)
 rw[show i+(k-i)=k by omega] at this
 rw[this,A i (Qf _)]
theorem Free.heap(h:Free k X ms T rd F)(hi:i<k)(hL:L i=false)(hm:∀j,(ms i).testBit j=true→L j=true)(hc:∀p,p<k→L p=true→∀j,(ms p).testBit j=true→L j=true)
  {id:Nat} (hid:id∈rd i):lk (HPf T L hp k) id=lk (HPf T (fun _=>true) hp i) id:=by
 have A:∀p,p≤k→∀id,(∀q,q<p→L q=false→¬F q id)→lk (HPf T L hp p) id=lk (HPf T (fun _=>true) hp p) id:=by
  intro p
  induction p with
  |zero=>intro _ _ _;rfl
  |succ p ih=>
   intro hp id hq
   have ih:=ih (by omega)
   simp only[HPf,if_true]
   split
   ·rename_i hLp
    by_cases hF:F p id
    ·exact (h.loc p (by omega)).same _ _ (fun id' hF'=>ih id' fun q hq hLq=>h.ff p q hq (by omega) (Free.bit hc (by omega) hLp hLq) id' hF') id hF
    ·rw[(h.loc p (by omega)).out _ id hF,(h.loc p (by omega)).out _ id hF]
     exact ih id fun q hq' hLq=>hq q (by omega) hLq
   ·rename_i hLp
    rw[(h.loc p (by omega)).out _ id (hq p (by omega) (by simpa using hLp))]
    exact ih id fun q hq' hLq=>hq q (by omega) hLq
 have Bc:∀r,i+r≤k→lk (HPf T L hp (i+r)) id=lk (HPf T L hp i) id:=by
  intro r
  induction r with
  |zero=>intro _;rfl
  |succ r ih=>
   intro hr
   have ih:=ih (by omega)
   rw[←QD]
   simp only[HPf]
   split
   ·rename_i hLp
    have hri:r≠0:=fun e=>by subst e;rw[Nat.add_zero,hL] at hLp;cases hLp
    rw[(h.loc (i+r) (by omega)).out _ id (h.rdq (i+r) i (by omega) (by omega) (Free.bit hc (by omega) hLp hL) id hid)]
    exact ih
   ·exact ih
 have:=Bc (k-i) (by omega)
 rw[show i+(k-i)=k by omega] at this
 rw[this]
 refine A i (by omega) id fun q hq hLq=>h.rdp i q hq hi ?_ id hid
 cases hb:(ms i).testBit q
 ·rfl
 ·rw[hm q hb] at hLq;cases hLq
def ZV(L:Nat→Bool)(i:Nat):Nat→Bool:=fun p=>p==i||L p
theorem Qax{q:Nat}(h:q≠i):ZV L i q=L q:=by simp [ZV,h]
theorem Free.slots'(h:Free k X ms T rd F)(hx:∀p,p<k→x p=(X p).dst)(hi:i<k)(hL:L i=false)(hc:∀p,p<k→L p=true→∀j,(ms p).testBit j=true→L j=true)
  (t:Nat):lk (Xe (x i) (d i) (SLf x d L sl k)) t=lk (SLf x d (ZV L i) sl k) t:=by
 have A:∀r,i+1+r≤k→lk (Xe (x i) (d i) (SLf x d L sl (i+1+r))) t=lk (SLf x d (ZV L i) sl (i+1+r)) t:=by
  intro r
  induction r with
  |zero=>
   intro _
   simp only[Nat.add_zero,SLf,hL,Bool.false_eq_true,if_false]
   rw[if_pos (by simp [ZV]),QgL i fun q hq=>(Qax (L:=L) (i:=i) (q:=q) (by omega))]
  |succ r ih=>
   intro hr
   have ih:=ih (by omega)
   rw[←QD]
   simp only[SLf,Qax (L:=L) (i:=i) (q:=i+1+r) (by omega)]
   split
   ·rename_i hLp
    have ap:=(QgP (h.ap (i+1+r) i (by omega) (by omega) (Free.bit hc (by omega) hLp hL))).2.1
    rw[←hx _ (by omega),←hx _ (by omega)] at ap
    rw[JW,JW,JW,←ih,JW]
    by_cases e:x i=some t
    ·rw[if_pos e,if_neg (ap t e),if_pos e]
    ·rw[if_neg e,if_neg e]
   ·exact ih
 have:=A (k-i-1) (by omega)
 rwa [show i+1+(k-i-1)=k by omega] at this
theorem Free.heap'(h:Free k X ms T rd F)(hi:i<k)(hL:L i=false)(hc:∀p,p<k→L p=true→∀j,(ms p).testBit j=true→L j=true)
  (id:Nat):lk (T i (HPf T L hp k)) id=lk (HPf T (ZV L i) hp k) id:=by
 have A:∀r,i+1+r≤k→∀id,lk (T i (HPf T L hp (i+1+r))) id=lk (HPf T (ZV L i) hp (i+1+r)) id:=by
  intro r
  induction r with
  |zero=>
   intro _ id
   simp only[Nat.add_zero,HPf,hL,Bool.false_eq_true,if_false]
   rw[if_pos (by simp [ZV]),QgM i fun q hq=>(Qax (L:=L) (i:=i) (q:=q) (by omega))]
  |succ r ih=>
   intro hr id
   have ih:=ih (by omega)
   rw[←QD]
   simp only[HPf,Qax (L:=L) (i:=i) (q:=i+1+r) (by omega)]
   split
   ·rename_i hLp
    have hff:=h.ff (i+1+r) i (by omega) (by omega) (Free.bit hc (by omega) hLp hL)
    rw[(h.loc i hi).comm (h.loc (i+1+r) (by omega)) (fun id h1 h2=>hff id h2 h1)]
    exact (h.loc (i+1+r) (by omega)).ext ih id
   ·exact ih id
 have:=A (k-i-1) (by omega) id
 rwa [show i+1+(k-i-1)=k by omega] at this
end
section
variable {B:Base} {κ κ':Nat→Option KI} {hp hp':Hp} {F:Nat→Prop} {w w':World} {sl sl':Sl} {tm:Array Value}
theorem QgQ(h:∀id,lk hp' id=lk hp id):OB κ hp'=OB κ hp:=by
 funext w id b;simp only[OB,h]
theorem QgR(h:∀id,lk hp' id=lk hp id):Im B κ hp' w=Im B κ hp w:=by
 funext b;simp only[Im,Jo,QgQ h]
theorem RH.ext(h:RH B κ hp F w)(he:∀id,lk hp' id=lk hp id):RH B κ hp' F w:=by
 refine⟨h.stp,h.fr,fun id e hl=>?_,fun b hb=>h.own b ?_,fun id id' b=>?_⟩
 ·rw[QgR he];exact h.ent id e (by rw[←he];exact hl)
 ·simpa only[Jo,QgQ he] using hb
 ·rw[QgQ he];exact h.inj id id' b
theorem RS.ext(h:RS B κ hp w sl tm)(he:∀id,lk hp' id=lk hp id)(hs:∀t,lk sl' t=lk sl t):RS B κ hp' w sl' tm:=by
 refine⟨h.size,fun t d ht=>?_,h.fx⟩
 rw[QgR he]
 exact h.sl t d (by rw[←hs];exact ht)
theorem Nxt.ext{hp0:Hp}(h:Nxt B κ κ' hp0 hp w w')(he:∀id,lk hp' id=lk hp id):Nxt B κ κ' hp0 hp' w w':=
 ⟨h.kle,by rw[QgR he];exact h.keep⟩
theorem Ow.ext{e:Ent}{k:KI}{b:Nat}(hh:w'.heap=w.heap):Ow w' e k b=Ow w e k b:=propext ⟨fun h=>h.congr fun _ _=>by rw[hh],fun h=>h.congr fun _ _=>by rw[hh]⟩
theorem QgS(hh:w'.heap=w.heap):OB κ hp w'=OB κ hp w:=by
 funext id b;simp only[OB,Ow.ext hh]
theorem QTg(hh:w'.heap=w.heap)(h1:w'.os=w.os)(h2:w'.tape=w.tape)(h3:w'.output=w.output)(h4:w.drawn≤w'.drawn)(h:RH B κ hp F w):RH B κ hp F w'∧Nxt B κ κ hp hp w w':=by
 have hI:∀b,Im B κ hp w b→Im B κ hp w' b:=fun b ⟨a1,a2,a3⟩=>⟨a1,by rw[hh];exact a2,by unfold Jo;rw[QgS hh];exact a3⟩
 have hk:Keep w w' (Im B κ hp w) (Im B κ hp w'):=⟨hI,fun b _=>by rw[hh]⟩
 refine⟨⟨?_,h.fr,fun id e he=>ER.mono hk (fun _ _ h=>h) (fun _ q b _ _=>by rw[hh]) (h.ent id e he),fun b hb=>?_,by rw[QgS hh];exact h.inj⟩,⟨fun _ _ h=>h,hk⟩⟩
 ·have hs:=h.stp
  exact⟨h1.trans hs.os,h2.trans hs.tape,h3.trans hs.output,by rw[hh];exact hs.size,fun b hb hO=>by rw[hh];exact hs.block b hb hO,fun b c e fr hg=>by rw[hh];exact hs.len b c e fr hg,Qt hs.drw h4⟩
 ·unfold Jo at hb;rw[QgS hh] at hb;rw[hh];exact h.own b hb
end
theorem QgT{α β:Type}{f:α→Option β}:∀{l:List α}{m:List β},Q1 f l=some m→m.length=l.length∧∀(p:Nat)(a:α),l[p]?=some a→∃b,f a=some b∧m[p]?=some b
 |[],m,h=>by simp only[Q1,Qb] at h;subst h;simp
 |a::l,m,h=>by
  simp only[Q1] at h
  split at h
  case h_2=>cases h
  rename_i b m' hb hm'
  simp only[Qb] at h
  subst h
  obtain⟨h1,h2⟩:=QgT hm'
  refine⟨by simp [h1],fun p a' hp=>?_⟩
  cases p with
  |zero=>simp only[List.getElem?_cons_zero,Qb] at hp;subst hp;exact⟨b,hb,rfl⟩
  |succ p=>exact h2 p a' hp
section
variable {P:Program} {B:Base} {H:Hints} {ops:Array Oper} {l:List LI} {ms:List Nat}
theorem QTh{x y:LOp}(h:¬y.may x=true):(y.mk=false∨x.rk=false)∧(y.rk=false∨x.mk=false):=by
 unfold LOp.may at h
 generalize y.mk=a at h ⊢
 generalize x.mk=b at h ⊢
 generalize y.rk=c at h ⊢
 generalize x.rk=d at h ⊢
 revert a b c d
 decide
theorem QTi{n0:Nat}{s:St}{K:St→Prop}(hm:QaV ops.toList []=some ms)(hll:l.length=ops.size)(hsl:Qnb ms l=true)(hdet:∀x∈l,x.op.det=true)
  (hfresh:∀id,n0≤id→lk s.hp id=none) (hw:WD P (Qdi ms l) n0 l 0 n0 [] s K):
  ∃(d:Nat→D) (T:Nat→Hp→Hp) (rd mu:Nat→List Nat),
   K ⟨SLf (Zd l) d (fun _=>true) s.sl l.length,HPf T (fun _=>true) s.hp l.length,n0+64*l.length⟩∧
   (∀p x,l[p]?=some x→Fra P (n0+64*p) x ⟨SLf (Zd l) d (fun _=>true) s.sl p,HPf T (fun _=>true) s.hp p,s.nx⟩ (d p) (T p) (rd p) (mu p))∧
   Free l.length (fun p=>(l[p]?).getD default) (fun p=>ms.getD p 0) T rd (fun p=>Fp (n0+64*p) ((l[p]?).getD default).op.ck (mu p)):=by
 obtain⟨d,T,rd,mu,hK,hF⟩:=QoO l 0 n0 [] s hdet (by simp [lk]) hw
 refine⟨d,T,rd,mu,hK,fun p x hp=>(hF p x hp).1,?_⟩
 obtain⟨hml,_,hms⟩:=QgN hm
 have hx:∀p,p<l.length→∃x,l[p]?=some x:=fun p hp=>⟨_,Qq hp⟩
 have hfra:∀p,p<l.length→Fra P (n0+64*p) ((l[p]?).getD default) ⟨SLf (Zd l) d (fun _=>true) s.sl p,HPf T (fun _=>true) s.hp p,s.nx⟩ (d p) (T p) (rd p) (mu p):=by
  intro p hp
  obtain⟨x,hx⟩:=hx p hp
  rw[hx]
  exact (hF p x hx).1
 have hmsp:∀p,p<l.length→∃m,ms[p]?=some m∧ms.getD p 0=m:=by
  intro p hp
  have:p<ms.length:=by simp at hml;omega
  exact⟨ms[p],Qq this,by simp [this]⟩
 have hlt:∀p,p<l.length→∀j,(ms.getD p 0).testBit j=true→j<p:=by
  intro p
  induction p using Nat.strongRecOn with
  |_ p ih=>
   intro hp j hj
   obtain⟨m,hmp,hmd⟩:=hmsp p hp
   have hpo:p<ops.toList.length:=by simp;omega
   obtain⟨m',hm',he,hb⟩:=hms p _ (Qq hpo)
   simp only[List.length_nil,Nat.zero_add] at hm' he
   rw[hmp,Qb] at hm'
   subst hm'
   rw[hmd,hb] at hj
   obtain⟨e,hea,me,hme,rfl|hj⟩:=hj
   ·exact he _ hea
   ·have hep:=he e hea
    have:=ih e hep (by omega) j (by simpa [hme] using hj)
    omega
 have hap:∀p q,q<p→p<l.length→(ms.getD p 0).testBit q=false→((l[q]?).getD default:LI).apart ((l[p]?).getD default)=true:=by
  intro p q hq hp hb
  have:=QoS (QoS hsl p hp) q hq
  obtain⟨m,hmp,hmd⟩:=hmsp p hp
  obtain⟨x,hxp⟩:=hx p hp
  obtain⟨y,hyq⟩:=hx q (by omega)
  rw[hmd] at hb
  simp only[hmp,hxp,hyq,hb,Bool.false_or] at this
  simpa [hxp,hyq] using this
 have hA:∀p q,q<p→p<l.length→(ms.getD p 0).testBit q=false→(∀id∈mu p,id∉rd q)∧(∀id∈mu q,id∉rd p):=by
  intro p q hq hp hb
  obtain⟨m,hmp,hmd⟩:=hmsp p hp
  obtain⟨x,hxp⟩:=hx p hp
  obtain⟨y,hyq⟩:=hx q (by omega)
  have fp:=(hF p x hxp).1
  have fq:=(hF q y hyq).1
  by_cases hmay:y.op.may x.op=true
  ·have hmem:q∈Qdh ms l p:=by
    unfold Qdh
    rw[List.mem_filter]
    refine⟨by simpa using hq,?_⟩
    rw[hmd] at hb
    simp [hmp,hxp,hyq,hb,hmay]
   rcases QoR (ms:=ms) hp with⟨_,h⟩|h
   ·simp only[Zz,Qe] at h
    rw[h.2.1] at hmem
    cases hmem
   ·obtain⟨_,hd⟩:=(hF p x hxp).2 _ _ _ (by rw[Nat.zero_add,h])
    obtain⟨h1,h2⟩:=((hd q hmem).1 q (by omega)).2
    exact⟨h1,h2⟩
  ·replace hmay:=QTh hmay
   refine⟨fun id h1 h2=>?_,fun id h1 h2=>?_⟩
   ·rcases hmay.2 with h|h
    ·have:=(fq.pre id h2).2;rw[QgO h] at this;cases this
    ·have:=(fp.mu id h1).2;rw[QoQ h] at this;cases this
   ·rcases hmay.1 with h|h
    ·have:=(fq.mu id h1).2;rw[QoQ h] at this;cases this
    ·have:=(fp.pre id h2).2;rw[QgO h] at this;cases this
 have hpres:∀p,p≤l.length→∀id,n0+64*p≤id→lk (HPf T (fun _=>true) s.hp p) id=none:=by
  intro p
  induction p with
  |zero=>intro _ id hid;exact hfresh id (by omega)
  |succ p ih=>
   intro hp id hid
   have ih:=ih (by omega)
   simp only[HPf,if_true]
   have fp:=hfra p (by omega)
   rw[fp.loc.out]
   ·exact ih id (by omega)
   ·rintro (h|⟨_,_,h⟩)
    ·exact (fp.pre id (fp.mu id h).1).1 (ih id (by omega))
    ·omega
 have hrdlt:∀p,p<l.length→∀id∈rd p,id<n0+64*p:=by
  intro p hp id hid
  refine Nat.lt_of_not_le fun hle=>(hfra p hp).pre id hid|>.1 (hpres p (by omega) id hle)
 have hrdp:∀p q,q<p→p<l.length→(ms.getD p 0).testBit q=false→∀id∈rd p,¬Fp (n0+64*q) ((l[q]?).getD default).op.ck (mu q) id:=by
  intro p q hq hp hb id hid
  rintro (h|⟨hck,h1,h2⟩)
  ·exact (hA p q hq hp hb).2 id h hid
  ·obtain⟨m,hmp,hmd⟩:=hmsp p hp
   obtain⟨x,hxp⟩:=hx p hp
   obtain⟨y,hyq⟩:=hx q (by omega)
   have hrk:x.op.rk=true:=by
    cases h:x.op.rk
    ·have:=((hF p x hxp).1.pre id hid).2;rw[QgO h] at this;cases this
    ·rfl
   have hnew:QfJ ms l p=true:=by
    unfold QfJ
    rw[List.any_eq_true]
    refine⟨q,by simpa using hq,?_⟩
    rw[hmd] at hb
    simp only[hyq,Option.getD_some] at hck
    simp [hmp,hxp,hyq,hb,hrk,hck]
   rcases QoR (ms:=ms) hp with⟨_,h⟩|h
   ·simp [Zz,hnew] at h
   ·obtain⟨hok,_⟩:=(hF p x hxp).2 _ _ _ (by rw[Nat.zero_add,h])
    rcases QTf (hok (ms.getD p 0) (by simp only[Zz,hnew,if_true]) id hid) with h|h
    ·omega
    ·rw[show (id-n0)/64=q by omega,hb] at h;cases h
 have hrdq:∀p q,q<p→p<l.length→(ms.getD p 0).testBit q=false→∀id∈rd q,¬Fp (n0+64*p) ((l[p]?).getD default).op.ck (mu p) id:=by
  intro p q hq hp hb id hid
  rintro (h|⟨hck,h1,h2⟩)
  ·exact (hA p q hq hp hb).1 id h hid
  ·have:=hrdlt q (by omega) id hid
   omega
 refine⟨fun p hp=>(hfra p hp).loc,hlt,hap,hrdp,hrdq,fun p q hq hp hb id h1 h2=>?_⟩
 rcases h1 with h1|⟨_,h1,_⟩
 ·exact hrdp p q hq hp hb id ((hfra p hp).mu id h1).1 h2
 ·rcases h2 with h2|⟨_,_,h2⟩
  ·have:=hrdlt q (by omega) id ((hfra q (by omega)).mu id h2).1
   omega
  ·omega
theorem QdM{listed:Array Bool}{i p:Nat}(hi:i<listed.size):(listed.setIfInBounds i true).getD p false=ZV (fun p=>listed.getD p false) i p:=by
 by_cases h:p=i
 ·subst h;simp [ZV,hi]
 ·rw[getD_set_ne false (Ne.symm h),Qax h]
theorem QgU{listed:Array Bool}{p:Nat}(hp:p<listed.size):listed.getD p true=listed.getD p false:=by
 simp [hp]
theorem QTj{n0:Nat}{s0:St}{κ0:Nat→Option KI}{w0:World}{df:List Deferred}{Q:Exit→Act→World→Prop}(hfx:B.fx=H.fx)(hl:Q1 (cI P H B.N ops) ops.toList=some l)(hm:QaV ops.toList []=some ms)
  {d:Nat→D} {T:Nat→Hp→Hp} {rd mu:Nat→List Nat}
  (hfra:∀p x,l[p]?=some x→Fra P (n0+64*p) x ⟨SLf (Zd l) d (fun _=>true) s0.sl p,HPf T (fun _=>true) s0.hp p,s0.nx⟩ (d p) (T p) (rd p) (mu p))
  (hfree:Free l.length (fun p=>(l[p]?).getD default) (fun p=>ms.getD p 0) T rd (fun p=>Fp (n0+64*p) ((l[p]?).getD default).op.ck (mu p)))
  (hn:∀κ' a' w',RH B κ' (HPf T (fun _=>true) s0.hp l.length) (fun id=>n0+64*l.length≤id) w'→RS B κ' (HPf T (fun _=>true) s0.hp l.length) w' (SLf (Zd l) d (fun _=>true) s0.sl l.length) a'.tmps→
   Nxt B κ0 κ' s0.hp (HPf T (fun _=>true) s0.hp l.length) w0 w'→a'.defers=df→Q .normal a' w'):
  ∀(fuel:Nat)(listed:Array Bool)(a:Act)(w:World)(U:List Nat)(κ:Nat→Option KI)(sl:Sl)(hp:Hp),
   listed.size=ops.size→(∀p,p<l.length→listed.getD p false=false→p∈U)→U.length≤fuel→
   (∀p,p<l.length→listed.getD p false=true→∀j,(ms.getD p 0).testBit j=true→listed.getD j false=true)→
   (∀t,lk sl t=lk (SLf (Zd l) d (fun p=>listed.getD p false) s0.sl l.length) t)→(∀id,lk hp id=lk (HPf T (fun p=>listed.getD p false) s0.hp l.length) id)→
   RH B κ hp (fun id=>n0+64*l.length≤id∨∃p,p<l.length∧listed.getD p false=false∧n0+64*p≤id∧id<n0+64*p+64) w→RS B κ hp w sl a.tmps→Nxt B κ0 κ s0.hp hp w0 w→a.defers=df→
   wpAny P .any ops Q fuel listed a w:=by
 obtain⟨hll,hci⟩:=QgT hl
 obtain⟨hml,_,hms⟩:=QgN hm
 simp only[List.length_nil,Nat.zero_add,Array.length_toList] at hml hms hll
 have hx:∀p,p<l.length→Zd l p=((l[p]?).getD default:LI).dst:=by
  intro p hp
  simp [Zd,Qq hp]
 have hmsk:∀p o,ops[p]?=some o→(∀e∈aft o,e<p)∧∀j,(ms.getD p 0).testBit j=true↔∃e∈aft o,(j=e∨(ms.getD e 0).testBit j=true):=by
  intro p o ho
  obtain⟨m,h1,h2,h3⟩:=hms p o (by simpa using ho)
  refine⟨h2,fun j=>?_⟩
  have:ms.getD p 0=m:=by simp [h1]
  rw[this,h3]
  constructor
  ·rintro⟨e,he,me,hme,hj⟩
   exact⟨e,he,by simpa [hme] using hj⟩
  ·rintro⟨e,he,hj⟩
   have hep:e<ms.length:=by
    have:=h2 e he
    have:p<ops.size:=(QK.1 ho).1
    omega
   exact⟨e,he,ms[e],Qq hep,by simpa [hep] using hj⟩
 have hedge:∀(o:Oper)(listed:Array Bool),(∀e∈o.after,Region.binds .any e=true→listed.getD e.on false=true)↔∀e∈aft o,listed.getD e false=true:=by
  intro o listed
  simp only[aft,Qu,List.mem_filter,Array.mem_toList_iff]
  constructor
  ·rintro h e ⟨e',⟨h1,h2⟩,rfl⟩;exact h e' h1 h2
  ·intro h e h1 h2;exact h e.on ⟨e,⟨h1,h2⟩,rfl⟩
 intro fuel
 have done:∀(listed:Array Bool)(a:Act)(w:World)(κ:Nat→Option KI)(sl:Sl)(hp:Hp),
   listed.size=ops.size→(∀t,lk sl t=lk (SLf (Zd l) d (fun p=>listed.getD p false) s0.sl l.length) t)→(∀id,lk hp id=lk (HPf T (fun p=>listed.getD p false) s0.hp l.length) id)→
   RH B κ hp (fun id=>n0+64*l.length≤id∨∃p,p<l.length∧listed.getD p false=false∧n0+64*p≤id∧id<n0+64*p+64) w→RS B κ hp w sl a.tmps→Nxt B κ0 κ s0.hp hp w0 w→a.defers=df→
   Region.ready .any ops listed=[]→Q .normal a w:=by
  intro listed a w κ sl hp hsz hs hh hR hS hN hD hr
  have all:∀p,p<l.length→listed.getD p false=true:=by
   intro p
   induction p using Nat.strongRecOn with
   |_ p ih=>
    intro hp
    cases hL:listed.getD p false with
    |true=>rfl
    |false=>
     exfalso
     have hpo:p<ops.size:=by omega
     have:p∈Region.ready .any ops listed:=by
      rw[mem_ready]
      refine⟨by rw[QgU (by omega)];exact hL,_,Array.getElem?_eq_getElem hpo,?_⟩
      rw[hedge]
      intro e he
      have:=(hmsk p _ (Array.getElem?_eq_getElem hpo)).1 e he
      exact ih e this (by omega)
     rw[hr] at this
     cases this
  have e1:=QgL (x:=Zd l) (d:=d) (sl:=s0.sl) (L:=fun p=>listed.getD p false) (L':=fun _=>true) l.length (fun q hq=>all q hq)
  have e2:=QgM (T:=T) (hp:=s0.hp) (L:=fun p=>listed.getD p false) (L':=fun _=>true) l.length (fun q hq=>all q hq)
  rw[e1] at hs
  rw[e2] at hh
  have hh':=fun id=>(hh id).symm
  exact hn κ a w ((hR.ext hh').same (fun id hid=>.inl hid)) (hS.ext hh' (fun t=>(hs t).symm)) (hN.ext hh') hD
 induction fuel with
 |zero=>
  intro listed a w U κ sl hp hsz hU hUl hcl hs hh hR hS hN hD
  have hr:Region.ready .any ops listed=[]:=by
   cases hr:Region.ready .any ops listed with
   |nil=>rfl
   |cons p r=>
    have hp:p∈Region.ready .any ops listed:=by rw[hr];simp
    rw[mem_ready] at hp
    obtain⟨h0,o,ho,_⟩:=hp
    have hpo:p<ops.size:=(QK.1 ho).1
    have:=hU p (by omega) (by rw[←QgU (by omega)];exact h0)
    have:U=[]:=List.length_eq_zero_iff.1 (by omega)
    subst this
    simp_all
  exact⟨hr,done listed a w κ sl hp hsz hs hh hR hS hN hD hr⟩
 |succ fuel ih=>
  intro listed a w U κ sl hp hsz hU hUl hcl hs hh hR hS hN hD
  refine⟨done listed a w κ sl hp hsz hs hh hR hS hN hD,fun i hi=>?_⟩
  rw[mem_ready] at hi
  obtain⟨h0,o,ho,hed⟩:=hi
  rw[hedge] at hed
  have hio:i<ops.size:=(QK.1 ho).1
  have hik:i<l.length:=by omega
  have hLi:listed.getD i false=false:=by rw[←QgU (by omega)];exact h0
  obtain⟨li,hcli,hli⟩:=hci i o (by simpa using ho)
  have hmi:∀j,(ms.getD i 0).testBit j=true→listed.getD j false=true:=by
   intro j hj
   obtain⟨e,he,rfl|hj⟩:=((hmsk i o ho).2 j).1 hj
   ·exact hed _ he
   ·have:=(hmsk i o ho).1 e he
    exact hcl e (by omega) (hed e he) j hj
  have hreads:∀t∈li.reads,lk sl t=lk (SLf (Zd l) d (fun _=>true) s0.sl i) t:=by
   intro t ht
   rw[hs t]
   exact hfree.slots (L:=fun p=>listed.getD p false) hx hik hLi hmi hcl (by simpa [hli] using ht)
  have hheap:∀id∈rd i,lk hp id=lk (HPf T (fun _=>true) s0.hp i) id:=by
   intro id hid
   rw[hh id]
   exact hfree.heap (L:=fun p=>listed.getD p false) hik hLi hmi hcl hid
  have fr:=hfra i li hli
  have hst:=fr.go sl hp s0.nx hreads hheap
  have hdst:Zd l i=li.dst:=by rw[hx i hik];simp [hli]
  have:=QnP (n:=n0+64*i) (Q:=Q) (next:=wpAny P .any ops Q fuel (listed.setIfInBounds i true)) (s:=⟨sl,hp,s0.nx⟩) (a:=a) hR hS
   (fun k hk=>.inr ⟨i,hik,hLi,by omega,by omega⟩) hfx hcli hst (fun κ1 s1 a1 w1 hK hR1 hS1 hN1 hD1=>by
    subst hK
    have haL:(fun p=>(listed.setIfInBounds i true).getD p false)=ZV (fun p=>listed.getD p false) i:=by
     funext p;exact QdM (by omega)
    refine ih _ a1 w1 (U.erase i) κ1 _ _ (by simp [hsz]) ?_ ?_ ?_ ?_ ?_ ?_ hS1 (hN.trans hN1) (hD1.trans hD)
    ·intro p hp hL
     rw[QdM (by omega)] at hL
     have hpi:p≠i:=fun e=>by subst e;simp [ZV] at hL
     rw[Qax hpi] at hL
     exact (List.mem_erase_of_ne hpi).2 (hU p hp hL)
    ·rw[List.length_erase_of_mem (hU i hik hLi)];omega
    ·intro p hp hL j hj
     rw[QdM (by omega)] at hL ⊢
     have:listed.getD j false=true:=by
      by_cases hpi:p=i
      ·subst hpi;exact hmi j hj
      ·rw[Qax hpi] at hL;exact hcl p hp hL j hj
     simp [ZV,this]
    ·intro t
     rw[haL,←hfree.slots' (L:=fun p=>listed.getD p false) hx hik hLi hcl,JW,JW,hs t,hdst]
    ·intro id
     rw[haL,←hfree.heap' (L:=fun p=>listed.getD p false) hik hLi hcl]
     exact (hfree.loc i hik).ext hh id
    ·refine hR1.same fun id hid=>?_
     rcases hid with hid|⟨p,hp,hL,h1,h2⟩
     ·exact⟨.inl hid,.inr (by omega)⟩
     ·rw[QdM (by omega)] at hL
      have hpi:p≠i:=fun e=>by subst e;simp [ZV] at hL
      rw[Qax hpi] at hL
      exact⟨.inr ⟨p,hp,hL,h1,h2⟩,by omega⟩)
  unfold wpOp
  rw[ho]
  simp only
  split at this
  ·rename_i hw;rw[if_pos hw];exact .inl this
  ·rename_i hw;rw[if_neg hw];exact this
theorem QTk{κ:Nat→Option KI}{s:St}{a:Act}{w:World}{K:St→Prop}{cs:List (Nat×Option Nat×List Nat×Bool)}{Q:Exit→Act→World→Prop}{id:Nat}(hmx:P.follows .mixedOrders=true)(hfx:B.fx=H.fx)(hl:Q1 (cI P H B.N ops) ops.toList=some l)
  (hd:QfK ops.toList l=some cs) (h:RH B κ s.hp (fun id=>s.nx≤id) w) (hs:RS B κ s.hp w s.sl a.tmps) (hk:WD P cs s.nx l 0 s.nx [] s K)
  (hn:∀κ' s' a' w',K s'→RH B κ' s'.hp (fun id=>s'.nx≤id) w'→RS B κ' s'.hp w' s'.sl a'.tmps→Nxt B κ κ' s.hp s'.hp w w'→a'.defers=a.defers→Q .normal a' w'):(Code.region id ops true).wp P Q a w:=by
 unfold QfK at hd
 split at hd
 case h_2=>cases hd
 rename_i ms hm
 split at hd
 case isFalse=>cases hd
 rename_i hsl
 simp only[Qb] at hd
 subst hd
 rw[Qi,Qr] at hsl
 obtain⟨hsl,hdet⟩:=hsl
 obtain⟨hll,_⟩:=QgT hl
 simp only[Array.length_toList] at hll
 obtain⟨d,T,rd,mu,hK,hfra,hfree⟩:=QTi hm hll hsl hdet (fun id hid=>h.fresh hid) hk
 obtain⟨hR,hN⟩:=QTg (w:=w) (w':={w with drawn:=w.drawn+1}) rfl rfl rfl rfl (Nat.le_succ _) h
 have emp:∀p,(Array.replicate ops.size false).getD p false=false:=by
  intro p
  simp only[Array.getD_eq_getD_getElem?,Array.getElem?_replicate]
  split<;>rfl
 have e1:∀p,SLf (Zd l) d (fun p=>(Array.replicate ops.size false).getD p false) s.sl p=s.sl:=by
  intro p
  induction p with
  |zero=>rfl
  |succ p ih=>rw[SLf,if_neg (by rw[emp];simp)];exact ih
 have e2:∀p,HPf T (fun p=>(Array.replicate ops.size false).getD p false) s.hp p=s.hp:=by
  intro p
  induction p with
  |zero=>rfl
  |succ p ih=>rw[HPf,if_neg (by rw[emp];simp)];exact ih
 refine wp_region_any hmx (QTj (s0:=s) (κ0:=κ) (w0:=w) (df:=a.defers) hfx hl hm hfra hfree (fun κ' a' w' h1 h2 h3 h4=>hn κ' _ a' w' hK h1 h2 h3 h4) ops.size _ a _ (List.range l.length) κ s.sl s.hp (by simp) ?_ (by simp [hll]) ?_ ?_ ?_ ?_ (hs.next hN) hN rfl)
 ·intro p hp _;simpa using hp
 ·intro p hp h;rw[emp] at h;cases h
 ·intro t;rw[e1]
 ·intro t;rw[e2]
 ·refine hR.same fun id hid=>?_
  rcases hid with hid|⟨p,_,_,hid,_⟩<;>omega
end
end Go.Am
