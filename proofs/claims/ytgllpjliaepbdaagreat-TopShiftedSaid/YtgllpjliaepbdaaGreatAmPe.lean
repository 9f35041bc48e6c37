/- Calls. -/
import Derived.Test.YtgllpjliaepbdaaGreatAmPd
namespace Go.Am
set_option linter.unusedVariables false
set_option linter.unusedSimpArgs false
set_option linter.unnecessarySimpa false
open Go
section
variable {P:Program} {B:Base} {κ:Nat→Option KI} {hp hp':qHp} {F:Nat→Prop} {w:World} {n:Nat} {d:D}
def Iall(B:Base)(w:World)(b:Nat):Prop:=(B.I b∨b∈B.os∨B.w.heap.size≤b)∧b<w.heap.size
theorem Iall.keep:Keep w w (Im B κ hp w) (Iall B w):=⟨fun _ h=>⟨h.1,h.2.1⟩,fun _ _=>rfl⟩
theorem Qnz{I I0:Nat→Prop}(hk:Keep w w I0 I):∀{cs es:List D}{vs:List Value},MRs w I0 κ cs vs→cs.all X5=true→Q1 (Xv hp) cs=some es→DRs w I es vs []
 |[],es,vs,hm,_,hl=>by
  simp only[Q1,Qb] at hl
  subst hl
  simp only[MRs] at hm
  simp [DRs,hm]
 |c::cs,es,vs,hm,hn,hl=>by
  simp only[Q1] at hl
  split at hl
  ·rename_i e es' he hes
   simp only[Qb] at hl
   subst hl
   simp only[MRs] at hm
   obtain⟨v,vs',rfl,hv,hm⟩:=hm
   simp only[List.all_cons,Qi] at hn
   simp only[DRs]
   refine⟨v,vs',[],[],rfl,rfl,?_,Qnz hk hm hn.2 hes⟩
   have l0:D.ids0 c=[]→Xa hp c=some e→DR w I e v []:=fun h0 hl=>JC hk (fun id hi=>by rw[h0] at hi;cases hi) hv hl
   have hn1:=hn.1
   clear hn
   cases c<;>simp only[X5,Bool.false_eq_true] at hn1<;>simp only[Xv] at he
   case ref cs=>
    simp only[Qb] at he
    subst he
    simp only[MR] at hv
    exact hv.mono hk _ _ _ (by simp)
   all_goals exact l0 rfl he
  ·cases hl
theorem QQo{I I0:Nat→Prop}(hk:Keep w w I0 I){e:D}{v:Value}(hr:∀id∈d.ids,Rd w I κ hp id)(hv:MR w I0 κ d v)(hn:YC d=true)(hl:Xz hp d=some e):DR w I e v []:=by
 have l0:D.ids d=D.ids0 d→Xa hp d=some e→DR w I e v []:=fun he hl=>JC hk (fun id hi=>hr id (by rw[he];exact hi)) hv hl
 cases d<;>simp only[YC,Bool.false_eq_true] at hn<;>simp only[Xz,Xv] at hl
 case clo f cs=>
  cases hc:Q1 (Xv hp) cs with
  |none=>simp [hc] at hl
  |some l=>
   simp only[hc,Option.map_some,Qb] at hl
   subst hl
   simp only[MR] at hv
   obtain⟨vs,rfl,h1⟩:=hv
   simp only[DR]
   exact⟨vs,rfl,Qnz hk h1 hn hc⟩
 case agg cs=>
  cases hc:Q1 (Xa hp) cs with
  |none=>simp [hc] at hl
  |some l=>
   simp only[hc,Option.map_some,Qb] at hl
   subst hl
   simp only[MR] at hv
   obtain⟨vs,rfl,h1,h2⟩:=hv
   have:=Qbr hk (fun c hc id hi=>hr id (by simp only[D.ids,Qp];exact⟨c,hc,hi⟩)) h2 h1 hc
   simp only[DR]
   exact⟨vs,rfl,h1,this.to_DRs⟩
 case ref cs=>
  simp only[Qb] at hl
  subst hl
  simp only[MR] at hv
  exact hv.mono hk _ _ _ (by simp)
 all_goals exact l0 rfl hl
theorem Qch{α β:Type}{f g:α→Option β}:∀{l:List α},(∀a∈l,f a=g a)→l.filterMap f=l.filterMap g
 |[],_=>rfl
 |a::l,h=>by simp only[List.filterMap_cons,h a (by simp),Qch (fun x hx=>h x (Qs _ hx))]
def blks(κ:Nat→Option KI)(E:qHp):List Nat:=E.filterMap fun p=>(κ p.1).bind KI.blk
structure Took(w:World)(I:Nat→Prop)(κ κ':Nat→Option KI)(n n':Nat)(E:qHp)(os:List Nat):Prop where
 le:n≤n'
 out:∀id,(id<n∨n'≤id)→κ' id=κ id
 ids:∀p∈E,n≤p.1∧p.1<n'
 nodup:(E.map (·.1)).Nodup
 owned:∀p∈E,p.2.own1=true
 blks:blks κ' E=os
 ent:∀p∈E,ER w I κ' p.1 p.2
theorem Took.nil{I:Nat→Prop}{κ:Nat→Option KI}:Took w I κ κ n n [] []:=⟨Qf _,fun _ _=>rfl,by simp,by simp,by simp,rfl,by simp⟩
theorem Took.kle{I:Nat→Prop}{κ κ':Nat→Option KI}{n':Nat}{E:qHp}{os:List Nat}(h:Took w I κ κ' n n' E os)(hf:∀id,n≤id→id<n'→κ id=none):Kle κ κ':=fun id k hk=>by
 by_cases h1:id<n∨n'≤id
 ·rw[h.out id h1];exact hk
 ·rw[hf id (by omega) (by omega)] at hk;cases hk
theorem Took.trans{I:Nat→Prop}{κ κ' κ'':Nat→Option KI}{n' n'':Nat}{E E':qHp}{os os':List Nat}(h:Took w I κ κ' n n' E os)(k:Took w I κ' κ'' n' n'' E' os')(hf:∀id,n'≤id→id<n''→κ' id=none):
  Took w I κ κ'' n n'' (E++E') (os++os'):=by
 have hk:=k.kle hf
 refine⟨Qt h.le k.le,fun id hid=>?_,fun p hp=>?_,?_,fun p hp=>?_,?_,fun p hp=>?_⟩
 ·have:=h.le;have:=k.le
  rw[k.out id (by omega),h.out id (by omega)]
 ·have:=h.le;have:=k.le
  rcases Qg.1 hp with hp|hp
  ·have:=h.ids p hp;omega
  ·have:=k.ids p hp;omega
 ·rw[List.map_append,QM]
  refine⟨h.nodup,k.nodup,?_⟩
  intro a ha b hb hab
  obtain⟨p,hp,rfl⟩:=Qu.1 ha
  obtain⟨q,hq,rfl⟩:=Qu.1 hb
  have:=h.ids p hp;have:=k.ids q hq;omega
 ·rcases Qg.1 hp with hp|hp
  ·exact h.owned p hp
  ·exact k.owned p hp
 ·have hb:=h.blks
  have kb:=k.blks
  unfold Am.blks at hb kb ⊢
  rw[List.filterMap_append,kb]
  congr 1
  rw[←hb]
  exact Qch fun p hp=>by rw[k.out p.1 (.inl (h.ids p hp).2)]
 ·rcases Qg.1 hp with hp|hp
  ·refine (h.ent p hp).mono ⟨fun _ h=>h,fun _ _=>rfl⟩ hk (fun _ _ _ _ _=>rfl)
  ·exact k.ent p hp
theorem DRs.scalars{I:Nat→Prop}:∀{cs:List D}{vs:List Value}{os:List Nat},cs.all X5=true→DRs w I cs vs os→os=[]
 |[],_,_,_,h=>by simp only[DRs] at h;exact h.2
 |c::cs,vs,os,hf,h=>by
  simp only[List.all_cons,Qi] at hf
  simp only[DRs] at h
  obtain⟨v,vs',o,o',rfl,rfl,h1,h2⟩:=h
  have:o=[]:=by
   cases c<;>simp only[X5,Bool.false_eq_true,false_and] at hf<;>simp only[DR] at h1<;>first|exact h1.2|exact h1.1
  rw[this,DRs.scalars hf.2 h2];rfl
theorem Qbu{I:Nat→Prop}{v:Value}{os:List Nat}(ho:XC d=true)(h:DR w I d v os)(hf:∀id,n≤id→κ id=none):
  ∃κ',Took w I κ κ' n (Q6 n d).2.2 (Q6 n d).2.1 os∧MR w I κ' (Q6 n d).1 v∧(∀id,(Q6 n d).2.2≤id→κ' id=none):=by
 have plain:os=[]→Q6 n d=(d,[],n)→∃κ',Took w I κ κ' n (Q6 n d).2.2 (Q6 n d).2.1 os∧MR w I κ' (Q6 n d).1 v∧(∀id,(Q6 n d).2.2≤id→κ' id=none):=fun hos he=>by
  subst hos
  rw[he]
  exact⟨κ,Took.nil,MR.of_DR d v h,hf⟩
 cases d<;>simp only[XC,Bool.false_eq_true] at ho
 case arr sz xs=>
  simp only[DR] at h
  obtain⟨hmax,⟨rfl,rfl,rfl⟩|⟨b,cap,cur,e,us,rfl,rfl,hg,h1,h2,h3,hM,hP⟩⟩:=h
  ·refine⟨XW κ n (.nil sz),⟨by simp [Q6],fun id hid=>Ys (by simp [Q6] at hid;omega),by simp [Q6],by simp [Q6],by simp [Q6,Ent.own1],by simp [Q6,blks,XZ,KI.blk],?_⟩,?_,fun id hid=>?_⟩
   ·simp only[Q6,Qn,forall_eq,ER];exact⟨hmax,.inl ⟨XZ,trivial⟩⟩
   ·simp only[Q6,MR];exact .inl ⟨sz,XZ,by simp⟩
   ·simp only[Q6] at hid;rw[Ys (by omega)];exact hf id (by omega)
  ·refine⟨XW κ n (.arr b sz (cap*sz)),⟨by simp [Q6],fun id hid=>Ys (by simp [Q6] at hid;omega),by simp [Q6],by simp [Q6],by simp [Q6,Ent.own1],by simp [Q6,blks,XZ,KI.blk],?_⟩,?_,fun id hid=>?_⟩
   ·simp only[Q6,Qn,forall_eq,ER];exact⟨hmax,.inr ⟨b,_,cur,e,us,XZ,hg,h3,hM,hP⟩⟩
   ·simp only[Q6,MR];exact .inr ⟨b,sz,_,0,cap,XZ,rfl,h1,h2,by simp,fun _=>by simp⟩
   ·simp only[Q6] at hid;rw[Ys (by omega)];exact hf id (by omega)
 case clo f cs=>
  have h':=h
  simp only[DR] at h'
  obtain⟨vs,_,h2⟩:=h'
  exact plain (DRs.scalars ho h2) rfl
 case lst=>exact plain (DR.lst_os h) rfl
 case ref=>exact plain (by simp only[DR] at h;exact h.1) rfl
 all_goals exact plain (by simp only[DR] at h;exact h.2) rfl
theorem Qav{I:Nat→Prop}(f:Nat→D→D×qHp×Nat)(ok:D→Bool)
  (hone:∀(n:Nat)(κ:Nat→Option KI)(d:D)(v:Value)(os:List Nat),ok d=true→DR w I d v os→(∀id,n≤id→κ id=none)→
   ∃κ',Took w I κ κ' n (f n d).2.2 (f n d).2.1 os∧MR w I κ' (f n d).1 v∧(∀id,(f n d).2.2≤id→κ' id=none)):
  ∀(ds:List D)(n:Nat)(κ:Nat→Option KI)(vs:List Value)(os:List Nat),ds.all ok=true→DRs w I ds vs os→(∀id,n≤id→κ id=none)→
   ∃κ',Took w I κ κ' n (Xj f n ds).2.2 (Xj f n ds).2.1 os∧MRs w I κ' (Xj f n ds).1 vs∧(∀id,(Xj f n ds).2.2≤id→κ' id=none)
 |[],n,κ,vs,os,_,h,hf=>by
  simp only[DRs] at h
  obtain⟨rfl,rfl⟩:=h
  exact⟨κ,Took.nil,by simp [Xj,MRs],hf⟩
 |d::ds,n,κ,vs,os,ho,h,hf=>by
  simp only[List.all_cons,Qi] at ho
  simp only[DRs] at h
  obtain⟨v,vs',o,o',rfl,rfl,h1,h2⟩:=h
  obtain⟨κ1,t1,m1,f1⟩:=hone n κ d v o ho.1 h1 hf
  obtain⟨κ2,t2,m2,f2⟩:=Qav f ok hone ds _ κ1 vs' o' ho.2 h2 f1
  refine⟨κ2,t1.trans t2 (fun id h _=>f1 id h),?_,f2⟩
  simp only[Xj,MRs]
  exact⟨v,vs',rfl,m1.mono ⟨fun _ h=>h,fun _ _=>rfl⟩ (t2.kle (fun id h _=>f1 id h)) _ _,m2⟩
theorem QQp{I:Nat→Prop}{v:Value}{os:List Nat}(ho:okB d=true)(h:DR w I d v os)(hf:∀id,n≤id→κ id=none):
  ∃κ',Took w I κ κ' n (Yy n d).2.2 (Yy n d).2.1 os∧MR w I κ' (Yy n d).1 v∧(∀id,(Yy n d).2.2≤id→κ' id=none):=by
 cases d<;>simp only[okB] at ho
 case box cs=>
  simp only[DR] at h
  obtain⟨b,cur,e,os',rfl,rfl,hg,h1,h2⟩:=h
  have hf1:∀id,n+1≤id→XW κ n (.box b) id=none:=fun id hid=>by rw[Ys (by omega)];exact hf id (by omega)
  obtain⟨κ1,t1,m1,f1⟩:=Qav Q6 XC (fun n κ d v os ho h hf=>Qbu ho h hf) cs (n+1) (XW κ n (.box b)) _ os' ho h2 hf1
  have hn:κ1 n=some (.box b):=by rw[t1.out n (.inl (by omega)),XZ]
  have tle:=t1.le
  refine⟨κ1,⟨?_,fun id hid=>?_,?_,?_,?_,?_,?_⟩,?_,f1⟩
  ·simp only[Yy];omega
  ·simp only[Yy] at hid
   rw[t1.out id (by omega),Ys (by omega)]
  ·simp only[Yy,Qh,QG]
   exact⟨⟨Qf _,by omega⟩,fun p hp=>by have:=t1.ids p hp;omega⟩
  ·simp only[Yy,List.map_cons,List.nodup_cons]
   refine⟨?_,t1.nodup⟩
   intro hm
   obtain⟨p,hp,he⟩:=Qu.1 hm
   have:=t1.ids p hp;omega
  ·simp only[Yy,Qh,QG]
   exact⟨rfl,t1.owned⟩
  ·have:=t1.blks
   unfold blks at*
   simp only[Yy,List.filterMap_cons,hn,Option.bind_some,KI.blk,this]
  ·simp only[Yy,Qh,QG]
   refine⟨?_,t1.ent⟩
   simp only[ER]
   exact⟨b,cur,e,hn,hg,h1,m1⟩
  ·simp only[Yy,MR];exact⟨b,hn,rfl⟩
 all_goals exact Qbu (by simpa only[XC] using ho) h hf
theorem QfW{I:Nat→Prop}{v:Value}{os:List Nat}(ho:XH d=true)(h:DR w I d v os)(hf:∀id,n≤id→κ id=none):
  ∃κ',Took w I κ κ' n (Xg n d).2.2 (Xg n d).2.1 os∧MR w I κ' (Xg n d).1 v∧(∀id,(Xg n d).2.2≤id→κ' id=none):=by
 cases d<;>simp only[XH] at ho
 case agg cs=>
  simp only[DR] at h
  obtain⟨vs,rfl,h1,h2⟩:=h
  obtain⟨κ1,t1,m1,f1⟩:=Qav Q6 XC (fun n κ d v os ho h hf=>Qbu ho h hf) cs n κ _ os ho h2 hf
  exact⟨κ1,t1,by simp only[Xg,MR];exact⟨vs,rfl,h1,m1⟩,f1⟩
 case clb f cs=>
  simp only[DR] at h
  obtain⟨vs,rfl,h2⟩:=h
  obtain⟨κ1,t1,m1,f1⟩:=Qav Yy okB (fun n κ d v os ho h hf=>QQp ho h hf) cs n κ _ os ho h2 hf
  exact⟨κ1,t1,by simp only[Xg,MR];exact⟨vs,rfl,m1⟩,f1⟩
 case box cs=>
  simp only[DR] at h
  obtain⟨b,cur,e,os',rfl,rfl,hg,h1,h2⟩:=h
  have hf1:∀id,n+1≤id→XW κ n (.box b) id=none:=fun id hid=>by rw[Ys (by omega)];exact hf id (by omega)
  obtain⟨κ1,t1,m1,f1⟩:=Qav Q6 XC (fun n κ d v os ho h hf=>Qbu ho h hf) cs (n+1) (XW κ n (.box b)) _ os' ho h2 hf1
  have hn:κ1 n=some (.box b):=by rw[t1.out n (.inl (by omega)),XZ]
  have tle:=t1.le
  refine⟨κ1,⟨?_,fun id hid=>?_,?_,?_,?_,?_,?_⟩,?_,f1⟩
  ·simp only[Xg];omega
  ·simp only[Xg] at hid
   rw[t1.out id (by omega),Ys (by omega)]
  ·simp only[Xg,Qh,QG]
   exact⟨⟨Qf _,by omega⟩,fun p hp=>by have:=t1.ids p hp;omega⟩
  ·simp only[Xg,List.map_cons,List.nodup_cons]
   refine⟨?_,t1.nodup⟩
   intro hm
   obtain⟨p,hp,he⟩:=Qu.1 hm
   have:=t1.ids p hp;omega
  ·simp only[Xg,Qh,QG]
   exact⟨rfl,t1.owned⟩
  ·have:=t1.blks
   unfold blks at*
   simp only[Xg,List.filterMap_cons,hn,Option.bind_some,KI.blk,this]
  ·simp only[Xg,Qh,QG]
   refine⟨?_,t1.ent⟩
   simp only[ER]
   exact⟨b,cur,e,hn,hg,h1,m1⟩
  ·simp only[Xg,MR];exact⟨b,hn,rfl⟩
 all_goals exact Qbu (by simpa only[XC] using ho) h hf
theorem QQq{I:Nat→Prop}{v:Value}{os:List Nat}(ho:okA d=true)(h:DR w I d v os)(hf:∀id,n≤id→κ id=none):
  ∃κ',Took w I κ κ' n (XI n d).2.2 (XI n d).2.1 os∧MR w I κ' (XI n d).1 v∧(∀id,(XI n d).2.2≤id→κ' id=none):=by
 cases d<;>simp only[okA] at ho
 case tup cs=>
  simp only[DR] at h
  obtain⟨vs,rfl,h2⟩:=h
  obtain⟨κ1,t1,m1,f1⟩:=Qav Xg XH (fun n κ d v os ho h hf=>QfW ho h hf) cs n κ _ os ho h2 hf
  exact⟨κ1,t1,by simp only[XI,MR];exact⟨vs,rfl,m1⟩,f1⟩
 all_goals exact QfW (by simpa only[XH] using ho) h hf
end
abbrev Hp:=List (Nat×Ent)
section
variable {P:Program} {B:Base} {κ:Nat→Option KI} {hp0 hp hp' hp'':Hp} {F:Nat→Prop} {w:World} {d e:D} {v:Value}
def Sub(hp hp0:Hp):Prop:=∀id e,lk hp id=some e→lk hp0 id=some e
theorem Sub.ob(h:Sub hp hp0){id b:Nat}(ho:OB κ hp w id b):OB κ hp0 w id b:=let ⟨e,k,h1,h2⟩:=ho;⟨e,k,h _ _ h1,h2⟩
theorem Sub.trans{hp1:Hp}(h:Sub hp hp1)(k:Sub hp1 hp0):Sub hp hp0:=fun id e he=>k id e (h id e he)
structure Gone(w:World)(κ:Nat→Option KI)(hp hp':Hp)(os:List Nat):Prop where
 sub:Sub hp' hp
 nd:os.Nodup
 own:∀b∈os,∃id,OB κ hp w id b∧lk hp' id=none
theorem Gone.none:Gone w κ hp hp []:=⟨fun _ _ h=>h,List.nodup_nil,by simp⟩
theorem Gone.trans(h:RH B κ hp0 F w)(hs:Sub hp hp0){os os':List Nat}(g:Gone w κ hp hp' os)(k:Gone w κ hp' hp'' os'):Gone w κ hp hp'' (os++os'):=by
 refine⟨k.sub.trans g.sub,?_,fun b hb=>?_⟩
 ·rw[QM]
  refine⟨g.nd,k.nd,fun a ha b hb hab=>?_⟩
  subst hab
  obtain⟨i,h1,h2⟩:=g.own a ha
  obtain⟨j,h3,h4⟩:=k.own a hb
  have:=h.inj _ _ _ (hs.ob h1) ((g.sub.trans hs).ob h3)
  subst this
  obtain⟨e,q,h5,_⟩:=h3
  rw[h2] at h5;cases h5
 ·rcases Qg.1 hb with hb|hb
  ·obtain⟨i,h1,h2⟩:=g.own b hb
   refine⟨i,h1,?_⟩
   cases hl:lk hp'' i with
   |none=>rfl
   |some e=>rw[k.sub i e hl] at h2;cases h2
  ·obtain⟨i,h1,h2⟩:=k.own b hb
   exact⟨i,g.sub.ob h1,h2⟩
theorem Gone.rm{id b:Nat}(ho:OB κ hp w id b):Gone w κ hp (rm hp id) [b]:=
 ⟨fun i e he=>by rw[ZG] at he;split at he;cases he;exact he,by simp,fun b' hb=>by simp at hb;subst hb;exact⟨id,ho,by rw[ZG,if_pos rfl]⟩⟩
theorem Gone.rmNone{id:Nat}:Gone w κ hp (Am.rm hp id) []:=
 ⟨fun i e he=>by rw[ZG] at he;split at he;cases he;exact he,by simp,by simp⟩
theorem PE.take'{I:Nat→Prop}{sz:Nat}{xs:List D}{us:List Value}{b off:Nat}(lo len:Nat)(h:PE w I sz xs us)(hm:Mem w b off us):∃us',Mem w b (off+(xs.take lo).length*sz) us'∧PE w I sz ((xs.drop lo).take len) us':=by
 obtain⟨u,v,rfl,h1,h2⟩:=h.take lo
 obtain⟨u2,v2,rfl,h3,h4⟩:=h2.take len
 have hm2:=(Mem.append.1 hm).2
 rw[h1.length] at hm2
 exact⟨u2,(Mem.append.1 hm2).1,h3⟩
theorem QnA(h:RH B κ hp0 F w){id lo len sz:Nat}{xs:List D}(he:lk hp0 id=some (.imm sz xs))(hd:MR w (Im B κ hp0 w) κ (.sl id lo len) v)(hle:lo+len≤xs.length):
  DR w (Im B κ hp0 w) (.lst sz ((xs.drop lo).take len)) v []:=by
 have hent:=h.ent id _ he
 simp only[ER] at hent
 simp only[MR] at hd
 have hlen:((xs.drop lo).take len).length=len:=by simp;omega
 simp only[DR]
 refine⟨trivial,by rw[hlen];omega,?_⟩
 rcases hd with⟨sz',h1,rfl,rfl,rfl⟩|⟨b,sz',tot,off,cap,h1,rfl,h2,h3,h4,h5⟩
 ·exact .inl ⟨⟨_,rfl⟩,by simp⟩
 ·rcases hent.2 with⟨g1,rfl⟩|⟨b',tot',us,g1,g2,g3,g4⟩
  ·rw[h1] at g1;cases g1
  ·rw[h1] at g1
   cases g1
   by_cases hz:0<len
   ·have ho:=h5 (.inl hz)
    obtain⟨us',k1,k2⟩:=g4.take' lo len g3
    refine .inr ⟨b,off,cap,us',by rw[hlen],by rw[hlen];exact h2,h3,g2,?_,k2⟩
    have:(xs.take lo).length=lo:=by simp;omega
    rw[this] at k1
    rw[ho]
    simpa using k1
   ·have:len=0:=by omega
    subst this
    exact .inr ⟨b,off,cap,[],by simp,by simp,h3,g2,Mem.nil,by simp [PE]⟩
theorem Qbv(h:RH B κ hp0 F w)(hs:Sub hp hp0)(hd:MR w (Im B κ hp0 w) κ d v)(he:Xl hp d=some (e,hp')):∃os,DR w (Im B κ hp0 w) e v os∧Gone w κ hp hp' os:=by
 cases d<;>simp only[Xl,reduceCtorEq] at he
 case sl id lo len=>
  split at he
  ·rename_i sz xs hl
   split at he
   case isFalse=>cases he
   rename_i hlo
   subst hlo
   have hent:=h.ent id _ (hs _ _ hl)
   simp only[ER] at hent
   have key:∀ys:List D,ys.length=len→(∃zs,xs=ys++zs)→∃os,DR w (Im B κ hp0 w) (.arr sz ys) v os∧Gone w κ hp (rm hp id) os:=by
    rintro ys hys ⟨zs,rfl⟩
    simp only[MR] at hd
    simp only[DR]
    have hmax:=hent.1
    rw[Ql] at hmax
    rcases hent.2 with⟨g1,g2⟩|⟨b,tot,cur,ty,us,g1,g2,g3,g4,g5⟩
    ·have hy:ys=[]:=(List.append_eq_nil_iff.1 g2).1
     subst hy
     simp only[List.length_nil] at hys
     rcases hd with⟨sz',h1,rfl,_,_⟩|⟨b,sz',tot,off,cap,h1,_⟩
     ·exact⟨[],⟨by omega,.inl ⟨rfl,rfl,rfl⟩⟩,Gone.rmNone⟩
     ·rw[h1] at g1;cases g1
    ·rcases hd with⟨sz',h1,_⟩|⟨b',sz',tot',off,cap,h1,rfl,h2,h3,h4,h5⟩
     ·rw[h1] at g1;cases g1
     ·rw[h1] at g1
      cases g1
      have ho:=h5 (.inr trivial)
      simp only[Nat.zero_mul] at ho
      subst ho
      obtain⟨u,z,rfl,k1,k2⟩:=PE.append.1 g5
      exact⟨[b],⟨by omega,.inr ⟨b,cap,cur,ty,u,by rw[hys],rfl,g2,by omega,h3,by omega,(Mem.append.1 g4).1,k1⟩⟩,Gone.rm ⟨_,_,hl,rfl,h1,.inl rfl⟩⟩
   split at he
   ·rename_i hlen
    simp only[Qb,Qe] at he
    obtain⟨rfl,rfl⟩:=he
    exact key xs hlen.symm ⟨[],by simp⟩
   ·split at he
    ·rename_i hle
     simp only[Qb,Qe] at he
     obtain⟨rfl,rfl⟩:=he
     exact key (xs.take len) (by simp;omega) ⟨xs.drop len,by simp⟩
    ·cases he
  ·rename_i sz xs hl
   split at he
   ·rename_i hc
    simp only[Qb,Qe] at he
    obtain⟨rfl,rfl⟩:=he
    obtain⟨rfl,rfl⟩:=hc
    have:=QnA h (hs _ _ hl) hd (by simp)
    simp only[List.drop_zero,List.take_length] at this
    exact⟨[],this,Gone.none⟩
   ·split at he
    ·rename_i hc
     simp only[Qb,Qe] at he
     obtain⟨rfl,rfl⟩:=he
     exact⟨[],QnA h (hs _ _ hl) hd hc,Gone.none⟩
    ·cases he
  ·cases he
 case nl sz=>
  simp only[Qb,Qe] at he
  obtain⟨rfl,rfl⟩:=he
  simp only[MR] at hd
  refine⟨[],?_,Gone.none⟩
  simp only[DR]
  exact⟨by simp,.inl ⟨hd,trivial,trivial⟩⟩
 case int=>
  simp only[Qb,Qe] at he
  obtain⟨rfl,rfl⟩:=he
  exact⟨[],by simpa only[MR,DR,and_true] using hd,Gone.none⟩
 case bool=>
  simp only[Qb,Qe] at he
  obtain⟨rfl,rfl⟩:=he
  exact⟨[],by simpa only[MR,DR,and_true] using hd,Gone.none⟩
 case lst=>
  simp only[Qb,Qe] at he
  obtain⟨rfl,rfl⟩:=he
  exact⟨[],by simpa only[MR] using hd,Gone.none⟩
 case str=>
  simp only[Qb,Qe] at he
  obtain⟨rfl,rfl⟩:=he
  exact⟨[],by simpa only[MR,DR,and_true] using hd,Gone.none⟩
 case nf=>
  simp only[Qb,Qe] at he
  obtain⟨rfl,rfl⟩:=he
  exact⟨[],by simpa only[MR,DR,and_true] using hd,Gone.none⟩
 case clo f cs=>
  split at he
  ·rename_i ho
   simp only[Qb,Qe] at he
   obtain⟨rfl,rfl⟩:=he
   simp only[MR] at hd
   obtain⟨vs,rfl,hm⟩:=hd
   exact⟨[],by simp only[DR];exact⟨vs,rfl,QfO hm ho⟩,Gone.none⟩
  ·cases he
theorem Qbw(h:RH B κ hp0 F w)(f:Hp→D→Option (D×Hp))
  (hf:∀(hp hp':Hp)(d e:D)(v:Value),Sub hp hp0→MR w (Im B κ hp0 w) κ d v→f hp d=some (e,hp')→∃os,DR w (Im B κ hp0 w) e v os∧Gone w κ hp hp' os):
  ∀(ds:List D)(hp hp':Hp)(es:List D)(vs:List Value),Sub hp hp0→MRs w (Im B κ hp0 w) κ ds vs→XS f hp ds=some (es,hp')→∃os,DRs w (Im B κ hp0 w) es vs os∧Gone w κ hp hp' os
 |[],hp,hp',es,vs,hs,hd,he=>by
  simp only[XS,Qb,Qe] at he
  obtain⟨rfl,rfl⟩:=he
  simp only[MRs] at hd
  exact⟨[],by simp [DRs,hd],Gone.none⟩
 |d::ds,hp,hp',es,vs,hs,hd,he=>by
  simp only[XS] at he
  split at he
  case h_2=>cases he
  rename_i e hp1 h1
  split at he
  case h_2=>cases he
  rename_i l hp2 h2
  simp only[Qb,Qe] at he
  obtain⟨rfl,rfl⟩:=he
  simp only[MRs] at hd
  obtain⟨v,vs',rfl,m1,m2⟩:=hd
  obtain⟨o1,a1,g1⟩:=hf hp hp1 d e v hs m1 h1
  obtain⟨o2,a2,g2⟩:=Qbw h f hf ds hp1 hp2 l vs' (g1.sub.trans hs) m2 h2
  exact⟨o1++o2,by simp only[DRs];exact⟨v,vs',o1,o2,rfl,rfl,a1,a2⟩,g1.trans h hs g2⟩
theorem QQr(h:RH B κ hp0 F w)(hs:Sub hp hp0)(hd:MR w (Im B κ hp0 w) κ d v)(he:ZP hp d=some (e,hp')):∃os,DR w (Im B κ hp0 w) e v os∧Gone w κ hp hp' os:=by
 cases d
 case nl sz=>
  simp only[ZP,Qb,Qe] at he
  obtain⟨rfl,rfl⟩:=he
  simp only[MR] at hd
  exact⟨[],by simp [DR,hd],Gone.none⟩
 all_goals exact Qbv h hs hd he
theorem QQs(h:RH B κ hp0 F w)(hs:Sub hp hp0)(hd:MR w (Im B κ hp0 w) κ d v)(he:JB hp d=some (e,hp')):∃os,DR w (Im B κ hp0 w) e v os∧Gone w κ hp hp' os:=by
 cases d
 case pt id off=>
  simp only[JB] at he
  split at he
  case h_2=>cases he
  rename_i cs hl
  split at he
  case isFalse=>cases he
  rename_i hoff
  subst hoff
  simp only[Qm] at he
  obtain⟨⟨l,hp1⟩,h1,h2⟩:=he
  simp only[Qe] at h2
  obtain⟨rfl,rfl⟩:=h2
  obtain⟨b,cur,ty,k1,k2,k3,k4,k5⟩:=h.box (hs _ _ hl)
  simp only[MR,k1,Qb,KI.box.injEq] at hd
  obtain⟨b',rfl,rfl⟩:=hd
  have g0:Gone w κ hp (rm hp id) [b]:=Gone.rm ⟨_,_,hl,rfl,k1,.inl rfl⟩
  obtain⟨os,a,g⟩:=Qbw h ZP (fun hp hp' d e v hs hd he=>QQr h hs hd he) cs (rm hp id) hp1 l _ (g0.sub.trans hs) k5 h1
  exact⟨b::os,by simp only[DR];exact⟨b,cur,ty,os,rfl,rfl,k3,k4,a⟩,g0.trans h hs g⟩
 all_goals exact Qbv h hs hd he
theorem QnB(h:RH B κ hp0 F w)(hs:Sub hp hp0)(hd:MR w (Im B κ hp0 w) κ d v)(he:Xx hp d=some (e,hp')):∃os,DR w (Im B κ hp0 w) e v os∧Gone w κ hp hp' os:=by
 cases d
 case agg cs=>
  simp only[Xx,Qm] at he
  obtain⟨⟨l,hp1⟩,h1,h2⟩:=he
  simp only[Qe] at h2
  obtain⟨rfl,rfl⟩:=h2
  simp only[MR] at hd
  obtain⟨vs,rfl,k1,k2⟩:=hd
  obtain⟨os,a,g⟩:=Qbw h Xl (fun hp hp' d e v hs hd he=>Qbv h hs hd he) cs hp hp1 l _ hs k2 h1
  exact⟨os,by simp only[DR];exact⟨vs,rfl,k1,a⟩,g⟩
 case clo f cs=>
  simp only[Xx,Qm] at he
  obtain⟨⟨l,hp1⟩,h1,h2⟩:=he
  simp only[Qe] at h2
  obtain⟨rfl,rfl⟩:=h2
  simp only[MR] at hd
  obtain⟨vs,rfl,k2⟩:=hd
  obtain⟨os,a,g⟩:=Qbw h JB (fun hp hp' d e v hs hd he=>QQs h hs hd he) cs hp hp1 l _ hs k2 h1
  exact⟨os,by simp only[DR];exact⟨vs,rfl,a⟩,g⟩
 case pt id off=>
  simp only[Xx] at he
  split at he
  case h_2=>cases he
  rename_i cs hl
  split at he
  case isFalse=>cases he
  rename_i hoff
  subst hoff
  simp only[Qm] at he
  obtain⟨⟨l,hp1⟩,h1,h2⟩:=he
  simp only[Qe] at h2
  obtain⟨rfl,rfl⟩:=h2
  obtain⟨b,cur,ty,k1,k2,k3,k4,k5⟩:=h.box (hs _ _ hl)
  simp only[MR,k1,Qb,KI.box.injEq] at hd
  obtain⟨b',rfl,rfl⟩:=hd
  have g0:Gone w κ hp (rm hp id) [b]:=Gone.rm ⟨_,_,hl,rfl,k1,.inl rfl⟩
  obtain⟨os,a,g⟩:=Qbw h Xl (fun hp hp' d e v hs hd he=>Qbv h hs hd he) cs (rm hp id) hp1 l _ (g0.sub.trans hs) k5 h1
  exact⟨b::os,by simp only[DR];exact⟨b,cur,ty,os,rfl,rfl,k3,k4,a⟩,g0.trans h hs g⟩
 all_goals exact Qbv h hs hd he
theorem Sub.refl:Sub hp hp:=fun _ _ h=>h
structure RI(B:Base)(κ:Nat→Option KI)(hp0 hp:Hp)(w:World)(I:Nat→Prop):Prop where
 sub:Sub hp hp0
 keep:Keep w w (Im B κ hp0 w) I
 own:∀id b,OB κ hp w id b→I b
theorem RI.rd{I:Nat→Prop}(h:RH B κ hp0 F w)(r:RI B κ hp0 hp w I)(id:Nat):Rd w I κ hp id:=by
 intro sz xs hl
 rcases hl with hl|hl
 ·have hent:=h.ent id _ (r.sub _ _ hl)
  simp only[ER] at hent
  refine⟨hent.1,hent.2.imp (fun h=>h) ?_⟩
  rintro⟨b,tot,cur,ty,us,k1,k2,k3,k4,k5⟩
  exact⟨b,tot,us,k1,r.own id b ⟨_,_,hl,rfl,k1,.inl rfl⟩,k4,PE.mono r.keep _ _ _ k5⟩
 ·have hent:=h.ent id _ (r.sub _ _ hl)
  simp only[ER] at hent
  refine⟨hent.1,hent.2.imp (fun h=>h) ?_⟩
  rintro⟨b,tot,us,k1,k2,k4,k5⟩
  exact⟨b,tot,us,k1,r.keep.mem b k2,k4,PE.mono r.keep _ _ _ k5⟩
theorem QnC{I:Nat→Prop}(h:RH B κ hp0 F w)(r:RI B κ hp0 hp w I)(hv:MR w (Im B κ hp0 w) κ d v)(hl:Xv hp d=some e):DR w I e v []:=by
 have l0:Xa hp d=some e→DR w I e v []:=fun hl=>JC r.keep (fun id _=>r.rd h id) hv hl
 cases d<;>simp only[Xv] at hl
 case agg cs=>
  cases hc:Q1 (Xa hp) cs with
  |none=>simp [hc] at hl
  |some l=>
   simp only[hc,Option.map_some,Qb] at hl
   subst hl
   simp only[MR] at hv
   obtain⟨vs,rfl,h1,h2⟩:=hv
   have:=Qbr r.keep (fun c _ id _=>r.rd h id) h2 h1 hc
   simp only[DR]
   exact⟨vs,rfl,h1,this.to_DRs⟩
 case ref cs=>
  simp only[Qb] at hl
  subst hl
  simp only[MR] at hv
  exact hv.mono r.keep _ _ _ (by simp)
 case pt id off=>
  split at hl
  ·rename_i cs hb
   cases hc:Q1 (Xa hp) cs with
   |none=>simp [hc] at hl
   |some l=>
    simp only[hc,Option.map_some,Qb] at hl
    subst hl
    have hb0:=r.sub _ _ hb
    obtain⟨b,cur,ty,hk,hob,hg,h1,hms⟩:=h.box hb0
    simp only[MR,hk,Qb,KI.box.injEq] at hv
    obtain⟨b',rfl,rfl⟩:=hv
    have hpc:=Qbr r.keep (fun c _ id _=>r.rd h id) hms h1 hc
    simp only[DR]
    refine⟨trivial,b,off,cur.toList.drop off,rfl,r.own id b ⟨_,_,hb,rfl,hk,.inl rfl⟩,Mem.of_cells hg (fun j u hj=>?_),hpc.drop off⟩
    rw[List.getElem?_drop] at hj
    simpa using hj
  ·cases hl
 all_goals exact l0 hl
theorem QnD{I:Nat→Prop}(h:RH B κ hp0 F w)(r:RI B κ hp0 hp w I):∀{cs es:List D}{vs:List Value},MRs w (Im B κ hp0 w) κ cs vs→Q1 (Xv hp) cs=some es→DRs w I es vs []
 |[],es,vs,hm,hl=>by
  simp only[Q1,Qb] at hl
  subst hl
  simp only[MRs] at hm
  simp [DRs,hm]
 |c::cs,es,vs,hm,hl=>by
  simp only[Q1] at hl
  split at hl
  ·rename_i e es' he hes
   simp only[Qb] at hl
   subst hl
   simp only[MRs] at hm
   obtain⟨v,vs',rfl,hv,hm⟩:=hm
   simp only[DRs]
   exact⟨v,vs',[],[],rfl,rfl,QnC h r hv he,QnD h r hm hes⟩
  ·cases hl
theorem QQt{I:Nat→Prop}(h:RH B κ hp0 F w)(r:RI B κ hp0 hp w I)(hv:MR w (Im B κ hp0 w) κ d v)(hl:Xz hp d=some e):DR w I e v []:=by
 have l1:Xv hp d=some e→DR w I e v []:=fun hl=>QnC h r hv hl
 cases d<;>simp only[Xz] at hl
 case clo f cs=>
  cases hc:Q1 (Xv hp) cs with
  |none=>simp [hc] at hl
  |some l=>
   simp only[hc,Option.map_some,Qb] at hl
   subst hl
   simp only[MR] at hv
   obtain⟨vs,rfl,h2⟩:=hv
   simp only[DR]
   exact⟨vs,rfl,QnD h r h2 hc⟩
 all_goals exact l1 hl
theorem QfX{I:Nat→Prop}{I0:Nat→Prop}:∀{ds es:List D}{vs:List Value},(∀d v e,d∈ds→MR w I0 κ d v→Xz hp d=some e→DR w I e v [])→MRs w I0 κ ds vs→Q1 (Xz hp) ds=some es→DRs w I es vs []
 |[],es,vs,_,hm,hl=>by
  simp only[Q1,Qb] at hl
  subst hl
  simp only[MRs] at hm
  simp [DRs,hm]
 |d::ds,es,vs,hr,hm,hl=>by
  simp only[Q1] at hl
  split at hl
  ·rename_i e es' he hes
   simp only[Qb] at hl
   subst hl
   simp only[MRs] at hm
   obtain⟨v,vs',rfl,hv,hm⟩:=hm
   simp only[DRs]
   exact⟨v,vs',[],[],rfl,rfl,hr d v e (by simp) hv he,QfX (fun d v e hd=>hr d v e (Qs _ hd)) hm hes⟩
  ·cases hl
theorem QQu{m:Md}(hm:m≠.rd)(h:RH B κ hp0 F w)(hs:Sub hp hp0)(hd:MR w (Im B κ hp0 w) κ d v)(he:ZQ hp m d=some (e,hp')):∃os,DR w (Im B κ hp0 w) e v os∧Gone w κ hp hp' os:=by
 cases m
 case rd=>exact absurd rfl hm
 case mp=>exact QnB h hs hd he
 all_goals
  simp only[ZQ] at he
  cases d<;>simp only[Zb] at he
  case nl s=>
   simp only[Qb,Qe] at he
   obtain⟨rfl,rfl⟩:=he
   simp only[MR] at hd
   exact⟨[],by simp only[DR];exact⟨hd,trivial⟩,Gone.none⟩
  case clo=>cases he
  all_goals exact Qbv h hs hd he
theorem Qdw{m:Md}(hm:m≠.rd){md:List Md}{es:List D}:XL hp (m::md) (e::es)=(XL hp md es).map (e::·):=by
 cases m
 case rd=>exact absurd rfl hm
 all_goals simp only[XL];cases XL hp md es<;>rfl
theorem Qci{m:Md}(hm:m≠.rd){md:List Md}{es:List D}:Xw (m::md) (e::es)=Xw md es:=by
 cases m
 case rd=>exact absurd rfl hm
 all_goals rfl
theorem QfY(h:RH B κ hp0 F w):∀(md:List Md)(ds:List D)(hp hp1:Hp)(es:List D)(vs:List Value),Sub hp hp0→MRs w (Im B κ hp0 w) κ ds vs→Yi hp md ds=some (es,hp1)→
  ∃os,Gone w κ hp hp1 os∧∀(hp2:Hp)(I:Nat→Prop)(args:List D),Keep w w (Im B κ hp0 w) I→(∀d v e,d∈Xw md ds→MR w (Im B κ hp0 w) κ d v→Xz hp2 d=some e→DR w I e v [])→XL hp2 md es=some args→DRs w I args vs os
 |[],ds,hp,hp1,es,vs,hs,hd,he=>by
  have:es=ds∧hp1=hp:=by cases ds<;>simp only[Yi,Qb,Qe] at he<;>exact⟨he.1.symm,he.2.symm⟩
  obtain⟨rfl,rfl⟩:=this
  refine⟨[],Gone.none,fun hp2 I args hk hl hr=>?_⟩
  have e1:XL hp2 [] es=Q1 (Xz hp2) es:=by cases es<;>rfl
  have e2:Xw [] es=es:=by cases es<;>rfl
  rw[e1] at hr
  rw[e2] at hl
  exact QfX hl hd hr
 |m::md,[],hp,hp1,es,vs,hs,hd,he=>by
  simp only[Yi,Qb,Qe] at he
  obtain⟨rfl,rfl⟩:=he
  refine⟨[],Gone.none,fun hp2 I args hk hl hr=>?_⟩
  have e1:XL hp2 (m::md) []=some []:=by cases m<;>rfl
  rw[e1] at hr
  simp only[Qb] at hr
  subst hr
  simp only[MRs] at hd
  simp [DRs,hd]
 |m::md,d::ds,hp,hp1,es,vs,hs,hd,he=>by
  simp only[Yi] at he
  split at he
  case h_2=>cases he
  rename_i e hp2 h1
  split at he
  case h_2=>cases he
  rename_i l hp3 h2
  simp only[Qb,Qe] at he
  obtain⟨rfl,rfl⟩:=he
  simp only[MRs] at hd
  obtain⟨v,vs',rfl,m1,m2⟩:=hd
  by_cases hm:m=.rd
  ·subst hm
   simp only[ZQ,Qb,Qe] at h1
   obtain⟨rfl,rfl⟩:=h1
   obtain⟨os,g,k⟩:=QfY h md ds hp hp3 l vs' hs m2 h2
   refine⟨os,g,fun hp4 I args hk hl hr=>?_⟩
   simp only[XL] at hr
   split at hr
   case h_2=>cases hr
   rename_i e' es' he' hes'
   simp only[Qb] at hr
   subst hr
   simp only[DRs]
   exact⟨v,vs',[],os,rfl,rfl,hl d v e' (by simp [Xw]) m1 he',k hp4 I es' hk (fun d v e hd=>hl d v e (by simp only[Xw];exact Qs _ hd)) hes'⟩
  ·obtain⟨o1,a1,g1⟩:=QQu hm h hs m1 h1
   obtain⟨o2,g2,k⟩:=QfY h md ds hp2 hp3 l vs' (g1.sub.trans hs) m2 h2
   refine⟨o1++o2,g1.trans h hs g2,fun hp4 I args hk hl hr=>?_⟩
   rw[Qdw hm] at hr
   simp only[Qm] at hr
   obtain⟨es',hes',rfl⟩:=hr
   rw[Qci hm] at hl
   simp only[DRs]
   have hI:∀b∈o1,w.heap[b]?=w.heap[b]?:=fun _ _=>rfl
   exact⟨v,vs',o1,o2,rfl,rfl,DR.mono hk _ _ _ hI a1,k hp4 I es' hk hl hes'⟩
theorem QQv(h:RH B κ hp F w){md:List Md}{ds args:List D}{vs:List Value}{hp1:Hp}(hd:MRs w (Im B κ hp w) κ ds vs)(hg:Z4 hp md ds=some (args,hp1)):
  ∃os,Gone w κ hp hp1 os∧∀(I:Nat→Prop),Keep w w (Im B κ hp w) I→(∀d v e,d∈Xw md ds→MR w (Im B κ hp w) κ d v→Xz hp1 d=some e→DR w I e v [])→DRs w I args vs os:=by
 unfold Z4 at hg
 split at hg
 ·simp only[Qm,Qe] at hg
  obtain⟨l,hl,rfl,rfl⟩:=hg
  refine⟨[],Gone.none,fun I hk hr=>?_⟩
  have e2:Xw [] ds=ds:=by cases ds<;>rfl
  rw[e2] at hr
  exact QfX hr hd hl
 ·split at hg
  case h_2=>cases hg
  rename_i es hp2 h1
  simp only[Qm,Qe] at hg
  obtain⟨l,hl,rfl,rfl⟩:=hg
  obtain⟨os,g,k⟩:=QfY h md ds hp hp2 es vs Sub.refl hd h1
  exact⟨os,g,fun I hk hr=>k hp2 I l hk hr hl⟩
theorem QnE{md:List Md}{ds args:List D}{hp1:Hp}(hg:Z4 hp md ds=some (args,hp1)):∀d∈Xw md ds,∃e,Xz hp1 d=some e:=by
 have key:∀(md:List Md)(ds es:List D)(hp hp1 hp2:Hp)(args:List D),Yi hp md ds=some (es,hp1)→XL hp2 md es=some args→∀d∈Xw md ds,∃e,Xz hp2 d=some e:=by
  intro md
  induction md with
  |nil=>
   intro ds es hp hp1 hp2 args he hr d hd
   have:es=ds:=by cases ds<;>simp only[Yi,Qb,Qe] at he<;>exact he.1.symm
   subst this
   have e1:XL hp2 [] es=Q1 (Xz hp2) es:=by cases es<;>rfl
   have e2:Xw [] es=es:=by cases es<;>rfl
   rw[e1] at hr
   rw[e2] at hd
   clear he e1 e2
   induction es generalizing args with
   |nil=>simp at hd
   |cons c cs ih=>
    simp only[Q1] at hr
    split at hr
    ·rename_i e es' he hes
     rcases Qh.1 hd with rfl|hd
     ·exact⟨e,he⟩
     ·exact ih es' hes hd
    ·cases hr
  |cons m md ih=>
   intro ds es hp hp1 hp2 args he hr d hd
   cases ds with
   |nil=>cases m<;>simp [Xw] at hd
   |cons c ds=>
    simp only[Yi] at he
    split at he
    case h_2=>cases he
    rename_i e hp3 h1
    split at he
    case h_2=>cases he
    rename_i l hp4 h2
    simp only[Qb,Qe] at he
    obtain⟨rfl,rfl⟩:=he
    by_cases hm:m=.rd
    ·subst hm
     simp only[ZQ,Qb,Qe] at h1
     obtain⟨rfl,rfl⟩:=h1
     simp only[XL] at hr
     split at hr
     case h_2=>cases hr
     rename_i e' es' he' hes'
     simp only[Xw,Qh] at hd
     rcases hd with rfl|hd
     ·exact⟨e',he'⟩
     ·exact ih ds l _ _ hp2 es' h2 hes' d hd
    ·rw[Qdw hm] at hr
     simp only[Qm] at hr
     obtain⟨es',hes',_⟩:=hr
     rw[Qci hm] at hd
     exact ih ds l _ _ hp2 es' h2 hes' d hd
 unfold Z4 at hg
 split at hg
 ·simp only[Qm,Qe] at hg
  obtain⟨l,hl,rfl,rfl⟩:=hg
  have e1:XL hp [] ds=Q1 (Xz hp) ds:=by cases ds<;>rfl
  exact key [] ds ds hp hp hp l (by cases ds<;>rfl) (by rw[e1];exact hl)
 ·split at hg
  case h_2=>cases hg
  rename_i es hp2 h1
  simp only[Qm,Qe] at hg
  obtain⟨l,hl,rfl,rfl⟩:=hg
  exact key md ds es hp _ hp2 l h1 hl
end
section
variable {P:Program} {B:Base} {κ κ':Nat→Option KI} {hp hp':qHp} {F:Nat→Prop} {w w':World} {n n':Nat} {d:D}
theorem J9{α:Type}:∀{l:List (Nat×α)}{id:Nat}{a:α},lk l id=some a→(id,a)∈l
 |[],_,_,h=>by simp [lk] at h
 |(k,b)::l,id,a,h=>by
  simp only[lk] at h
  split at h
  ·rename_i e;subst e;simp only[Qb] at h;subst h;simp
  ·exact Qs _ (J9 h)
theorem QnF(l:List Nat):∀(hp:qHp)(id:Nat),lk hp id=none→lk (Xd l hp) id=none:=by
 induction l with
 |nil=>intro hp id h;simpa [Xd] using h
 |cons i l ih=>
  intro hp id h
  simp only[Xd]
  cases hi:lk hp i with
  |none=>exact ih hp id h
  |some e=>
   refine ih _ id ?_
   rw[Yw]
   have:id≠i:=fun e=>by rw[e,hi] at h;cases h
   rw[if_neg this];exact h
theorem QfZ{l:List Nat}{id:Nat}{e:Ent}(h:lk (Xd l hp) id=some e):∃e0,lk hp id=some e0∧e=if id∈l then e0.frozen else e0:=by
 cases h0:lk hp id with
 |none=>rw[QnF l hp id h0] at h;cases h
 |some e0=>rw[Qbs l hp id e0 h0] at h;simp only[Qb] at h;exact⟨e0,rfl,h.symm⟩
theorem Qdx{α β:Type}{g:α→Option β}:∀{l:List α},(l.filterMap g).Nodup→∀{a a':α}{b:β},a∈l→a'∈l→g a=some b→g a'=some b→a=a'
 |[],_,_,_,_,h,_,_,_=>by simp at h
 |x::l,hn,a,a',b,h,h',g1,g2=>by
  simp only[List.filterMap_cons] at hn
  cases hx:g x with
  |none=>
   simp only[hx] at hn
   rcases Qh.1 h with rfl|h
   ·rw[hx] at g1;cases g1
   ·rcases Qh.1 h' with rfl|h'
    ·rw[hx] at g2;cases g2
    ·exact Qdx hn h h' g1 g2
  |some y=>
   simp only[hx,List.nodup_cons] at hn
   rcases Qh.1 h with e|m<;>rcases Qh.1 h' with e'|m'
   ·rw[e,e']
   ·exfalso;rw[e,hx] at g1;cases g1;exact hn.1 (List.mem_filterMap.2 ⟨a',m',g2⟩)
   ·exfalso;rw[e',hx] at g2;cases g2;exact hn.1 (List.mem_filterMap.2 ⟨a,m,g1⟩)
   ·exact Qdx hn.2 m m' g1 g2
theorem Qf0(l:List Nat)(hp:qHp)(id:Nat):lk (Xd l hp) id=(lk hp id).map fun e=>if id∈l then e.frozen else e:=by
 cases h:lk hp id with
 |none=>exact QnF l hp id h
 |some e=>exact Qbs l hp id e h
theorem Ow.thaw{e:Ent}{k:KI}{b:Nat}(h:Ow w e.frozen k b):Ow w e k b:=by
 cases e
 case arr sz xs=>
  rcases h with h|h
  ·exact .inl h
  ·exact (h:False).elim
 all_goals exact h
theorem Ow.thaw_if{c:Prop}[Decidable c]{e:Ent}{k:KI}{b:Nat}(h:Ow w (if c then e.frozen else e) k b):Ow w e k b:=by
 split at h
 ·exact h.thaw
 ·exact h
structure Back(w:World)(I:Nat→Prop)(κ κ':Nat→Option KI)(n n':Nat)(E:Hp)(os:List Nat):Prop where
 le:n≤n'
 out:∀id,(id<n∨n'≤id)→κ' id=κ id
 owned:∀p∈E,p.2.own1=true
 blks:(blks κ' E).Perm os
 ent:∀p∈E,ER w I κ' p.1 p.2
theorem Took.back{I:Nat→Prop}{E:Hp}{os:List Nat}(h:Took w I κ κ' n n' E os):Back w I κ κ' n n' E os:=
 ⟨h.le,h.out,h.owned,by rw[h.blks],h.ent⟩
theorem Back.kle{I:Nat→Prop}{E:Hp}{os:List Nat}(h:Back w I κ κ' n n' E os)(hf:∀id,n≤id→id<n'→κ id=none):Kle κ κ':=fun id k hk=>by
 by_cases h1:id<n∨n'≤id
 ·rw[h.out id h1];exact hk
 ·rw[hf id (by omega) (by omega)] at hk;cases hk
theorem QQw(h:RH B κ hp F w)(hF:∀k,k<64→F (n+k)){hp1:Hp}{os0:List Nat}(g:Gone w κ hp hp1 os0)(hs:Stp (·∈os0) w w'){I0:Nat→Prop}{E:Hp}{os:List Nat}(ht:Back w' I0 κ κ' n n' E os)(hn:n'≤n+64)(hnd:os.Nodup)
  (hos:∀b∈os,(b∈os0∨w.heap.size≤b)∧b<w'.heap.size) {L:List Nat} (hL:∀id∈L,lk hp1 id≠none) (hI:∀b,I0 b→Im B κ' (E++Xd L hp1) w' b):
  RH B κ' (E++Xd L hp1) (Fr F n) w'∧Nxt B κ κ' hp (E++Xd L hp1) w w':=by
 obtain⟨k1,k2⟩:=h.freezes L
 have hfree:∀id,n≤id→id<n'→κ id=none:=fun id h1 h2=>by
  have:=hF (id-n) (by omega)
  rw[show n+(id-n)=id from by omega] at this
  exact h.fr id this
 have kle:=ht.kle hfree
 have sub:∀id e,lk (Xd L hp1) id=some e→lk (Xd L hp) id=some e∧lk hp1 id≠none:=fun id e he=>by
  obtain⟨e0,h0,h1⟩:=QfZ he
  refine⟨?_,by rw[h0];simp⟩
  rw[Qbs L hp id e0 (g.sub _ _ h0),h1]
 have ob0:∀id b,OB κ (Xd L hp) w id b→OB κ hp w id b:=by
  rintro id b ⟨e,k,h1,h2,h3,h4⟩
  obtain⟨e0,h0,he⟩:=QfZ h1
  refine⟨e0,k,h0,?_,h3,(he▸h4).thaw_if⟩
  rw[he] at h2
  split at h2
  ·cases e0<;>simp [Ent.frozen,Ent.owned] at h2 ⊢
  ·exact h2
 have obs:∀id b,OB κ (Xd L hp1) w id b→OB κ (Xd L hp) w id b∧lk hp1 id≠none:=by
  rintro id b ⟨e,k,h1,h2⟩
  exact⟨⟨e,k,(sub _ _ h1).1,h2⟩,(sub _ _ h1).2⟩
 have own0:∀b∈os0,∃id,OB κ (Xd L hp) w id b∧lk hp1 id=none:=by
  intro b hb
  obtain⟨id,⟨e,k,h1,h2,h3,h4⟩,hn⟩:=g.own b hb
  refine⟨id,⟨e,k,?_,h2,h3,h4⟩,hn⟩
  rw[Qbs L hp id e h1,if_neg (fun hm=>hL id hm hn)]
 have look:∀id e,lk (E++Xd L hp1) id=some e→(id,e)∈E∨lk (Xd L hp1) id=some e:=fun id e he=>by
  rw[J8] at he
  cases hE:lk E id with
  |none=>rw[hE] at he;exact .inr (by simpa using he)
  |some e'=>rw[hE] at he;simp at he;subst he;exact .inl (J9 hE)
 have apart:∀id b,OB κ (Xd L hp1) w id b→b∉os0:=fun id b ho hb=>by
  obtain⟨i,hi,hn⟩:=own0 b hb
  obtain⟨ho,hne⟩:=obs id b ho
  have:=k1.inj _ _ _ ho hi
  subst this
  exact hne hn
 have hob:∀id b,OB κ' (E++Xd L hp1) w' id b→(∃e,(id,e)∈E∧(κ' id).bind KI.blk=some b∧b∈os)∨OB κ (Xd L hp1) w id b:=by
  rintro id b ⟨e,k,h1,h2,h3,h4⟩
  rcases look id e h1 with h1|h1
  ·have hb:(κ' id).bind KI.blk=some b:=by rw[h3];exact h4.own1 (ht.owned _ h1)
   exact .inl ⟨e,h1,hb,ht.blks.mem_iff.1 (List.mem_filterMap.2 ⟨(id,e),h1,hb⟩)⟩
  ·obtain⟨k',hk'⟩:=k1.place (sub _ _ h1).1
   have:=kle _ _ hk'
   rw[h3] at this
   cases this
   refine .inr ⟨e,k,h1,h2,hk',h4.congr fun b0 hb0=>?_⟩
   have hoo:OB κ (Xd L hp1) w id b0:=⟨e,k,h1,h2,hk',.inl hb0⟩
   exact hs.block b0 (k1.own b0 ⟨id,(obs _ _ hoo).1⟩).2 (apart _ _ hoo)
 have hnd':(blks κ' E).Nodup:=ht.blks.nodup_iff.2 hnd
 have res:=k1.next (κ':=κ') (hp':=E++Xd L hp1) (F':=Fr F n) (w':=w') kle (hs.mono fun b _ hb=>(own0 b hb).imp fun _ h=>h.1) (fun b ⟨id,ho⟩=>by
   rcases hob id b ho with⟨_,_,_,hb⟩|ho
   ·exact (hos b hb).1.imp (fun hb=>(own0 b hb).imp fun _ h=>h.1) (fun h=>h)
   ·exact .inl ⟨id,(obs _ _ ho).1⟩) (fun id hi=>by
   rw[ht.out id (by have:=hi.2;omega)];exact h.fr id hi.1) (fun b ⟨id,ho⟩=>by
   rcases hob id b ho with⟨_,_,_,hb⟩|ho
   ·exact (hos b hb).2
   ·exact QL (k1.own b ⟨id,(obs _ _ ho).1⟩).2 hs.size) (fun keep id e he=>by
   rcases look id e he with h1|h1
   ·exact .inr ((ht.ent _ h1).mono ⟨hI,fun _ _=>rfl⟩ (fun _ _ h=>h) (fun _ _ _ _ _=>rfl))
   ·refine .inl ⟨(sub _ _ h1).1,fun ho q b hq hb=>?_⟩
    have hoo:OB κ (Xd L hp1) w id b:=⟨_,_,h1,ho,hq,hb⟩
    exact hs.block b (k1.own b ⟨id,(obs _ _ hoo).1⟩).2 (apart _ _ hoo)) (fun id id' b h1 h2=>by
   have cross:∀i j e,(i,e)∈E→b∈os→OB κ (Xd L hp1) w j b→i=j:=fun i j e _ hb ho=>by
    rcases (hos b hb).1 with hb|hb
    ·exact absurd hb (apart _ _ ho)
    ·have:=(k1.own b ⟨j,(obs _ _ ho).1⟩).2;omega
   rcases hob id b h1 with⟨e1,m1,b1,o1⟩|g1<;>rcases hob id' b h2 with⟨e2,m2,b2,o2⟩|g2
   ·have:=Qdx (g:=fun p:Nat×Ent=>(κ' p.1).bind KI.blk) (l:=E) hnd' m1 m2 b1 b2
    exact congrArg Prod.fst this
   ·exact cross _ _ _ m1 o1 g2
   ·exact (cross _ _ _ m2 o2 g1).symm
   ·exact k1.inj _ _ _ (obs _ _ g1).1 (obs _ _ g2).1)
 exact⟨res.1,k2.trans res.2⟩
theorem QnG{I J:Nat→Prop}{v:Value}{os:List Nat}(hf:d.flat0=true)(h:DR w I d v os):DR w J d v os:=by
 cases d<;>simp only[D.flat0,Bool.false_eq_true] at hf<;>simpa [DR] using h
theorem QnH{I J:Nat→Prop}:∀{cs:List D}{us:List Value},cs.all D.flat0=true→PC w I cs us→PC w J cs us
 |[],us,_,h=>by simpa [PC] using h
 |c::cs,us,hf,h=>by
  simp only[List.all_cons,Qi] at hf
  simp only[PC] at h ⊢
  obtain⟨u,us',rfl,h1,h2,h3⟩:=h
  exact⟨u,us',rfl,h1,QnG hf.1 h2,QnH hf.2 h3⟩
theorem QQx{I J:Nat→Prop}{us:List Value}(hf:d.flatE=true)(h:P1 w I d us):P1 w J d us:=by
 cases d<;>simp only[D.flatE,D.flat0,Bool.false_eq_true] at hf<;>simp only[P1] at h ⊢
 ·exact h
 ·exact h
 ·exact h
 ·exact QnH hf h
theorem QnI{I J:Nat→Prop}{sz:Nat}:∀{xs:List D}{us:List Value},xs.all D.flatE=true→PE w I sz xs us→PE w J sz xs us
 |[],us,_,h=>by simpa [PE] using h
 |x::xs,us,hf,h=>by
  simp only[List.all_cons,Qi] at hf
  simp only[PE] at h ⊢
  obtain⟨u,us',rfl,h1,h2,h3⟩:=h
  exact⟨u,us',rfl,h1,QQx hf.1 h2,QnI hf.2 h3⟩
theorem Qf1{I J:Nat→Prop}{v:Value}{os:List Nat}(hf:d.flat1=true)(h:DR w I d v os):DR w J d v os:=by
 cases d<;>simp only[D.flat1] at hf
 case arr sz xs=>
  simp only[DR] at h ⊢
  refine⟨h.1,h.2.imp (fun h=>h) ?_⟩
  rintro⟨b,cap,cur,e,us,h1,h2,h3,h4,h5,h6,h7,h8⟩
  exact⟨b,cap,cur,e,us,h1,h2,h3,h4,h5,h6,h7,QnI hf h8⟩
 all_goals exact QnG hf h
theorem Qdy{I J:Nat→Prop}{f:D→Bool}(hone:∀(d:D)(v:Value)(os:List Nat),f d=true→DR w I d v os→DR w J d v os):∀{ds:List D}{vs:List Value}{os:List Nat},ds.all f=true→DRs w I ds vs os→DRs w J ds vs os
 |[],_,_,_,h=>by simpa [DRs] using h
 |d::ds,vs,os,hf,h=>by
  simp only[List.all_cons,Qi] at hf
  simp only[DRs] at h ⊢
  obtain⟨v,vs',o,o',rfl,rfl,h1,h2⟩:=h
  exact⟨v,vs',o,o',rfl,rfl,hone d v o hf.1 h1,Qdy hone hf.2 h2⟩
theorem QnJ{I J:Nat→Prop}{v:Value}{os:List Nat}(hf:d.flat2=true)(h:DR w I d v os):DR w J d v os:=by
 cases d<;>simp only[D.flat2] at hf
 case agg cs=>
  simp only[DR] at h ⊢
  obtain⟨vs,h1,h2,h3⟩:=h
  exact⟨vs,h1,h2,Qdy (fun d v os hf h=>Qf1 hf h) hf h3⟩
 case box cs=>
  simp only[DR] at h ⊢
  obtain⟨b,cur,e,os',h1,h2,h3,h4,h5⟩:=h
  exact⟨b,cur,e,os',h1,h2,h3,h4,Qdy (fun d v os hf h=>Qf1 hf h) hf h5⟩
 all_goals exact Qf1 (by simpa only[D.flat1] using hf) h
theorem QQy{I J:Nat→Prop}{v:Value}{os:List Nat}(hf:d.flat=true)(h:DR w I d v os):DR w J d v os:=by
 cases d<;>simp only[D.flat] at hf
 case tup cs=>
  simp only[DR] at h ⊢
  obtain⟨vs,h1,h3⟩:=h
  exact⟨vs,h1,Qdy (fun d v os hf h=>QnJ hf h) hf h3⟩
 all_goals exact QnJ (by simpa only[D.flat2] using hf) h
theorem QQz{I:Nat→Prop}{v:Value}{os:List Nat}(ho:okA d=true)(h:DR w I d v os):
  ∃κ',Took w I κ κ' n (XI n d).2.2 (XI n d).2.1 os∧MR w I κ' (XI n d).1 v:=by
 let κ0:Nat→Option KI:=fun id=>if id<n then κ id else none
 obtain⟨κ1,t1,m1,f1⟩:=QQq (κ:=κ0) (n:=n) ho h (fun id hi=>by simp only[κ0];rw[if_neg (by omega)])
 let κ2:Nat→Option KI:=fun id=>if n≤id∧id<(XI n d).2.2 then κ1 id else κ id
 have kle:Kle κ1 κ2:=fun id k hk=>by
  simp only[κ2]
  by_cases hid:n≤id∧id<(XI n d).2.2
  ·rw[if_pos hid];exact hk
  ·rw[if_neg hid]
   rw[t1.out id (by omega)] at hk
   simp only[κ0] at hk
   split at hk
   ·exact hk
   ·cases hk
 refine⟨κ2,⟨t1.le,fun id hid=>?_,t1.ids,t1.nodup,t1.owned,?_,fun p hp=>?_⟩,m1.mono ⟨fun _ h=>h,fun _ _=>rfl⟩ kle _ _⟩
 ·simp only[κ2];rw[if_neg (by omega)]
 ·have:=t1.blks
  unfold blks at*
  rw[←this]
  exact Qch fun p hp=>by simp only[κ2];rw[if_pos (t1.ids p hp)]
 ·exact (t1.ent p hp).mono ⟨fun _ h=>h,fun _ _=>rfl⟩ kle (fun _ _ _ _ _=>rfl)
theorem QQA{I:Nat→Prop}{cs:List D}{vs:List Value}{os:List Nat}(ho:cs.all XC=true)(h:DRs w I cs vs os):
  ∃κ',Took w I κ κ' n (Xj Q6 n cs).2.2 (Xj Q6 n cs).2.1 os∧MRs w I κ' (Xj Q6 n cs).1 vs:=by
 let κ0:Nat→Option KI:=fun id=>if id<n then κ id else none
 obtain⟨κ1,t1,m1,f1⟩:=Qav Q6 XC (fun n κ d v os ho h hf=>Qbu ho h hf) cs n κ0 vs os ho h (fun id hi=>by simp only[κ0];rw[if_neg (by omega)])
 let κ2:Nat→Option KI:=fun id=>if n≤id∧id<(Xj Q6 n cs).2.2 then κ1 id else κ id
 have kle:Kle κ1 κ2:=fun id k hk=>by
  simp only[κ2]
  by_cases hid:n≤id∧id<(Xj Q6 n cs).2.2
  ·rw[if_pos hid];exact hk
  ·rw[if_neg hid]
   rw[t1.out id (by omega)] at hk
   simp only[κ0] at hk
   split at hk
   ·exact hk
   ·cases hk
 refine⟨κ2,⟨t1.le,fun id hid=>?_,t1.ids,t1.nodup,t1.owned,?_,fun p hp=>?_⟩,m1.mono ⟨fun _ h=>h,fun _ _=>rfl⟩ kle _ _⟩
 ·simp only[κ2];rw[if_neg (by omega)]
 ·have:=t1.blks
  unfold blks at*
  rw[←this]
  exact Qch fun p hp=>by simp only[κ2];rw[if_pos (t1.ids p hp)]
 ·exact (t1.ent p hp).mono ⟨fun _ h=>h,fun _ _=>rfl⟩ kle (fun _ _ _ _ _=>rfl)
theorem ER.known{I:Nat→Prop}{id:Nat}{e:Ent}(h:ER w I κ id e):∃k,κ id=some k:=by
 cases e<;>simp only[ER] at h
 ·rcases h.2 with⟨h,_⟩|⟨b,tot,_,_,_,h,_⟩<;>exact⟨_,h⟩
 ·rcases h.2 with⟨h,_⟩|⟨b,tot,_,h,_⟩<;>exact⟨_,h⟩
 ·obtain⟨b,_,_,h,_⟩:=h;exact⟨_,h⟩
 ·obtain⟨b,_,_,_,h,_⟩:=h;exact⟨_,h⟩
theorem QQB{n:Nat}{d:D}:n≤(Q6 n d).2.2:=by cases d<;>simp [Q6]
theorem QnK{f:Nat→D→D×qHp×Nat}(hf:∀n d,n≤(f n d).2.2):∀{ds:List D}{n:Nat},n≤(Xj f n ds).2.2
 |[],n=>by simp [Xj]
 |d::ds,n=>Qt (hf n d) (QnK hf (ds:=ds))
theorem Qdz{hp0:Hp}{ds:List D}:∀{outs:qSl}{n n':Nat}{hp hp':Hp},Yj hp0 ds n outs hp=some (n',hp')→n≤n'
 |[],n,n',hp,hp',h=>by simp only[Yj,Qb,Qe] at h;omega
 |(i,d)::l,n,n',hp,hp',h=>by
  simp only[Yj] at h
  split at h
  ·split at h
   ·exact Qdz h
   ·cases h
  ·split at h
   ·have h1:=(QnK (f:=Q6) (fun n d=>QQB (n:=n) (d:=d)) (ds:=‹List D›) (n:=n))
    exact Qt h1 (Qdz h)
   ·cases h
  ·cases h
theorem Qf2(h:RH B κ hp F w){O:Nat→Prop}{ds:List D}{vs:List Value}(hv:MRs w (Im B κ hp w) κ ds vs)(hst:Stp O w w'){I:Nat→Prop}{n0:Nat}(hfree:∀id,n0≤id→id<n0+64→κ id=none){H1:Hp}:
  ∀(outs:qSl)(n:Nat)(κ1:Nat→Option KI)(E1:Hp)(os1 os2:List Nat)(n':Nat)(hp':Hp),Yj hp ds n outs (E1++H1)=some (n',hp')→n'≤n0+64→Back w' I κ κ1 n0 n E1 os1→
   DRs w' I (outs.map (·.2)) (outs.map fun o=>vs.getD o.1 undef) os2→
   ∃E κ2,hp'=E++H1∧Back w' I κ κ2 n0 n' E (os1++os2)∧Kle κ1 κ2
 |[],n,κ1,E1,os1,os2,n',hp',ht,_,hb,hd=>by
  simp only[Yj,Qb,Qe] at ht
  obtain⟨rfl,rfl⟩:=ht
  simp only[List.map_nil,DRs] at hd
  rw[hd.2,List.append_nil]
  exact⟨E1,κ1,rfl,hb,fun _ _ h=>h⟩
 |(i,d)::l,n,κ1,E1,os1,os2,n',hp',ht,hn,hb,hd=>by
  simp only[List.map_cons,DRs] at hd
  obtain⟨v,vs',o,o',hvv,rfl,hd1,hd2⟩:=hd
  simp only[List.cons.injEq] at hvv
  obtain⟨rfl,rfl⟩:=hvv
  have hle:=Qdz ht
  have k01:Kle κ κ1:=hb.kle fun id h1 h2=>hfree id h1 (by omega)
  simp only[Yj] at ht
  split at ht
  ·rename_i id len sz xs hds
   split at ht
   case isFalse=>cases ht
   rename_i hc
   obtain⟨hlen,hsz⟩:=hc
   obtain⟨v,hvg,hm⟩:=hv.get hds
   have hgd:vs.getD i undef=v:=by simp [List.getD,hvg]
   rw[hgd] at hd1
   unfold Qar at hsz
   split at hsz
   case h_2=>cases hsz
   rename_i sz' xs0 hlk
   simp only[Qb] at hsz
   subst hsz
   have hent:=h.ent id _ hlk
   simp only[ER] at hent
   simp only[DR] at hd1
   simp only[MR] at hm
   have her:ER w' I κ1 id (.arr sz' xs)∧((κ1 id).bind KI.blk).toList=o:=by
    simp only[ER]
    rcases hm with⟨sz2,m1,rfl,_,_⟩|⟨b,sz2,tot,off,cap,m1,rfl,m2,m3,m4,m5⟩
    ·rcases hd1.2 with⟨_,e1,e2⟩|⟨b,cap,cur,e,us,e1,_⟩
     ·rcases hent.2 with⟨g1,_⟩|⟨b,tot,cur,e,us,g1,_⟩
      ·refine⟨⟨hd1.1,.inl ⟨k01 _ _ g1,e1⟩⟩,?_⟩
       rw[k01 _ _ g1,e2];rfl
      ·rw[m1] at g1;cases g1
     ·cases e1
    ·rcases hd1.2 with⟨e1,_⟩|⟨b',cap',cur,e,us,e1,e2,e3,e4,e5,e6,e7,e8⟩
     ·cases e1
     ·rcases hent.2 with⟨g1,_⟩|⟨b2,tot2,cur2,ty2,us2,g1,g2,g3,_⟩
      ·rw[m1] at g1;cases g1
      ·rw[m1] at g1
       simp only[Qb,KI.arr.injEq] at g1
       obtain⟨rfl,rfl,rfl⟩:=g1
       simp only[Value.slice.injEq,Qb,Addr.mk.injEq] at e1
       obtain⟨⟨rfl,_⟩,_⟩:=e1
       obtain⟨cur3,q1,q2⟩:=hst.len b _ _ _ g2
       rw[e3] at q1
       simp only[Qb,Obj.cells.injEq] at q1
       obtain⟨rfl,_⟩:=q1
       refine⟨⟨hd1.1,.inr ⟨b,tot,_,_,us,k01 _ _ m1,e3,by omega,e7,e8⟩⟩,?_⟩
       rw[k01 _ _ m1,e2];rfl
   have hb2:Back w' I κ κ1 n0 n ((id,.arr sz' xs)::E1) (os1++o):=by
    refine⟨hb.le,hb.out,?_,?_,?_⟩
    ·simp only[Qh,QG];exact⟨rfl,hb.owned⟩
    ·have e:blks κ1 ((id,.arr sz' xs)::E1)=((κ1 id).bind KI.blk).toList++blks κ1 E1:=by
      unfold blks
      rw[List.filterMap_cons]
      cases (κ1 id).bind KI.blk<;>rfl
     rw[e,her.2]
     exact List.perm_append_comm.trans (hb.blks.append_right o)
    ·simp only[Qh,QG];exact⟨her.1,hb.ent⟩
   obtain⟨E,κ2,e1,e2,e3⟩:=Qf2 h hv hst hfree l n κ1 _ (os1++o) o' n' hp' (by simpa using ht) hn hb2 hd2
   exact⟨E,κ2,e1,by rw[←QC];exact e2,e3⟩
  ·rename_i id cs hds
   split at ht
   case isFalse=>cases ht
   rename_i hok
   obtain⟨v,hvg,hm⟩:=hv.get hds
   have hgd:vs.getD i undef=v:=by simp [List.getD,hvg]
   rw[hgd] at hd1
   simp only[DR] at hd1
   simp only[MR] at hm
   obtain⟨b,m1,rfl⟩:=hm
   obtain⟨b',cur,ty,os',e1,rfl,e3,e4,e5⟩:=hd1
   simp only[Value.pointer.injEq,Qb,Addr.mk.injEq] at e1
   obtain⟨rfl,_⟩:=e1
   obtain⟨κ2,t2,m2⟩:=QQA (κ:=κ1) (n:=n) hok e5
   have hle2:=Qdz ht
   have tle:=t2.le
   have k12:Kle κ1 κ2:=t2.kle fun id h1 h2=>by rw[hb.out id (.inr h1)];exact hfree id (by have:=hb.le;omega) (by omega)
   have hb2:Back w' I κ κ2 n0 (Xj Q6 n cs).2.2 ((id,.box (Xj Q6 n cs).1)::((Xj Q6 n cs).2.1++E1)) (os1++(b::os')):=by
    have hid:=k12 _ _ (k01 _ _ m1)
    refine⟨Qt hb.le tle,fun i hi=>?_,?_,?_,?_⟩
    ·rw[t2.out i (by have:=hb.le;omega),hb.out i (by omega)]
    ·simp only[Qh,Qg,QG]
     exact⟨rfl,fun p hp=>hp.elim (t2.owned p) (hb.owned p)⟩
    ·have e:blks κ2 ((id,.box (Xj Q6 n cs).1)::((Xj Q6 n cs).2.1++E1))=b::(os'++blks κ1 E1):=by
      have t:=t2.blks
      unfold blks at t ⊢
      rw[List.filterMap_cons,hid,Option.bind_some,KI.blk]
      simp only
      rw[List.filterMap_append,t]
      congr 2
      refine Qch fun p hp=>?_
      obtain⟨k,hk⟩:=(hb.ent p hp).known
      rw[hk,k12 _ _ hk]
     rw[e,show b::(os'++blks κ1 E1)=(b::os')++blks κ1 E1 from rfl]
     exact List.perm_append_comm.trans (hb.blks.append_right _)
    ·simp only[Qh,Qg,QG]
     refine⟨?_,fun p hp=>hp.elim (t2.ent p) fun hp=>(hb.ent p hp).mono ⟨fun _ h=>h,fun _ _=>rfl⟩ k12 (fun _ _ _ _ _=>rfl)⟩
     simp only[ER]
     exact⟨b,cur,ty,hid,e3,e4,m2⟩
   obtain⟨E,κ3,e1,e2,e3⟩:=Qf2 h hv hst hfree l _ κ2 _ (os1++(b::os')) o' n' hp' (by simpa using ht) hn hb2 hd2
   exact⟨E,κ3,e1,by rw[←QC];exact e2,fun _ _ hk=>e3 _ _ (k12 _ _ hk)⟩
  ·cases ht
theorem QnL{I J:Nat→Prop}:∀{ds:List D}{vs:List Value}{os:List Nat},(∀d∈ds,d.flat=true)→DRs w I ds vs os→DRs w J ds vs os
 |[],_,_,_,h=>by simpa only[DRs] using h
 |d::ds,vs,os,hf,h=>by
  simp only[DRs] at h ⊢
  obtain⟨v,vs',o,o',h1,h2,h3,h4⟩:=h
  exact⟨v,vs',o,o',h1,h2,QQy (hf d (by simp)) h3,QnL (fun d hd=>hf d (Qs _ hd)) h4⟩
theorem QnM(h:RH B κ hp F w)(hF:∀k,k<64→F (n+k)){ds:List D}{vs:List Value}(hv:MRs w (Im B κ hp w) κ ds vs){hp1:Hp}{os0:List Nat}(g:Gone w κ hp hp1 os0)(hs:Stp (·∈os0) w w')
  {r:D} {v:Value} {outs:qSl} {I0:Nat→Prop} {os:List Nat} (hok:okA r=true) (hdr:DRs w' I0 (r::outs.map (·.2)) (v::outs.map (fun o=>vs.getD o.1 undef)) os)
  {L:List Nat} (hL:∀id∈L,lk hp1 id≠none) {hp':Hp} (ht:Yj hp ds (XI n r).2.2 outs ((XI n r).2.1++Xd L hp1)=some (n',hp')) (hn:n'≤n+64) (hnd:os.Nodup)
  (hos:∀b∈os,(b∈os0∨w.heap.size≤b)∧b<w'.heap.size) (hI:∀κ' E,Kle κ κ'→(∀id e,(id,e)∈E→e.own1=true∧∀b,(κ' id).bind KI.blk=some b→b∈os)→hp'=E++Xd L hp1→∀b,I0 b→Im B κ' (E++Xd L hp1) w' b):
  ∃κ',RH B κ' hp' (Fr F n) w'∧Nxt B κ κ' hp hp' w w'∧MR w' (Im B κ' hp' w') κ' (XI n r).1 v:=by
 have hfree:∀id,n≤id→id<n+64→κ id=none:=fun id h1 h2=>by
  have:=hF (id-n) (by omega)
  rw[show n+(id-n)=id from by omega] at this
  exact h.fr id this
 simp only[DRs] at hdr
 obtain⟨v0,vs0,o,o',hveq,rfl,hdr1,hdr2⟩:=hdr
 simp only[List.cons.injEq] at hveq
 obtain⟨rfl,rfl⟩:=hveq
 obtain⟨κ1,t1,m1⟩:=QQz (κ:=κ) (n:=n) hok hdr1
 obtain⟨E,κ2,rfl,b2,k12⟩:=Qf2 h hv hs hfree outs _ κ1 _ o o' n' hp' ht hn t1.back hdr2
 have kle:=b2.kle fun id h1 h2=>hfree id h1 (by omega)
 have hIm:=hI κ2 E kle (fun id e hm=>⟨b2.owned _ hm,fun b hb=>b2.blks.mem_iff.1 (List.mem_filterMap.2 ⟨(id,e),hm,hb⟩)⟩) rfl
 obtain⟨g1,g2⟩:=QQw h hF g hs b2 hn hnd hos hL hIm
 exact⟨κ2,g1,g2,m1.mono ⟨hIm,fun _ _=>rfl⟩ k12 _ _⟩
theorem QQC(h:RH B κ hp F w)(hF:∀k,k<64→F (n+k)){f:Nat}{ds:List D}{vs:List Value}{md:List Md}(hv:MRs w (Im B κ hp w) κ ds vs){K:D×qHp→Prop}(hc:ZC P n hp f ds md K):
  (∀(vs:Array Value)(w:World),(callFunc f vs).run P w=.ok (.enter f vs) w)∧
  Calls P f vs.toArray w fun e w'=>∃v d hp' κ',e=.returned v∧K (d,hp')∧RH B κ' hp' (Fr F n) w'∧Nxt B κ κ' hp hp' w w'∧MR w' (Im B κ' hp' w') κ' d v:=by
 unfold ZC kon at hc
 split at hc
 case h_2=>exact hc.elim
 rename_i q hg
 obtain⟨args,hp1⟩:=q
 obtain⟨fz,r,outs,hfc,ha⟩:=hc
 refine⟨hfc.1,?_⟩
 simp only at ha
 split at ha
 case h_2=>exact ha.elim
 rename_i dh hac
 obtain⟨d,hp'⟩:=dh
 unfold Qas at hac
 split at hac
 case isFalse=>cases hac
 rename_i hcond
 obtain⟨hmu,hok⟩:=hcond
 obtain⟨os0,hgone,hargs⟩:=QQv h hv hg
 have hlow:∀b∈os0,(b∈B.os∨B.w.heap.size≤b)∧b<w.heap.size:=fun b hb=>let ⟨id,ho,_⟩:=hgone.own b hb;h.own b ⟨id,ho⟩
 split at hac
 ·rename_i hflat
  rw[Qi] at hflat
  replace hflat:=hflat.2
  simp only[Qi,Qr] at hflat
  split at hac
  case h_2=>cases hac
  rename_i n' hp'' htb
  split at hac
  case isFalse=>cases hac
  rename_i hle
  simp only[Qb,Qe] at hac
  obtain⟨rfl,rfl⟩:=hac
  let Ic:Nat→Prop:=fun b=>((B.I b∨b∈B.os∨B.w.heap.size≤b)∧b<w.heap.size)∧b∉os0
  have hri:RI B κ hp hp1 w Ic:=by
   refine⟨hgone.sub,⟨fun b hb=>⟨⟨hb.1,hb.2.1⟩,fun ho=>?_⟩,fun _ _=>rfl⟩,fun id b ho=>⟨⟨(h.own b ⟨id,hgone.sub.ob ho⟩).1.elim (fun g=>.inr (.inl g)) (fun g=>.inr (.inr g)),(h.own b ⟨id,hgone.sub.ob ho⟩).2⟩,fun hb=>?_⟩⟩
   ·obtain⟨id,ho,_⟩:=hgone.own b ho
    exact hb.2.2 ⟨id,ho⟩
   ·obtain⟨i,hi,hn⟩:=hgone.own b hb
    have:=h.inj _ _ _ (hgone.sub.ob ho) hi
    subst this
    obtain⟨e,_,he,_⟩:=ho
    rw[hn] at he;cases he
  have hdrs:=hargs Ic hri.keep fun d v e _ hm hl=>QQt h hri hm hl
  refine (hfc.2 w Ic vs os0 (fun b hb=>⟨hb.1.2,hb.2⟩) hgone.nd (fun b hb=>(hlow b hb).2) hdrs).mono ?_
  rintro e w' ⟨v,os',rfl,hst,hnd,hos,hdr⟩
  have hdr0:DRs w' (fun _=>False) (r::outs.map (·.2)) (v::outs.map (fun o=>vs.getD o.1 undef)) os':=QnL (by
   intro d hd
   rcases Qh.1 hd with rfl|hd
   ·exact hflat.1
   ·obtain⟨o,ho,rfl⟩:=Qu.1 hd
    exact hflat.2 o ho) hdr
  obtain⟨κ',g1,g2,g3⟩:=QnM (L:=[]) h hF hv hgone hst hok hdr0 (by simp) (by simpa only[Xd] using htb) hle hnd hos (fun _ _ _ _ _ b hb=>hb.elim)
  exact⟨v,_,_,κ',rfl,ha,g1,g2,g3⟩
 ·split at hac
  case isFalse=>cases hac
  rename_i hno
  split at hac
  case h_2=>cases hac
  rename_i n' hp'' htb
  split at hac
  case isFalse=>cases hac
  rename_i hle
  simp only[Qb,Qe] at hac
  obtain⟨rfl,rfl⟩:=hac
  let L:=(Xw md ds).flatMap D.ids
  have hrdl:=QnE hg
  have noids:∀(d e:D),YC d=true→Xz hp1 d=some e→∀id∈d.ids,lk hp1 id≠none:=by
   intro d e hn he id hid
   cases d<;>simp only[D.ids,D.ids0,Qn,List.not_mem_nil,Qp] at hid
   case sl i lo len=>
    subst hid
    intro hne
    simp [Xz,Xv,Xa,hne] at he
   case agg cs=>
    obtain⟨c,hc,hi⟩:=hid
    simp only[Xz,Xv,Qm] at he
    obtain⟨l,hl,hle⟩:=he
    clear hle
    have hc2:∃e,Xa hp1 c=some e:=by
     clear hn
     induction cs generalizing l with
     |nil=>simp at hc
     |cons c' cs ih=>
      simp only[Q1] at hl
      split at hl
      ·rename_i e' es' he' hes'
       rcases Qh.1 hc with rfl|hc
       ·exact⟨e',he'⟩
       ·exact ih hc es' hes'
      ·cases hl
    obtain⟨e',he'⟩:=hc2
    cases c<;>simp only[D.ids0,Qn,List.not_mem_nil] at hi
    subst hi
    intro hne
    simp [Xa,hne] at he'
  have hL:∀id∈L,lk hp1 id≠none:=by
   intro id hid
   obtain⟨d,hd,hi⟩:=Qp.1 hid
   obtain⟨e,he⟩:=hrdl d hd
   exact noids d e (Qr.1 hno d hd) he id hi
  let Ic:Nat→Prop:=fun b=>Im B κ hp w b∨∃id∈L,∃sz xs,lk hp1 id=some (.arr sz xs)∧OB κ hp1 w id b
  have hkeep:Keep w w (Im B κ hp w) Ic:=⟨fun _ h=>.inl h,fun _ _=>rfl⟩
  have hrd:∀id∈L,Rd w Ic κ hp1 id:=by
   intro id hid sz xs hl
   rcases hl with hl|hl
   ·have hent:=h.ent id _ (hgone.sub _ _ hl)
    simp only[ER] at hent
    refine⟨hent.1,hent.2.imp (fun h=>h) ?_⟩
    rintro⟨b,tot,cur,ty,us,k1,k2,k3,k4,k5⟩
    exact⟨b,tot,us,k1,.inr ⟨id,hid,sz,xs,hl,_,_,hl,rfl,k1,.inl rfl⟩,k4,PE.mono hkeep _ _ _ k5⟩
   ·have hent:=h.ent id _ (hgone.sub _ _ hl)
    simp only[ER] at hent
    refine⟨hent.1,hent.2.imp (fun h=>h) ?_⟩
    rintro⟨b,tot,us,k1,k2,k4,k5⟩
    exact⟨b,tot,us,k1,.inl k2,k4,PE.mono hkeep _ _ _ k5⟩
  have hdrs:=hargs Ic hkeep fun d v e hd hm hl=>QQo hkeep (fun id hi=>hrd id (Qp.2 ⟨d,hd,hi⟩)) hm (Qr.1 hno d hd) hl
  have hIc:∀b,Ic b→(B.I b∨b∈B.os∨B.w.heap.size≤b)∧b<w.heap.size:=by
   rintro b (hb|⟨id,_,_,_,_,ho⟩)
   ·exact⟨hb.1,hb.2.1⟩
   ·have ho:=hgone.sub.ob ho
    exact⟨(h.own b ⟨id,ho⟩).1.elim (fun g=>.inr (.inl g)) (fun g=>.inr (.inr g)),(h.own b ⟨id,ho⟩).2⟩
  have hIo:∀b,Ic b→b∉os0:=by
   intro b hb ho
   obtain⟨i,hi,hn⟩:=hgone.own b ho
   rcases hb with hb|⟨id,_,_,_,_,ho⟩
   ·exact hb.2.2 ⟨i,hi⟩
   ·have:=h.inj _ _ _ (hgone.sub.ob ho) hi
    subst this
    obtain⟨e,_,he,_⟩:=ho
    rw[hn] at he;cases he
  refine (hfc.2 w Ic vs os0 (fun b hb=>⟨(hIc b hb).2,hIo b hb⟩) hgone.nd (fun b hb=>(hlow b hb).2) hdrs).mono ?_
  rintro e w' ⟨v,os',rfl,hst,hnd,hos,hdr⟩
  obtain⟨κ',g1,g2,g3⟩:=QnM (L:=L) h hF hv hgone hst hok hdr hL htb hle hnd hos (by
   rintro κ' E kle hE rfl b ⟨hb,hno,hlt⟩
   refine⟨?_,hlt,?_⟩
   ·rcases hb with hb|hb|hb
    ·exact (hIc b hb).1
    ·rcases (hlow b hb).1 with g|g
     ·exact .inr (.inl g)
     ·exact .inr (.inr g)
    ·exact .inr (.inr (Qt h.stp.size hb))
   ·rintro⟨id,e,k,h1,h2,h3,h4⟩
    rw[J8] at h1
    cases hEE:lk E id with
    |some e'=>
     rw[hEE] at h1
     simp only[Option.some_or,Qb] at h1
     subst h1
     exact hno ((hE id e' (J9 hEE)).2 b (by rw[h3];exact h4.own1 (hE id e' (J9 hEE)).1))
    |none=>
     rw[hEE] at h1
     simp only[Option.none_or] at h1
     obtain⟨e0,h0,he⟩:=QfZ h1
     obtain⟨k',hk'⟩:=h.place (hgone.sub _ _ h0)
     have:=kle _ _ hk'
     rw[h3] at this
     cases this
     have how:e0.owned=true:=by
      rw[he] at h2
      split at h2
      ·cases e0<;>simp [Ent.frozen,Ent.owned] at h2 ⊢
      ·exact h2
     have hob1:OB κ hp1 w id b:=⟨e0,k,h0,how,hk',(he▸h4).thaw_if.congr fun b0 hb0=>by
      have hoo:OB κ hp1 w id b0:=⟨e0,k,h0,how,hk',.inl hb0⟩
      refine hst.block b0 (h.own b0 ⟨id,hgone.sub.ob hoo⟩).2 (fun hin=>?_)
      obtain⟨i,hi,hn⟩:=hgone.own b0 hin
      have:=h.inj _ _ _ (hgone.sub.ob hoo) hi
      subst this
      rw[hn] at h0;cases h0⟩
     have hob:OB κ hp w id b:=hgone.sub.ob hob1
     have hblt:=(h.own b ⟨id,hob⟩).2
     rcases hb with (hb|⟨id0,hid0,sz,xs,hl0,ho0⟩)|hb|hb
     ·exact hb.2.2 ⟨id,hob⟩
     ·have:=h.inj _ _ _ hob (hgone.sub.ob ho0)
      subst this
      rw[hl0] at h0
      cases h0
      rw[if_pos hid0] at he
      subst he
      simp [Ent.frozen,Ent.owned] at h2
     ·obtain⟨i,hi,hn⟩:=hgone.own b hb
      have:=h.inj _ _ _ hob hi
      subst this
      rw[hn] at h0;cases h0
     ·omega)
  exact⟨v,_,_,κ',rfl,ha,g1,g2,g3⟩
end
end Go.Am
