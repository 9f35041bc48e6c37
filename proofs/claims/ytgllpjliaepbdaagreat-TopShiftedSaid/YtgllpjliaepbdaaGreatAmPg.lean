/- Canonical states: the same memory under other numbers. -/
import Derived.Test.YtgllpjliaepbdaaGreatAmW
import Derived.Tactics
namespace Go.Am
open Go
section
variable {B:Base} {κ κ' κ'':Nat→Option KI} {hp:Hp} {F:Nat→Prop} {w:World} {n n':NS}
structure NI(B:Base)(κ:Nat→Option KI)(hp:Hp)(w:World)(n:NS)(κ':Nat→Option KI):Prop where
 fr:∀j,n.k≤j→κ' j=none
 map:∀id j,lk n.m id=some j→κ' j=κ id∧j<n.k
 ent:∀j e,lk n.e j=some e→j<n.k∧ER w (Im B κ hp w) κ' j e
 own:∀j b,OB κ' n.e w j b→∃id,lk n.m id=some j∧OB κ hp w id b
structure NN(hp:Hp)(n n':NS)(κ' κ'':Nat→Option KI):Prop where
 kle:Kle κ' κ''
 box:∀id cs,lk hp id=some (.box cs)→lk n.m id=none→lk n'.m id=none
theorem NN.refl:NN hp n n κ κ:=⟨fun _ _ h=>h,fun _ _ _ h=>h⟩
theorem NN.trans{n'':NS}(h:NN hp n n' κ κ')(k:NN hp n' n'' κ' κ''):NN hp n n'' κ κ'':=
 ⟨fun _ _ e=>k.kle _ _ (h.kle _ _ e),fun id cs h1 h2=>k.box id cs h1 (h.box id cs h1 h2)⟩
theorem NI.ends(h:NI B κ hp w n κ'):lk n.e n.k=none:=by
 cases he:lk n.e n.k with
 |none=>rfl
 |some e=>have:=(h.ent _ _ he).1;omega
theorem NI.snoc(h:NI B κ hp w n κ'){id:Nat}{e e0:Ent}(hid:lk n.m id=none)(he0:lk hp id=some e0)(how:e.owned=true→e0.owned=true∧∀k b,Ow w e k b→Ow w e0 k b){q:KI}(hq:κ id=some q)
  (he:ER w (Im B κ hp w) (XW κ' n.k q) n.k e):NI B κ hp w ⟨(id,n.k)::n.m,n.e++[(n.k,e)],n.k+1⟩ (XW κ' n.k q)∧Kle κ' (XW κ' n.k q):=by
 have kle:Kle κ' (XW κ' n.k q):=fun j k hj=>by
  rw[Ys]
  ·exact hj
  ·intro e;subst e;rw[h.fr _ (Qf _)] at hj;cases hj
 have hends:=h.ends
 refine⟨⟨fun j hj=>?_,fun id' j hj=>?_,fun j e' hj=>?_,fun j b hj=>?_⟩,kle⟩
 ·simp only at hj
  rw[Ys (by omega)]
  exact h.fr j (by omega)
 ·simp only[lk] at hj
  split at hj
  ·rename_i hi
   simp only[Qb] at hj
   subst hi hj
   exact⟨by rw[XZ,hq],by simp⟩
  ·obtain⟨h1,h2⟩:=h.map _ _ hj
   exact⟨by rw[Ys (by omega),h1],by simp only;omega⟩
 ·simp only[J8] at hj
  cases hl:lk n.e j with
  |some e1=>
   rw[hl] at hj
   simp only[Option.some_or,Qb] at hj
   subst hj
   obtain⟨h1,h2⟩:=h.ent _ _ hl
   exact⟨by simp only;omega,h2.mono ⟨fun _ h=>h,fun _ _=>rfl⟩ kle (fun _ _ _ _ _=>rfl)⟩
  |none=>
   rw[hl] at hj
   simp only[Option.none_or,lk] at hj
   split at hj
   ·rename_i hjk
    simp only[Qb] at hj
    subst hjk hj
    exact⟨by simp,he⟩
   ·cases hj
 ·obtain⟨e1,k,h1,h2,h3,h4⟩:=hj
  simp only[J8] at h1
  cases hl:lk n.e j with
  |some e2=>
   rw[hl] at h1
   simp only[Option.some_or,Qb] at h1
   subst h1
   have hjk:=(h.ent _ _ hl).1
   rw[Ys (by omega)] at h3
   obtain⟨id',g1,g2⟩:=h.own j b ⟨_,_,hl,h2,h3,h4⟩
   refine⟨id',?_,g2⟩
   simp only[lk]
   rw[if_neg]
   ·exact g1
   ·intro e;subst e;rw[hid] at g1;cases g1
  |none=>
   rw[hl] at h1
   simp only[Option.none_or,lk] at h1
   split at h1
   ·rename_i hjk
    simp only[Qb] at h1
    subst hjk h1
    rw[XZ,Qb] at h3
    subst h3
    exact⟨id,by simp [lk],e0,q,he0,(how h2).1,hq,(how h2).2 _ _ h4⟩
   ·cases h1
theorem NI.snocNil(h:NI B κ hp w n κ')(sz:Nat):NI B κ hp w ⟨n.m,n.e++[(n.k,.arr sz [])],n.k+1⟩ (XW κ' n.k (.nil sz))∧Kle κ' (XW κ' n.k (.nil sz)):=by
 have kle:Kle κ' (XW κ' n.k (.nil sz)):=fun j k hj=>by
  rw[Ys]
  ·exact hj
  ·intro e;subst e;rw[h.fr _ (Qf _)] at hj;cases hj
 refine⟨⟨fun j hj=>?_,fun id' j hj=>?_,fun j e' hj=>?_,fun j b hj=>?_⟩,kle⟩
 ·simp only at hj
  rw[Ys (by omega)]
  exact h.fr j (by omega)
 ·obtain⟨h1,h2⟩:=h.map _ _ hj
  exact⟨by rw[Ys (by omega),h1],by simp only;omega⟩
 ·simp only[J8] at hj
  cases hl:lk n.e j with
  |some e1=>
   rw[hl] at hj
   simp only[Option.some_or,Qb] at hj
   subst hj
   obtain⟨h1,h2⟩:=h.ent _ _ hl
   exact⟨by simp only;omega,h2.mono ⟨fun _ h=>h,fun _ _=>rfl⟩ kle (fun _ _ _ _ _=>rfl)⟩
  |none=>
   rw[hl] at hj
   simp only[Option.none_or,lk] at hj
   split at hj
   ·rename_i hjk
    simp only[Qb] at hj
    subst hjk hj
    refine⟨by simp,?_⟩
    simp only[ER]
    exact⟨by simp,.inl ⟨XZ,trivial⟩⟩
   ·cases hj
 ·obtain⟨e1,k,h1,h2,h3,h4⟩:=hj
  simp only[J8] at h1
  cases hl:lk n.e j with
  |some e2=>
   rw[hl] at h1
   simp only[Option.some_or,Qb] at h1
   subst h1
   have hjk:=(h.ent _ _ hl).1
   rw[Ys (by omega)] at h3
   exact h.own j b ⟨_,_,hl,h2,h3,h4⟩
  |none=>
   rw[hl] at h1
   simp only[Option.none_or,lk] at h1
   split at h1
   ·rename_i hjk
    subst hjk
    rw[XZ,Qb] at h3
    subst h3
    simp only[Qb] at h1
    subst h1
    cases h4.own1 rfl
   ·cases h1
theorem Qgf(hR:RH B κ hp F w)(h:NI B κ hp w n κ'){d:D}{v:Value}(hd:MR w (Im B κ hp w) κ d v):
  ∃κ'',NI B κ hp w (Xr hp n d).2 κ''∧NN hp n (Xr hp n d).2 κ' κ''∧MR w (Im B κ hp w) κ'' (Xr hp n d).1 v:=by
 have hnb:=MR.nb hd
 have un:(∀b,d≠.bool b)→Xr hp n d=(.undef,n)→∃κ'',NI B κ hp w (Xr hp n d).2 κ''∧NN hp n (Xr hp n d).2 κ' κ''∧MR w (Im B κ hp w) κ'' (Xr hp n d).1 v:=fun e0 e=>by
  rw[e];exact⟨κ',h,NN.refl,by simp only[MR];exact hnb e0⟩
 cases d
 case sl id lo len=>
  simp only[MR] at hd
  simp only[Xr]
  cases hm:lk n.m id with
  |some j=>
   simp only
   obtain⟨h1,_⟩:=h.map _ _ hm
   refine⟨κ',h,NN.refl,?_⟩
   simp only[MR,h1]
   exact hd
  |none=>
   simp only
   cases he:lk hp id with
   |none=>exact⟨κ',h,NN.refl,by simp only[MR];exact hnb (by simp)⟩
   |some e=>
    obtain⟨q,hq⟩:=hR.place he
    have hent:=hR.ent _ _ he
    have nn:∀(n':NS),n'.m=(id,n.k)::n.m→(∀cs,e≠.box cs)→Kle κ' (XW κ' n.k q)→NN hp n n' κ' (XW κ' n.k q):=fun n' hn' hb kle=>by
     refine⟨kle,fun id' cs h1 h2=>?_⟩
     rw[hn']
     simp only[lk]
     rw[if_neg]
     ·exact h2
     ·intro ee;subst ee;rw[he] at h1;cases h1;exact hb _ rfl
    cases e with
    |box cs=>exact⟨κ',h,NN.refl,by simp only[MR];exact hnb (by simp)⟩
    |arr sz xs=>
     simp only
     obtain⟨g1,g2⟩:=h.snoc (e:=.arr sz xs) hm he (fun h=>⟨h,fun _ _ h=>h⟩) hq (by simp only[ER,XZ] at hent ⊢;rw[←hq];exact hent)
     refine⟨_,g1,nn _ rfl (fun _=>by simp) g2,?_⟩
     simp only[MR,XZ]
     rw[←hq];exact hd
    |imm sz xs=>
     simp only
     obtain⟨g1,g2⟩:=h.snoc (e:=.imm sz xs) hm he (fun h=>⟨h,fun _ _ h=>h⟩) hq (by simp only[ER,XZ] at hent ⊢;rw[←hq];exact hent)
     refine⟨_,g1,nn _ rfl (fun _=>by simp) g2,?_⟩
     simp only[MR,XZ]
     rw[←hq];exact hd
    |nst sz l=>
     simp only
     obtain⟨g1,g2⟩:=h.snoc (e:=.nst sz l) hm he (fun h=>⟨h,fun _ _ h=>h⟩) hq (by simp only[ER,XZ] at hent ⊢;rw[←hq];exact hent)
     refine⟨_,g1,nn _ rfl (fun _=>by simp) g2,?_⟩
     simp only[MR,XZ]
     rw[←hq];exact hd
 case nl sz=>
  simp only[Xr]
  obtain⟨g1,g2⟩:=h.snocNil sz
  refine⟨_,g1,⟨g2,fun _ _ _ h=>h⟩,?_⟩
  simp only[MR] at hd ⊢
  exact .inl ⟨sz,XZ,hd,trivial,trivial⟩
 case int=>exact⟨κ',h,NN.refl,by simpa only[Xr,MR] using hd⟩
 case bool=>exact⟨κ',h,NN.refl,by simpa only[Xr,MR] using hd⟩
 case str=>exact⟨κ',h,NN.refl,by simpa only[Xr,MR] using hd⟩
 case nf=>exact⟨κ',h,NN.refl,by simpa only[Xr,MR] using hd⟩
 case clo f cs=>
  by_cases ho:cs.all X5=true
  ·have e:Xr hp n (.clo f cs)=(.clo f cs,n):=by simp only[Xr,ho,if_true]
   rw[e]
   simp only[MR] at hd
   obtain⟨vs,rfl,hm⟩:=hd
   exact⟨κ',h,NN.refl,MR.of_DR _ _ (by simp only[DR];exact⟨vs,rfl,QfO hm ho⟩)⟩
  ·exact un (by simp) (by simp only[Xr];rw[if_neg ho])
 case lst=>exact⟨κ',h,NN.refl,by simpa only[Xr,MR] using hd⟩
 case ref=>exact⟨κ',h,NN.refl,by simpa only[Xr,MR] using hd⟩
 all_goals exact un (by simp) rfl
theorem Qgg(f:NS→D→D×NS)(hf:∀(n:NS)(κ':Nat→Option KI)(d:D)(v:Value),NI B κ hp w n κ'→MR w (Im B κ hp w) κ d v→
   ∃κ'',NI B κ hp w (f n d).2 κ''∧NN hp n (f n d).2 κ' κ''∧MR w (Im B κ hp w) κ'' (f n d).1 v):
  ∀(ds:List D)(n:NS)(κ':Nat→Option KI)(vs:List Value),NI B κ hp w n κ'→MRs w (Im B κ hp w) κ ds vs→
   ∃κ'',NI B κ hp w (X1 f n ds).2 κ''∧NN hp n (X1 f n ds).2 κ' κ''∧MRs w (Im B κ hp w) κ'' (X1 f n ds).1 vs
 |[],n,κ',vs,h,hd=>by
  simp only[MRs] at hd
  subst hd
  exact⟨κ',h,NN.refl,by simp only[X1,MRs]⟩
 |d::ds,n,κ',vs,h,hd=>by
  simp only[MRs] at hd
  obtain⟨v,vs',rfl,h1,h2⟩:=hd
  obtain⟨κ1,a1,b1,c1⟩:=hf n κ' d v h h1
  obtain⟨κ2,a2,b2,c2⟩:=Qgg f hf ds _ κ1 vs' a1 h2
  refine⟨κ2,a2,b1.trans b2,?_⟩
  simp only[X1,MRs]
  exact⟨v,vs',rfl,c1.mono ⟨fun _ h=>h,fun _ _=>rfl⟩ b2.kle,c2⟩
theorem Qoi(hR:RH B κ hp F w)(h:NI B κ hp w n κ'){d:D}{v:Value}(hd:MR w (Im B κ hp w) κ d v):
  ∃κ'',NI B κ hp w (XB hp n d).2 κ''∧MR w (Im B κ hp w) κ'' (XB hp n d).1 v∧Kle κ' κ'':=by
 have hnb:=MR.nb hd
 have zero:XB hp n d=Xr hp n d→∃κ'',NI B κ hp w (XB hp n d).2 κ''∧MR w (Im B κ hp w) κ'' (XB hp n d).1 v∧Kle κ' κ'':=fun e=>by
  rw[e]
  obtain⟨κ1,a1,b1,c1⟩:=Qgf hR h hd
  exact⟨κ1,a1,c1,b1.kle⟩
 cases d
 case agg cs=>
  simp only[MR] at hd
  obtain⟨vs,rfl,h1,h2⟩:=hd
  obtain⟨κ1,a1,b1,c1⟩:=Qgg (Xr hp) (fun n κ' d v h hd=>Qgf hR h hd) cs n κ' _ h h2
  exact⟨κ1,a1,by simp only[XB,MR];exact⟨vs,rfl,h1,c1⟩,b1.kle⟩
 case pt id off=>
  simp only[MR] at hd
  obtain⟨b,hb,rfl⟩:=hd
  simp only[XB]
  cases hm:lk n.m id with
  |some j=>
   simp only
   obtain⟨h1,_⟩:=h.map _ _ hm
   refine⟨κ',h,?_,fun _ _ h=>h⟩
   simp only[MR,h1]
   exact⟨b,hb,rfl⟩
  |none=>
   simp only
   cases he:lk hp id with
   |none=>exact⟨κ',h,by simp only[MR];exact hnb (by simp),fun _ _ h=>h⟩
   |some e=>
    cases e with
    |arr=>exact⟨κ',h,by simp only[MR];exact hnb (by simp),fun _ _ h=>h⟩
    |imm=>exact⟨κ',h,by simp only[MR];exact hnb (by simp),fun _ _ h=>h⟩
    |nst=>exact⟨κ',h,by simp only[MR];exact hnb (by simp),fun _ _ h=>h⟩
    |box cs=>
     simp only[Qdj]
     have hent:=hR.ent _ _ he
     simp only[ER] at hent
     obtain⟨b',cur,e,hb',hg,h1,h2⟩:=hent
     rw[hb] at hb'
     cases hb'
     obtain⟨κ1,a1,b1,c1⟩:=Qgg (Xr hp) (fun n κ' d v h hd=>Qgf hR h hd) cs n κ' _ h h2
     obtain⟨g1,g2⟩:=a1.snoc (id:=id) (e:=.box (X1 (Xr hp) n cs).1) (e0:=.box cs) (b1.box id cs he hm) he (fun _=>⟨rfl,fun _ _ h=>.inl (h.own1 rfl)⟩) hb (by
      simp only[ER,XZ]
      refine⟨b,cur,e,rfl,hg,h1,?_⟩
      refine c1.mono ⟨fun _ h=>h,fun _ _=>rfl⟩ ?_
      intro j k hj
      rw[Ys]
      ·exact hj
      ·intro e;subst e;rw[a1.fr _ (Qf _)] at hj;cases hj)
     refine⟨_,g1,?_,fun _ _ h=>g2 _ _ (b1.kle _ _ h)⟩
     simp only[MR,XZ]
     exact⟨b,rfl,rfl⟩
 all_goals exact zero rfl
theorem Qgh(hR:RH B κ hp F w):∀(ds:List D)(n:NS)(κ':Nat→Option KI)(vs:List Value),NI B κ hp w n κ'→MRs w (Im B κ hp w) κ ds vs→
   ∃κ'',NI B κ hp w (X1 (XB hp) n ds).2 κ''∧MRs w (Im B κ hp w) κ'' (X1 (XB hp) n ds).1 vs∧Kle κ' κ''
 |[],n,κ',vs,h,hd=>by
  simp only[MRs] at hd
  subst hd
  exact⟨κ',h,by simp only[X1,MRs],fun _ _ h=>h⟩
 |d::ds,n,κ',vs,h,hd=>by
  simp only[MRs] at hd
  obtain⟨v,vs',rfl,h1,h2⟩:=hd
  obtain⟨κ1,a1,c1,b1⟩:=Qoi hR h h1
  obtain⟨κ2,a2,c2,b2⟩:=Qgh hR ds _ κ1 vs' a1 h2
  refine⟨κ2,a2,?_,fun _ _ h=>b2 _ _ (b1 _ _ h)⟩
  simp only[X1,MRs]
  exact⟨v,vs',rfl,c1.mono ⟨fun _ h=>h,fun _ _=>rfl⟩ b2,c2⟩
theorem QQ1(hR:RH B κ hp F w)(h:NI B κ hp w n κ'){d:D}{v:Value}(hd:MR w (Im B κ hp w) κ d v):
  ∃κ'',NI B κ hp w (Yo hp n d).2 κ''∧MR w (Im B κ hp w) κ'' (Yo hp n d).1 v∧Kle κ' κ'':=by
 cases d
 case clo f cs=>
  simp only[MR] at hd
  obtain⟨vs,rfl,h2⟩:=hd
  obtain⟨κ1,a1,c1,b1⟩:=Qgh hR cs n κ' _ h h2
  exact⟨κ1,a1,by simp only[Yo,MR];exact⟨vs,rfl,c1⟩,b1⟩
 case tup cs=>
  simp only[MR] at hd
  obtain⟨vs,rfl,h2⟩:=hd
  obtain⟨κ1,a1,c1,b1⟩:=Qgh hR cs n κ' _ h h2
  exact⟨κ1,a1,by simp only[Yo,MR];exact⟨vs,rfl,c1⟩,b1⟩
 all_goals exact Qoi hR h hd
theorem Qgi{s:St}{tm:Array Value}(hR:RH B κ s.hp F w)(hS:RS B κ s.hp w s.sl tm):∀(keep:List Nat)(n:NS)(κ':Nat→Option KI),NI B κ s.hp w n κ'→
  ∃κ'',NI B κ s.hp w (Za s keep n).2 κ''∧Kle κ' κ''∧∀t d,lk (Za s keep n).1 t=some d→∃v,tm[t]?=some v∧MR w (Im B κ s.hp w) κ'' d v
 |[],n,κ',h=>⟨κ',h,fun _ _ h=>h,by simp [Za,lk]⟩
 |t::keep,n,κ',h=>by
  simp only[Za]
  cases ht:lk s.sl t with
  |none=>
   simp only
   exact Qgi hR hS keep n κ' h
  |some d=>
   simp only
   obtain⟨v,hv,hm⟩:=hS.sl t d ht
   obtain⟨κ1,a1,c1,b1⟩:=QQ1 hR h hm
   obtain⟨κ2,a2,b2,c2⟩:=Qgi hR hS keep _ κ1 a1
   refine⟨κ2,a2,fun _ _ h=>b2 _ _ (b1 _ _ h),fun t' d' hl=>?_⟩
   simp only[lk] at hl
   split at hl
   ·rename_i e
    simp only[Qb] at hl
    subst e hl
    exact⟨v,hv,c1.mono ⟨fun _ h=>h,fun _ _=>rfl⟩ b2⟩
   ·exact c2 t' d' hl
theorem QQ2{s:St}{tm:Array Value}(hR:RH B κ s.hp F w)(hS:RS B κ s.hp w s.sl tm)(keep:List Nat):
  ∃κ',RH B κ' (norm keep s).hp (fun id=>(norm keep s).nx≤id) w∧RS B κ' (norm keep s).hp w (norm keep s).sl tm:=by
 obtain⟨κ1,a1,_,c1⟩:=Qgi hR hS keep ⟨[],[],0⟩ (fun _=>none) ⟨fun _ _=>rfl,by simp [lk],by simp [lk],by rintro j b ⟨e,k,h1,_⟩;simp [lk] at h1⟩
 have hown:∀b,Jo κ1 (norm keep s).hp w b→Jo κ s.hp w b:=fun b ⟨j,hj⟩=>let ⟨id,_,h⟩:=a1.own j b hj;⟨id,h⟩
 have hk:Keep w w (Im B κ s.hp w) (Im B κ1 (norm keep s).hp w):=⟨fun b ⟨h1,h2,h3⟩=>⟨h1,h2,fun h=>h3 (hown b h)⟩,fun _ _=>rfl⟩
 refine⟨κ1,⟨hR.stp,a1.fr,fun id e he=>?_,fun b hb=>hR.own b (hown b hb),fun j j' b h1 h2=>?_⟩,⟨hS.size,fun t d ht=>?_,hS.fx⟩⟩
 ·exact (a1.ent id e he).2.mono hk (fun _ _ h=>h) (fun _ _ _ _ _=>rfl)
 ·obtain⟨id,g1,g2⟩:=a1.own j b h1
  obtain⟨id',g3,g4⟩:=a1.own j' b h2
  have:=hR.inj _ _ _ g2 g4
  subst this
  rw[g1] at g3
  exact Option.some.inj g3
 ·obtain⟨v,hv,hm⟩:=c1 t d ht
  exact⟨v,hv,hm.mono hk (fun _ _ h=>h)⟩
end
theorem QQ3{P:Program}{c:Code}{Q:Exit→Act→World→Prop}{a:Act}{w:World}{m:Nat}(J:Nat→Act→World→Prop)(h₀:J m a w)
  (round:∀m a w,J m a w→c.wp P (Exit.then (fun a' w'=>∃m',m'<m∧J m' a' w') Q) a w):(Code.loop c).wp P Q a w:=by
 intro b k cs
 have key:∀n a w,J n a w→
   ∃e a' w',Q e a' w'∧Arrives P (lone (b.at a (.code c::.inLoop c::k)) cs w) b k cs e a' w':=by
  intro n
  induction n using Nat.strongRecOn with
  |_ n ih=>
   intro a w hI
   obtain⟨e,a₁,w₁,hq,harr⟩:=round n a w hI b (.inLoop c::k) cs
   cases e with
   |normal=>
    obtain⟨m',hlt,hI₁⟩:=hq
    obtain⟨e₂,a₂,w₂,hq₂,harr₂⟩:=ih m' hlt a₁ w₁ hI₁
    exact⟨e₂,a₂,w₂,hq₂,.of_steps (Steps.trans harr (.one step_inLoop)) harr₂⟩
   |exit id=>exact⟨_,a₁,w₁,hq,.pass (x:=.inLoop c) rfl (fun _ _=>.inl (by simp)) harr⟩
   |goto l=>exact⟨_,a₁,w₁,hq,.pass (x:=.inLoop c) rfl (fun _ _=>.inl (by simp)) harr⟩
   |ret=>exact⟨_,a₁,w₁,hq,.pass (x:=.inLoop c) rfl (fun _ _=>.inl (by simp)) harr⟩
   |panic ch=>exact⟨_,a₁,w₁,hq,.pass (x:=.inLoop c) rfl (fun _ _=>.inl (by simp)) harr⟩
   |outgrown=>exact⟨_,a₁,w₁,hq,.pass (x:=.inLoop c) rfl (fun _ _=>.inl (by simp)) harr⟩
 obtain⟨e,a',w',hq,harr⟩:=key _ a w h₀
 exact⟨e,a',w',hq,.of_steps (.one step_loop) harr⟩
def Qoj:LX→Exit
 | .normal=>.normal
 | .exit id=>.exit id
 | .ret=>.ret
def At(B:Base)(s:St)(a:Act)(w:World):Prop:=a.defers=[]∧∃κ,RH B κ s.hp (fun id=>s.nx≤id) w∧RS B κ s.hp w s.sl a.tmps
theorem At.fil{B:Base}{s:St}{a:Act}{w:World}{keep:List Nat}(h:At B s a w):At B ⟨fil keep s.sl,s.hp,s.nx⟩ a w:=by
 obtain⟨hd,κ,h1,h2⟩:=h
 refine⟨hd,κ,h1,⟨h2.size,fun t d ht=>?_,h2.fx⟩⟩
 simp only[QPF] at ht
 split at ht
 ·exact h2.sl t d ht
 ·cases ht
theorem At.norm{B:Base}{s:St}{a:Act}{w:World}{keep:List Nat}(h:At B s a w):At B (norm keep s) a w:=by
 obtain⟨hd,κ,h1,h2⟩:=h
 obtain⟨κ',g1,g2⟩:=QQ2 h1 h2 keep
 exact⟨hd,κ',g1,g2⟩
theorem QQ4{o:Option D}{p q:Prop}(hb:J7 o p q):∃c:Bool,o=some (.bool c)∧(c=true→p)∧(c=false→q):=by
 unfold J7 at hb
 split at hb
 ·exact⟨_,rfl,hb.1,hb.2⟩
 ·exact hb.elim
theorem QaY{P:Program}{B:Base}{H:Hints}(hmx:P.follows .mixedOrders=true)(hfx:B.fx=H.fx):
  ∀(c:Code)(lc:LC),cC P H B.N c=some lc→∀(Qa:LX→St→Prop)(Q:Exit→Act→World→Prop)(s:St)(a:Act)(w:World),
   At B s a w→W P lc Qa s→(∀e s' a' w',Qa e s'→At B s' a' w'→Q (Qoj e) a' w')→c.wp P Q a w
 | .skip,lc,hc,Qa,Q,s,a,w,hat,hw,hQ=>by
  simp only[cC,Qb] at hc
  subst hc
  simp only[W] at hw
  exact wp_skip (hQ _ _ _ _ hw hat)
 | .ret,lc,hc,Qa,Q,s,a,w,hat,hw,hQ=>by
  simp only[cC,Qb] at hc
  subst hc
  simp only[W] at hw
  exact wp_ret (hQ _ _ _ _ hw hat)
 | .exit id,lc,hc,Qa,Q,s,a,w,hat,hw,hQ=>by
  simp only[cC,Qb] at hc
  subst hc
  simp only[W] at hw
  exact wp_exit (hQ _ _ _ _ hw hat)
 | .seq x y,lc,hc,Qa,Q,s,a,w,hat,hw,hQ=>by
  simp only[cC] at hc
  split at hc
  case h_2=>cases hc
  rename_i lx ly hx hy
  simp only[Qb] at hc
  subst hc
  simp only[W] at hw
  refine wp_seq (QaY hmx hfx x lx hx _ _ s a w hat hw fun e s' a' w' he hat'=>?_)
  cases e with
  |normal=>exact QaY hmx hfx y ly hy _ _ s' a' w' hat' he hQ
  |exit id=>exact hQ _ _ _ _ he hat'
  |ret=>exact hQ _ _ _ _ he hat'
 | .region id ops draw,lc,hc,Qa,Q,s,a,w,hat,hw,hQ=>by
  simp only[cC] at hc
  split at hc
  case h_2=>cases hc
  rename_i l hl
  obtain⟨hd,κ,h1,h2⟩:=hat
  cases draw with
  |false=>
   simp only[Bool.false_eq_true,if_false,Qb] at hc
   subst hc
   simp only[W] at hw
   refine wp_region_list (QnQ hfx hl h1 h2 hw fun κ' s' a' w' hK hR hS hN hD=>?_)
   exact hQ .normal _ _ _ hK (At.fil ⟨hD.trans hd,κ',hR,hS⟩)
  |true=>
   simp only[if_true,Qm] at hc
   obtain⟨cs,hcs,rfl⟩:=hc
   simp only[W] at hw
   refine QTk hmx hfx hl hcs h1 h2 hw fun κ' s' a' w' hK hR hS hN hD=>?_
   exact hQ .normal _ _ _ hK (At.fil ⟨hD.trans hd,κ',hR,hS⟩)
 | .cond c x y,lc,hc,Qa,Q,s,a,w,hat,hw,hQ=>by
  simp only[cC] at hc
  split at hc
  case h_2=>cases hc
  rename_i lc' lx ly hcx hx hy
  simp only[Qb] at hc
  subst hc
  simp only[W] at hw
  obtain⟨t,ht,g1,g2⟩:=QQ4 hw
  obtain⟨hd,κ,h1,h2⟩:=hat
  have hev:=XD (df:=a.defers) h2 hcx ht
  simp only[MR] at hev
  refine wp_cond_split hev (fun ht=>?_) (fun ht=>?_)
  ·exact QaY hmx hfx x lx hx _ _ s a w ⟨hd,κ,h1,h2⟩ (g1 ht) hQ
  ·exact QaY hmx hfx y ly hy _ _ s a w ⟨hd,κ,h1,h2⟩ (g2 ht) hQ
 | .block id x,lc,hc,Qa,Q,s,a,w,hat,hw,hQ=>by
  simp only[cC,Qm] at hc
  obtain⟨lx,hx,rfl⟩:=hc
  simp only[W] at hw
  refine wp_block (QaY hmx hfx x lx hx _ _ s a w hat hw fun e s' a' w' he hat'=>?_)
  cases e with
  |normal=>exact hQ .normal _ _ _ he hat'
  |exit i=>
   simp only[LX.blk] at he
   simp only[Qoj,Exit.inBlock]
   split
   ·rename_i hi;rw[if_pos hi] at he;exact hQ .normal _ _ _ he hat'
   ·rename_i hi;rw[if_neg hi] at he;exact hQ (.exit i) _ _ _ he hat'
  |ret=>exact hQ .ret _ _ _ he hat'
 | .loop x,lc,hc,Qa,Q,s,a,w,hat,hw,hQ=>by
  simp only[cC,Qm] at hc
  obtain⟨lx,hx,rfl⟩:=hc
  simp only[W] at hw
  obtain⟨I,⟨m,hm⟩,hI⟩:=hw
  refine QQ3 (m:=m) (fun m a w=>∃s,I m s∧At B s a w) ⟨_,hm,hat.norm⟩ ?_
  rintro m a w ⟨s,hs,hat⟩
  refine QaY hmx hfx x lx hx _ _ s a w hat (hI m s hs) fun e s' a' w' he hat'=>?_
  cases e with
  |normal=>
   obtain⟨m',hlt,hm'⟩:=he
   exact⟨m',hlt,_,hm',hat'.norm⟩
  |exit i=>exact hQ (.exit i) _ _ _ he hat'
  |ret=>exact hQ .ret _ _ _ he hat'
 | .label _,lc,hc,_,_,_,_,_,_,_,_=>by simp [cC] at hc
 | .goto _,lc,hc,_,_,_,_,_,_,_,_=>by simp [cC] at hc
 | .scope _,lc,hc,_,_,_,_,_,_,_,_=>by simp [cC] at hc
 | .rangeFunc ..,lc,hc,_,_,_,_,_,_,_,_=>by simp [cC] at hc
 | .refuse _,lc,hc,_,_,_,_,_,_,_,_=>by simp [cC] at hc
section
variable {P:Program} {B:Base} {κ:Nat→Option KI} {hp0 hp hp' hp'':Hp} {F:Nat→Prop} {w:World} {d e:D} {v:Value}
theorem Qok:∀(ds:List D)(t n:Nat),(ZD t n ds).2=(Xj Xg n ds).2∧∀s d,lk (ZD t n ds).1 s=some d→∃i,s=t+i∧(Xj Xg n ds).1[i]?=some d
 |[],t,n=>by simp [ZD,Xj,lk]
 |d::ds,t,n=>by
  obtain⟨h1,h2⟩:=Qok ds (t+1) (Xg n d).2.2
  simp only[ZD,Xj]
  refine⟨by rw[h1],fun s d' hl=>?_⟩
  simp only[lk] at hl
  split at hl
  ·rename_i hst
   simp only[Qb] at hl
   exact⟨0,by omega,by simp [hl]⟩
  ·obtain⟨i,g1,g2⟩:=h2 s d' hl
   exact⟨i+1,by omega,by simpa using g2⟩
def JD(P:Program):List ResultVar→Option (List RV)
 |[]=>some []
 | .tmp t::l=>(JD P l).map (.t t::·)
 | .cell a t::l=>match Jl P t,XG P t,JD P l with
  |some ag,some m,some l=>some (.c a ag m::l)
  |_,_,_=>none
def Qab(tm:Array Value):ResultVar→Sem Value
 | .tmp t=>pure (tm.getD t undef)
 | .cell a t=>do loadVar t (←asAddr (tm.getD a undef))
theorem QQ5(fn:Func)(tm:Array Value):results fn tm=(do
  let vs←fn.results.mapM (Qab tm)
  pure (if h:vs.size=1 then vs[0] else .tuple vs)):=rfl
theorem Qgj{N:Nat}{tm:Array Value}{s:St}(hB:B.N=N)(h:RH B κ s.hp F w)(hS:RS B κ s.hp w s.sl tm):∀(l:List ResultVar)(rs:List RV)(ds:List D),JD P l=some rs→Q1 (Jm s) rs=some ds→
  ∃vs,((l.mapM (Qab tm)).run P w=.ok vs w)∧vs.length=l.length∧MRs w (Im B κ s.hp w) κ ds vs
 |[],rs,ds,hr,hd=>by
  simp only[JD,Qb] at hr
  subst hr
  simp only[Q1,Qb] at hd
  subst hd
  exact⟨[],by simp,rfl,by simp [MRs]⟩
 | .tmp t::l,rs,ds,hr,hd=>by
  simp only[JD,Qm] at hr
  obtain⟨rs',hr,rfl⟩:=hr
  simp only[Q1] at hd
  split at hd
  case h_2=>cases hd
  rename_i d ds' h1 h2
  simp only[Qb] at hd
  subst hd
  obtain⟨vs,g1,g2,g3⟩:=Qgj hB h hS l rs' ds' hr h2
  obtain⟨v,hv,hm⟩:=hS.sl t d h1
  refine⟨v::vs,?_,by simp [g2],by simp only[MRs];exact⟨v,vs,rfl,hm,g3⟩⟩
  have:(Qab tm (.tmp t)).run P w=.ok v w:=by simp [Qab,hv]
  rw[List.mapM_cons]
  simp only[Sem.run_bind,this,Result.andThen_ok,g1,Sem.run_pure]
 | .cell a t::l,rs,ds,hr,hd=>by
  simp only[JD] at hr
  split at hr
  case h_2=>cases hr
  rename_i ag m rs' hag hm hr'
  simp only[Qb] at hr
  subst hr
  simp only[Q1] at hd
  split at hd
  case h_2=>cases hd
  rename_i d ds' h1 h2
  simp only[Qb] at hd
  subst hd
  obtain⟨vs,g1,g2,g3⟩:=Qgj hB h hS l rs' ds' hr' h2
  simp only[Jm] at h1
  split at h1
  case h_2=>cases h1
  rename_i id hla
  split at h1
  case h_2=>cases h1
  rename_i cs hlb
  obtain⟨pv,hpv,hpm⟩:=hS.sl a _ hla
  obtain⟨b,cur,ty,k1,k2,k3,k4,k5⟩:=h.box hlb
  simp only[MR,k1,Qb,KI.box.injEq] at hpm
  obtain⟨b',rfl,rfl⟩:=hpm
  obtain⟨q1,q2⟩:=Qce h1
  simp only[Nat.zero_add,List.drop_zero] at q1 q2
  have k5':=(k5.take m).1
  obtain⟨r1,r2⟩:=QfP k5' (fun u hu=>k4 u (QF hu)) q2
  have hlen:(cur.toList.take m).length=m:=by rw[k5'.length];simp;omega
  have hload:=Qni (P:=P) (w:=w) (b:=b) (off:=0) hag hm (us:=cur.toList.take m) (Mem.of_cells k3 (fun j u hj=>by
   rw[List.getElem?_take] at hj
   split at hj
   ·simpa using hj
   ·cases hj)) hlen (fun e=>by rw[←hlen];exact r1 e)
  refine⟨_::vs,?_,by simp [g2],by simp only[MRs];exact⟨_,vs,rfl,r2,g3⟩⟩
  have:(Qab tm (.cell a t)).run P w=.ok (if ag then .agg (cur.toList.take m).toArray else (cur.toList.take m).headD undef) w:=by
   simp only[Qab,Array.getD_eq_getD_getElem?,hpv,Option.getD_some,asAddr,Sem.run_bind,Sem.run_pure,Result.andThen_ok,hload]
  rw[List.mapM_cons]
  simp only[Sem.run_bind,this,Result.andThen_ok,g1,Sem.run_pure]
theorem Qol{I:Nat→Prop}:∀{cs ds:List D}{us:List Value}{os:List Nat},DRs w I (cs++ds) us os→∃u v o o',us=u++v∧os=o++o'∧DRs w I cs u o∧DRs w I ds v o'
 |[],ds,us,os,h=>⟨[],us,[],os,rfl,rfl,by simp [DRs],h⟩
 |c::cs,ds,us,os,h=>by
  simp only[List.cons_append,DRs] at h
  obtain⟨v,vs',o,o',rfl,rfl,h1,h2⟩:=h
  obtain⟨u,z,p,q,rfl,rfl,g1,g2⟩:=Qol h2
  exact⟨v::u,z,o++p,q,rfl,by simp,by simp only[DRs];exact⟨v,u,o,p,rfl,rfl,h1,g1⟩,g2⟩
def Qgk(vs:List Value):Value:=match vs with|[v]=>v|_=>.tuple vs.toArray
theorem QQ6{fn:Func}{tm:Array Value}{vs:List Value}(h:(fn.results.toList.mapM (Qab tm)).run P w=.ok vs w):
  (results fn tm).run P w=.ok (Qgk vs) w:=by
 have e:fn.results.mapM (Qab tm)=List.toArray<$>(fn.results.toList.mapM (Qab tm)):=by
  rw[Array.mapM_eq_mapM_toList]
 rw[QQ5,e]
 simp only[map_eq_pure_bind,Sem.run_bind,h,Result.andThen_ok,Sem.run_pure]
 congr 1
 match vs with
 |[]=>rfl
 |[v]=>rfl
 |_::_::_=>simp [Qgk]
theorem Qom{s:St}{tm:Array Value}(hS:RS B κ s.hp w s.sl tm):∀(l:List Nat),(∀i∈l,(lk s.sl i).isSome=true)→MRs w (Im B κ s.hp w) κ (l.filterMap fun i=>lk s.sl i) (l.map fun i=>tm.getD i undef)
 |[],_=>by simp [MRs]
 |i::l,h=>by
  have hi:=h i (by simp)
  cases hl:lk s.sl i with
  |none=>rw[hl] at hi;cases hi
  |some d=>
   obtain⟨v,hv,hm⟩:=hS.sl i d hl
   simp only[List.filterMap_cons,hl,List.map_cons,MRs]
   exact⟨v,_,by simp [hv],hm,Qom hS l fun j hj=>h j (Qs _ hj)⟩
theorem Qon{s:St}:∀{l:List Nat},l.length≤(l.filterMap fun i=>lk s.sl i).length→∀i∈l,(lk s.sl i).isSome=true
 |[],_,i,hi=>by cases hi
 |j::l,h,i,hi=>by
  rw[List.filterMap_cons] at h
  cases hl:lk s.sl j with
  |none=>
   rw[hl] at h
   have:=List.length_filterMap_le (fun i=>lk s.sl i) l
   simp at h;omega
  |some d=>
   rw[hl] at h
   simp only[List.length_cons] at h
   rcases Qh.1 hi with rfl|hi
   ·rw[hl];rfl
   ·exact Qon (by omega) i hi
theorem Qoo{f:Hp→D→Option (D×Hp)}:∀{ds:List D}{hp hp':Hp}{es:List D},XS f hp ds=some (es,hp')→es.length=ds.length
 |[],_,_,_,h=>by simp only[XS,Qb,Qe] at h;rw[←h.1]
 |d::ds,hp,hp',es,h=>by
  simp only[XS] at h
  split at h
  case h_2=>cases h
  split at h
  case h_2=>cases h
  rename_i h2
  simp only[Qb,Qe] at h
  rw[←h.1,List.length_cons,List.length_cons,Qoo h2]
theorem Qop{f:Nat}{fn:Func}(hf:P.funcs[f]?=some fn)(hnm:(fn.name== "runtime.NumGoroutine")=false){body:Code}(hb:fn.body=some body)(vs:Array Value)(w:World):
  (callFunc f vs).run P w=.ok (.enter f vs) w:=by
 unfold callFunc
 have:¬fn.name= "runtime.NumGoroutine" :=by simpa using hnm
 simp [hf,this,hb]
def Frz(w:World)(I:Nat→Prop)(d':D)(v:Value)(os:List Nat):Prop:=∃o:List Nat,o.Sublist os∧∀J:Nat→Prop,(∀b,I b→J b)→(∀b∈os,b∉o→J b)→DR w J d' v o
theorem Qoq{I:Nat→Prop}{d:D}{v:Value}{os:List Nat}(h:DR w I d v os):Frz w I (ZR d) v os:=by
 have same:ZR d=d→Frz w I (ZR d) v os:=fun e=>by
  rw[e]
  exact⟨os,List.Sublist.refl _,fun J hJ _=>DR.mono ⟨hJ,fun _ _=>rfl⟩ _ _ _ (fun _ _=>rfl) h⟩
 cases d
 case arr sz xs=>
  refine⟨[],List.nil_sublist _,fun J hJ hb=>?_⟩
  simp only[DR] at h
  simp only[ZR,DR]
  refine⟨trivial,h.1,?_⟩
  rcases h.2 with⟨h1,h2,_⟩|⟨b,cap,cur,e,us,h1,h2,h3,h4,h5,h6,h7,h8⟩
  ·exact .inl ⟨⟨_,h1⟩,h2⟩
  ·exact .inr ⟨b,0,cap,us,h1,h4,h5,hb b (by rw[h2];simp) (by simp),h7,PE.mono ⟨hJ,fun _ _=>rfl⟩ _ _ _ h8⟩
 all_goals exact same rfl
theorem Qgl{f:D→D}{I:Nat→Prop}(hf:∀{d v os},os.Nodup→DR w I d v os→Frz w I (f d) v os):∀{ds:List D}{vs:List Value}{os:List Nat},os.Nodup→DRs w I ds vs os→
  ∃o:List Nat,o.Sublist os∧∀J:Nat→Prop,(∀b,I b→J b)→(∀b∈os,b∉o→J b)→DRs w J (ds.map f) vs o
 |[],vs,os,nd,h=>by
  simp only[DRs] at h
  obtain⟨rfl,rfl⟩:=h
  exact⟨[],List.Sublist.refl _,fun J _ _=>by simp [DRs]⟩
 |d::ds,vs,os,nd,h=>by
  simp only[DRs] at h
  obtain⟨v,vs',o,o',rfl,rfl,h1,h2⟩:=h
  obtain⟨n1,n2,n3⟩:=QM.1 nd
  obtain⟨p,q1,q2⟩:=hf n1 h1
  obtain⟨p',q3,q4⟩:=Qgl hf n2 h2
  refine⟨p++p',q1.append q3,fun J hJ hb=>?_⟩
  simp only[List.map_cons,DRs]
  refine⟨v,vs',p,p',rfl,rfl,q2 J hJ fun b hbo hbp=>hb b (List.mem_append_left _ hbo) fun hm=>?_,q4 J hJ fun b hbo hbp=>hb b (List.mem_append_right _ hbo) fun hm=>?_⟩
  ·rcases Qg.1 hm with hm|hm
   ·exact hbp hm
   ·exact n3 b hbo b (q3.subset hm) rfl
  ·rcases Qg.1 hm with hm|hm
   ·exact n3 b (q1.subset hm) b hbo rfl
   ·exact hbp hm
theorem Qor{I:Nat→Prop}{d:D}{v:Value}{os:List Nat}(nd:os.Nodup)(h:DR w I d v os):Frz w I (Jn d) v os:=by
 cases d
 case agg cs=>
  simp only[DR] at h
  obtain⟨vs,h1,h2,h3⟩:=h
  obtain⟨o,q1,q2⟩:=Qgl (f:=ZR) (fun _ h=>Qoq h) nd h3
  exact⟨o,q1,fun J hJ hb=>by simp only[Jn,DR];exact⟨vs,h1,h2,q2 J hJ hb⟩⟩
 all_goals exact Qoq h
theorem QQ7{I:Nat→Prop}{d:D}{v:Value}{os:List Nat}(nd:os.Nodup)(h:DR w I d v os):Frz w I (frz d) v os:=by
 cases d
 case tup ds=>
  simp only[DR] at h
  obtain⟨vs,h1,h3⟩:=h
  obtain⟨o,q1,q2⟩:=Qgl (f:=Jn) (fun nd h=>Qor nd h) nd h3
  exact⟨o,q1,fun J hJ hb=>by simp only[frz,DR];exact⟨vs,h1,q2 J hJ hb⟩⟩
 all_goals exact Qor nd h
theorem QQ8{J0:Nat→Prop}{r:D}{v:Value}{ds:List D}{vs:List Value}{os:List Nat}(nd:os.Nodup)(h:DRs w (fun b=>J0 b∧b∉os∧b<w.heap.size) (r::ds) (v::vs) os)(ho:∀b∈os,J0 b∧b<w.heap.size):
  ∃o:List Nat,o.Sublist os∧DRs w (fun b=>J0 b∧b∉o∧b<w.heap.size) (frz r::ds) (v::vs) o:=by
 simp only[DRs] at h
 obtain⟨v',vs',o1,o2,he,rfl,h1,h2⟩:=h
 simp only[List.cons.injEq] at he
 obtain⟨rfl,rfl⟩:=he
 obtain⟨n1,n2,n3⟩:=QM.1 nd
 obtain⟨p,q1,q2⟩:=QQ7 n1 h1
 have hs:(p++o2).Sublist (o1++o2):=q1.append (List.Sublist.refl _)
 have hJ:∀b,(J0 b∧b∉o1++o2∧b<w.heap.size)→(J0 b∧b∉p++o2∧b<w.heap.size):=fun b ⟨a1,a2,a3⟩=>⟨a1,fun hm=>a2 (hs.subset hm),a3⟩
 refine⟨p++o2,hs,?_⟩
 simp only[DRs]
 refine⟨v,vs,p,o2,rfl,rfl,q2 _ hJ fun b hb hp=>⟨(ho b (List.mem_append_left _ hb)).1,fun hm=>?_,(ho b (List.mem_append_left _ hb)).2⟩,DRs.mono ⟨hJ,fun _ _=>rfl⟩ _ _ _ (fun _ _=>rfl) h2⟩
 rcases Qg.1 hm with hm|hm
 ·exact hp hm
 ·exact n3 b hb b hm rfl
theorem FC.of{f:Nat}{fn:Func}{body:Code}{lc:LC}{rs:List RV}{outs:List Nat}{args:List D}{r:D}{os':qSl}{H:Hints}
  (hf:P.funcs[f]?=some fn) (hnm:(fn.name== "runtime.NumGoroutine")=false) (hb:fn.body=some body) (hmx:P.follows .mixedOrders=true) (hfx:H.fx=outs) (hc:cC P H fn.ntmps body=some lc)
  (hrs:JD P fn.results.toList=some rs) (hN:args.length≤fn.ntmps) (hout:∀i∈outs,i<args.length) (hok:args.all XH=true)
  (hW:W P lc (Qdn rs outs r os') (init args)):FC P f args r os':=by
 refine⟨Qop hf hnm hb,fun w I vs os hI hnd hos hdr=>?_⟩
 let B:Base:=⟨w,I,os,fn.ntmps,outs,vs⟩
 obtain⟨κ,ht,hm,hfr⟩:=Qav Xg XH (fun n κ d v os ho h hf=>QfW ho h hf) args 0 (fun _=>none) vs os hok hdr (fun _ _=>rfl)
 obtain⟨hi1,hi2⟩:=Qok args 0 0
 have hvl:vs.length=args.length:=hdr.length
 have hhp:(init args).hp=(Xj Xg 0 args).2.1:=by simp only[init,hi1]
 have hnx:(init args).nx=(Xj Xg 0 args).2.2:=by simp only[init,hi1]
 have hob:∀id b,OB κ (Xj Xg 0 args).2.1 w id b→b∈os∧∃e,(id,e)∈(Xj Xg 0 args).2.1∧(κ id).bind KI.blk=some b:=by
  rintro id b ⟨e,k,h1,h2,h3,h4⟩
  have hb:(κ id).bind KI.blk=some b:=by rw[h3];exact h4.own1 (ht.owned _ (J9 h1))
  exact⟨by rw[←ht.blks];exact List.mem_filterMap.2 ⟨(id,e),J9 h1,hb⟩,e,J9 h1,hb⟩
 have hIm:∀b,I b→Im B κ (Xj Xg 0 args).2.1 w b:=fun b hb=>⟨.inl hb,(hI b hb).1,fun⟨id,ho⟩=>(hI b hb).2 (hob id b ho).1⟩
 have hkeep:Keep w w I (Im B κ (Xj Xg 0 args).2.1 w):=⟨hIm,fun _ _=>rfl⟩
 have hR:RH B κ (init args).hp (fun id=>(init args).nx≤id) w:=by
  rw[hhp,hnx]
  refine⟨Stp.refl _ _,hfr,fun id e he=>(ht.ent _ (J9 he)).mono hkeep (fun _ _ h=>h) (fun _ _ _ _ _=>rfl),fun b ⟨id,ho⟩=>?_,fun id id' b h1 h2=>?_⟩
  ·have:=(hob id b ho).1
   exact⟨.inl this,hos b this⟩
  ·obtain⟨_,e1,m1,b1⟩:=hob id b h1
   obtain⟨_,e2,m2,b2⟩:=hob id' b h2
   have:=Qdx (g:=fun p:Nat×Ent=>(κ p.1).bind KI.blk) (l:=(Xj Xg 0 args).2.1) (by have:=ht.blks;unfold blks at this;rw[this];exact hnd) m1 m2 b1 b2
   exact congrArg Prod.fst this
 have hS:RS B κ (init args).hp w (init args).sl (vs.toArray++Array.replicate (fn.ntmps-vs.toArray.size) undef):=by
  have hget:∀(i:Nat)(v:Value),vs[i]?=some v→(vs.toArray++Array.replicate (fn.ntmps-vs.toArray.size) undef)[i]?=some v:=by
   intro i v hv
   have:i<vs.length:=(Qw.1 hv).1
   rw[Array.getElem?_append_left (by simpa using this)]
   simpa using hv
  refine⟨by simp [B];omega,fun t d htd=>?_,fun t htf=>?_⟩
  ·obtain⟨i,rfl,hi⟩:=hi2 t d htd
   obtain⟨v,hv,hmv⟩:=hm.get hi
   refine⟨v,hget _ v (by simpa using hv),?_⟩
   rw[hhp]
   exact hmv.mono hkeep (fun _ _ h=>h)
  ·have h1:=hout t htf
   have h2:t<vs.length:=by omega
   show _=vs[t]?
   rw[Qq h2]
   exact hget t _ (Qq h2)
 refine calls_of_wp hf hb (QaY (B:=B) hmx (by rw[hfx]) body lc hc _ _ (init args) _ w ⟨rfl,κ,hR,hS⟩ hW ?_)
 intro e s a w' hdone hat
 obtain⟨hdf,κ',hR',hS'⟩:=hat
 obtain⟨ids,r',hdone,hr'⟩:=hdone
 obtain⟨hR',hN'⟩:=hR'.freezes ids
 replace hS':=hS'.next hN'
 clear hN'
 replace hR':RH B κ' (St.hp ⟨s.sl,Xd ids s.hp,s.nx⟩) (fun id=>(St.nx ⟨s.sl,Xd ids s.hp,s.nx⟩)≤id) w':=hR'
 replace hS':RS B κ' (St.hp ⟨s.sl,Xd ids s.hp,s.nx⟩) w' (St.sl ⟨s.sl,Xd ids s.hp,s.nx⟩) a.tmps:=hS'
 generalize (⟨s.sl,Xd ids s.hp,s.nx⟩:St)=s at*
 have fin:fin s rs outs=some (r',os')→bodyPost P fn (fun e w'=>∃v' os'',e=.returned v'∧Stp (·∈os) w w'∧os''.Nodup∧(∀b∈os'',(b∈os∨w.heap.size≤b)∧b<w'.heap.size)∧
   DRs w' (fun b=>(I b∨b∈os∨w.heap.size≤b)∧b∉os''∧b<w'.heap.size) (r::os'.map (·.2)) (v'::os'.map (fun o=>vs.getD o.1 undef)) os'') .ret a w':=by
  intro hfin
  unfold Am.fin at hfin
  split at hfin
  case h_2=>cases hfin
  rename_i ds hds
  split at hfin
  case h_2=>cases hfin
  rename_i l hpl hex
  split at hfin
  case isFalse=>cases hfin
  rename_i hlen
  simp only[Qb,Qe] at hfin
  obtain⟨hr,ho⟩:=hfin
  obtain⟨rvs,hrun,hrl,hrm⟩:=Qgj rfl hR' hS' _ _ _ hrs hds
  have hres:=QQ6 hrun
  have hel:=Qoo hex
  rw[Ql] at hel
  have hsome:=Qon (s:=s) (l:=outs) (by omega)
  have hom:=Qom hS' outs hsome
  have hall:=Qf3 hrm hom
  obtain⟨os'',hdr',hg⟩:=Qbw hR' Xx (fun hp hp' d e v hs hd he=>QnB hR' hs hd he) _ _ _ _ _ Sub.refl hall hex
  have hsplit:l=l.take ds.length++l.drop ds.length:=(List.take_append_drop _ _).symm
  have hdl:ds.length=rvs.length:=hrm.length.symm
  rw[hsplit] at hdr'
  obtain⟨u,z,o1,o2,huz,rfl,hd1,hd2⟩:=Qol hdr'
  have hul:u.length=rvs.length:=by
   rw[hd1.length,Qj];omega
  obtain⟨rfl,rfl⟩:=List.append_inj huz hul.symm
  have hown:∀b∈o1++o2,(b∈os∨w.heap.size≤b)∧b<w'.heap.size:=fun b hb=>let ⟨id,h,_⟩:=hg.own b hb;hR'.own b ⟨id,h⟩
  have hk:Keep w' w' (Im B κ' s.hp w') (fun b=>(I b∨b∈os∨w.heap.size≤b)∧b∉o1++o2∧b<w'.heap.size):=
   ⟨fun b ⟨h1,h2,h3⟩=>⟨h1,fun hb=>let ⟨id,h,_⟩:=hg.own b hb;h3 ⟨id,h⟩,h2⟩,fun _ _=>rfl⟩
  suffices hb:DRs w' (fun b=>(I b∨b∈os∨w.heap.size≤b)∧b∉o1++o2∧b<w'.heap.size) (r'::os'.map (·.2)) (Qgk rvs::os'.map (fun o=>vs.getD o.1 undef)) (o1++o2) by
   rcases hr' with rfl|rfl
   ·exact⟨hdf,_,hres,_,o1++o2,rfl,hR'.stp,hg.nd,hown,hb⟩
   ·obtain⟨o,q1,q2⟩:=QQ8 hg.nd hb fun b hb=>⟨.inr (hown b hb).1,(hown b hb).2⟩
    exact⟨hdf,_,hres,_,o,rfl,hR'.stp,q1.nodup hg.nd,fun b hb=>hown b (q1.subset hb),q2⟩
  simp only[DRs]
  have hd1':=DRs.mono hk _ _ _ (fun _ _=>rfl) hd1
  have hd2':=DRs.mono hk _ _ _ (fun _ _=>rfl) hd2
  refine⟨_,_,o1,o2,rfl,rfl,?_,?_⟩
  ·rw[←hr]
   have htl:(l.take ds.length).length=rvs.length:=hd1.length.symm
   generalize hL:l.take ds.length=L at hd1' htl ⊢
   match L,rvs,htl,hd1' with
   |[],[],_,h=>simp only[DR];exact⟨_,rfl,h⟩
   |[d],[v],_,h=>
    simp only[DRs] at h
    obtain⟨v0,vs0,p,q,h1,h2,h3,h4,h5⟩:=h
    simp only[List.cons.injEq] at h1
    obtain⟨rfl,rfl⟩:=h1
    subst h5
    rw[List.append_nil] at h2
    subst h2
    exact h3
   |d1::d2::L,v1::v2::rvs,_,h=>simp only[DR];exact⟨_,rfl,h⟩
  ·rw[←ho]
   have hdl2:(l.drop ds.length).length=outs.length:=by rw[List.length_drop];omega
   have e1:(outs.zip (l.drop ds.length)).map (·.2)=l.drop ds.length:=by
    rw[List.map_snd_zip];omega
   have e2:(outs.zip (l.drop ds.length)).map (fun o=>vs.getD o.1 undef)=outs.map (fun i=>a.tmps.getD i undef):=by
    have:(outs.zip (l.drop ds.length)).map (fun o=>vs.getD o.1 undef)=((outs.zip (l.drop ds.length)).map (·.1)).map fun i=>vs.getD i undef:=by rw[List.map_map];rfl
    rw[this,List.map_fst_zip (by omega)]
    refine List.map_congr_left fun i hi=>?_
    have:=hS'.fx i hi
    simp only[B] at this
    simp only[Array.getD_eq_getD_getElem?,List.getD_eq_getElem?_getD,this]
   rw[e1,e2]
   exact hd2'
 cases e with
 |normal=>exact fin hdone
 |exit id=>exact hdone.elim
 |ret=>exact fin hdone
end
end Go.Am
