/- Conditions: what the program's search finds. Plain. -/
import Derived.Test.YtgllpjliaepbdaaGreatSpPa
import Derived.Test.YtgllpjliaepbdaaGreatSpPb
import Derived.Test.YtgllpjliaepbdaaGreatSpPc
import Derived.Test.YtgllpjliaepbdaaGreatSpPd
import Derived.Test.YtgllpjliaepbdaaGreatSpPe
import Derived.Test.YtgllpjliaepbdaaGreatSpPf
import Derived.Test.YtgllpjliaepbdaaGreatSpPg
import Derived.Test.YtgllpjliaepbdaaGreatSpPh
import Derived.Test.YtgllpjliaepbdaaGreatSpPi
import Derived.Test.YtgllpjliaepbdaaGreatSpPj
import Derived.Test.YtgllpjliaepbdaaGreatAmBs
namespace Go.Am
open Go
set_option linter.unusedVariables false
set_option linter.unusedSimpArgs false
mutual
def XA(x:G):Cnd→Mo→Bool
 | .tt,_=>true
 | .no c,h=>!XA x c h
 | .an l,h=>Qbh x l h
 | .or l,h=>Qbi x l h
 | .ex m p c,h=>(exN x p (Yv p.e.length m.e h.e) (fun q=>XA x c q) p.n.length 0 (Yv p.n.length m.n h.n)).isSome
def Qbh(x:G):List Cnd→Mo→Bool
 |[],_=>true
 |c::l,h=>XA x c h&&Qbh x l h
def Qbi(x:G):List Cnd→Mo→Bool
 |[],_=>false
 |c::l,h=>XA x c h||Qbi x l h
end
section
theorem QLd{x:G}{h:Mo}:∀{l:List Cnd},Qbh x l h=l.all fun c=>XA x c h
 |[]=>rfl
 |c::l=>by rw[Qbh,List.all_cons,QLd]
theorem QLe{x:G}{h:Mo}:∀{l:List Cnd},Qbi x l h=l.any fun c=>XA x c h
 |[]=>rfl
 |c::l=>by rw[Qbi,List.any_cons,QLe]
theorem QLf{β:Type}{n:Nat}{f:Nat→Option β}:(Jj n f).isSome=true↔∃z,z<n∧(f z).isSome=true:=by
 constructor
 ·intro h
  obtain⟨x,hx⟩:=Option.isSome_iff_exists.1 h
  obtain⟨z,hz,e⟩:=QZC hx
  exact⟨z,hz,by rw[e];rfl⟩
 ·rintro⟨z,hz,h⟩
  cases c:Jj n f with
  |some _=>rfl
  |none=>rw[fst_none.1 c z hz] at h;cases h
def Qc8(n:Nat)(l l':List Int):Prop:=∀j:Nat,j<n→0≤gt l (j:Int)→gt l' (j:Int)=gt l (j:Int)
theorem Qmh{g p:G}{N:List Int}{acc:Mo→Bool}(vp:QX p=0)(vg:QX g=0)(hN:∀j:Nat,j<p.n.length→0≤gt N (j:Int)):∀(k i:Nat)(E:List Int),i+k=p.e.length→OvOk g p N E→(∀j:Nat,j<i→0≤gt E (j:Int))→
  ((exE g p N acc k i E).isSome=true↔∃E',Qc8 p.e.length E E'∧Emb p g ⟨N,E'⟩∧acc ⟨N,E'⟩=true)
 |0,i,E,hk,ho,hE=>by
  rw[exE]
  constructor
  ·intro h
   by_cases c:acc ⟨N,E⟩=true
   ·exact⟨E,fun _ _ _=>rfl,QLc vp vg ho hN (fun j hj=>hE j (by omega)),c⟩
   ·rw[if_neg c] at h;cases h
  ·rintro⟨E',h1,h2,h3⟩
   have:E'=E:=Yd (by have:=h2.ok.le;have:=ho.le;simp only at*;omega) fun j hj=>by
    have hj:j<p.e.length:=by have:=h2.ok.le;simp only at*;omega
    exact h1 j hj (hE j (by omega))
   subst this
   rw[if_pos h3]
   rfl
 |k+1,i,E,hk,ho,hE=>by
  rw[exE]
  by_cases c:0≤gt E (i:Int)
  ·rw[if_pos c]
   exact Qmh vp vg hN k (i+1) E (by omega) ho fun j hj=>by
    by_cases x:j=i
    ·subst x;exact c
    ·exact hE j (by omega)
  ·rw[if_neg c,QLf]
   have l2:=ho.le
   have hm:=ho.neg (by omega) c
   have hst:∀z:Nat,z<g.e.length→JL g p N E i z=true→_:=fun z hz hx=>Qmh (acc:=acc) vp vg hN k (i+1) (E.set i z) (by omega) (ho.setE (by omega) hz hx) (fun j hj=>by
     rw[Y2 (by omega)]
     split
     ·omega
     ·exact hE j (by omega))
   constructor
   ·rintro⟨z,hz,h⟩
    by_cases hx:JL g p N E i z=true
    ·rw[if_pos hx] at h
     obtain⟨E',h1,h2,h3⟩:=(hst z hz hx).1 h
     refine⟨E',fun j hj h0=>?_,h2,h3⟩
     have hji:i≠j:=fun e=>by subst e;omega
     have:=h1 j hj (by rw[Y2 (by omega),if_neg hji];exact h0)
     rwa [Y2 (by omega),if_neg hji] at this
    ·rw[if_neg hx] at h;cases h
   ·rintro⟨E',h1,h2,h3⟩
    obtain⟨b1,b2⟩:=h2.ok.ed i (by omega)
    simp only at b1 b2
    obtain⟨z,hz,ez⟩:=gtI b1
    rw[ez] at b2
    have hx:JL g p N E i z=true:=by
     rw[okXe_spec]
     refine⟨?_,fun hmem=>?_⟩
     ·rw[Ym,Qe6]
      exact⟨b2.1.symm,b2.2.1.symm,b2.2.2.symm⟩
     ·obtain⟨j,hj,ej⟩:=X2 hmem
      have:=h1 j (by omega) (by omega)
      have:=h2.je i j (by omega) (by omega) (by simp only;omega)
      subst this
      omega
    refine⟨z,hz,?_⟩
    rw[if_pos hx]
    refine (hst z hz hx).2 ⟨E',fun j hj h0=>?_,h2,h3⟩
    rw[Y2 (by omega)] at h0 ⊢
    split
    ·rename_i e;subst e;exact ez
    ·rename_i e;rw[if_neg e] at h0;exact h1 j hj h0
theorem Qmi{g p:G}{E:List Int}{acc:Mo→Bool}(vp:QX p=0)(vg:QX g=0):∀(k i:Nat)(N:List Int),i+k=p.n.length→OvOk g p N E→(∀j:Nat,j<i→0≤gt N (j:Int))→
  ((exN g p E acc k i N).isSome=true↔∃q:Mo,Qc8 p.n.length N q.n∧Qc8 p.e.length E q.e∧Emb p g q∧acc q=true)
 |0,i,N,hk,ho,hN=>by
  rw[exN,Option.isSome_map,Qmh vp vg (fun j hj=>hN j (by omega)) p.e.length 0 E (by omega) ho (fun j hj=>by omega)]
  constructor
  ·rintro⟨E',h1,h2,h3⟩
   exact⟨⟨N,E'⟩,fun _ _ _=>rfl,h1,h2,h3⟩
  ·rintro⟨⟨qn,qe⟩,h0,h1,h2,h3⟩
   have:qn=N:=Yd (by have:=h2.ok.ln;have:=ho.ln;simp only at*;omega) fun j hj=>by
    have hj:j<p.n.length:=by have:=h2.ok.ln;simp only at*;omega
    exact h0 j hj (hN j (by omega))
   subst this
   exact⟨qe,h1,h2,h3⟩
 |k+1,i,N,hk,ho,hN=>by
  rw[exN]
  by_cases c:0≤gt N (i:Int)
  ·rw[if_pos c]
   exact Qmi vp vg k (i+1) N (by omega) ho fun j hj=>by
    by_cases x:j=i
    ·subst x;exact c
    ·exact hN j (by omega)
  ·rw[if_neg c,QLf]
   have l2:=ho.ln
   have hm:=ho.negN (by omega) c
   have hst:∀z:Nat,z<g.n.length→JM g p N i z=true→_:=fun z hz hx=>Qmi (acc:=acc) vp vg k (i+1) (N.set i z) (by omega) (ho.setN vp vg (by omega) hm hz hx) (fun j hj=>by
     rw[Y2 (by omega)]
     split
     ·omega
     ·exact hN j (by omega))
   constructor
   ·rintro⟨z,hz,h⟩
    by_cases hx:JM g p N i z=true
    ·rw[if_pos hx] at h
     obtain⟨q,h1,h1',h2,h3⟩:=(hst z hz hx).1 h
     refine⟨q,fun j hj h0=>?_,h1',h2,h3⟩
     have hji:i≠j:=fun e=>by subst e;omega
     have:=h1 j hj (by rw[Y2 (by omega),if_neg hji];exact h0)
     rwa [Y2 (by omega),if_neg hji] at this
    ·rw[if_neg hx] at h;cases h
   ·rintro⟨q,h1,h1',h2,h3⟩
    obtain⟨b1,b2⟩:=h2.ok.nd i (by omega)
    obtain⟨z,hz,ez⟩:=gtI b1
    rw[ez] at b2
    have hx:JM g p N i z=true:=by
     simp only[JM,Qi,Qk,Bool.not_eq_true',QE]
     refine⟨b2,fun hmem=>?_⟩
     obtain⟨j,hj,ej⟩:=X2 hmem
     have:=h1 j (by omega) (by omega)
     have:=h2.jn i j (by omega) (by omega) (by omega)
     subst this
     omega
    refine⟨z,hz,?_⟩
    rw[if_pos hx]
    refine (hst z hz hx).2 ⟨q,fun j hj h0=>?_,h1',h2,h3⟩
    rw[Y2 (by omega)] at h0 ⊢
    split
    ·rename_i e;subst e;exact ez
    ·rename_i e;rw[if_neg e] at h0;exact h1 j hj h0
theorem Qfl(n:Nat)(q m:List Int):(Yv n q m).length=n:=by rw[Yv,Z9,List.length_replicate]
theorem Qfm{n:Nat}{q m:List Int}(hb:∀i:Nat,i<q.length→0≤gt q (i:Int)∧gt q (i:Int)<n)(hj:∀i j:Nat,i<q.length→j<q.length→gt q (i:Int)=gt q (j:Int)→i=j):
  (∀i:Nat,i<q.length→gt (Yv n q m) (gt q (i:Int))=gt m (i:Int))∧∀k:Nat,k<n→(∃i:Nat,i<q.length∧gt q (i:Int)=k)∨gt (Yv n q m) (k:Int)= -1:=by
 refine⟨fun i hi=>QDx (z:=List.replicate n (-1)) (fun i hi=>by rw[List.length_replicate];exact hb i hi) hj i hi,fun k hk=>?_⟩
 by_cases c:∃i:Nat,i<q.length∧gt q (i:Int)=k
 ·exact .inl c
 ·right
  have:∀i,gt (XR m q (List.replicate n (-1)) i) (k:Int)= -1∨q.length<i:=fun i=>by
   induction i with
   |zero=>
    left
    rw[XR,Xc (by simpa using hk)]
    simp
   |succ i ih=>
    rcases ih with ih|ih
    ·by_cases d:i<q.length
     ·left
      rw[XR,Y2 (by rw[Z9,List.length_replicate];exact hk),if_neg,ih]
      intro e
      have:=hb i d
      exact c ⟨i,d,by omega⟩
     ·right;omega
    ·right;omega
  rcases this q.length with h|h
  ·exact h
  ·omega
theorem QLg{a p g:G}{m h:Mo}(hm:Emb a p m)(hh:Emb a g h):OvOk g p (Yv p.n.length m.n h.n) (Yv p.e.length m.e h.e):=by
 have l1:=hm.ok.ln
 have l2:=hm.ok.le
 obtain⟨n1,n2⟩:=Qfm (n:=p.n.length) (q:=m.n) (m:=h.n) (fun i hi=>hm.bn (Bd.of (by omega))) (fun i j hi hj e=>hm.jn i j (by omega) (by omega) e)
 obtain⟨e1,e2⟩:=Qfm (n:=p.e.length) (q:=m.e) (m:=h.e) (fun i hi=>hm.be (Bd.of (by omega))) (fun i j hi hj e=>hm.je i j (by omega) (by omega) e)
 have inj:∀{n:Nat}{q m I:List Int},(∀i:Nat,i<q.length→gt I (gt q (i:Int))=gt m (i:Int))→(∀k:Nat,k<n→(∃i:Nat,i<q.length∧gt q (i:Int)=k)∨gt I (k:Int)= -1)→(∀i j:Nat,i<q.length→j<q.length→gt m (i:Int)=gt m (j:Int)→i=j)→
   ∀i k:Nat,i<n→k<n→0≤gt I (i:Int)→gt I (i:Int)=gt I (k:Int)→i=k:=fun {n q m I} h1 h2 h3 i k hi hk h0 e=>by
  rcases h2 i hi with⟨u,hu,eu⟩|x
  ·rcases h2 k hk with⟨v,hv,ev⟩|x
   ·rw[←eu,←ev,h1 u hu,h1 v hv] at e
    have:=h3 u v hu hv e
    subst this
    omega
   ·omega
  ·omega
 refine⟨Qfl _ _ _,Qfl _ _ _,fun i hi=>?_,inj n1 n2 (fun i j hi hj e=>hh.jn i j (by omega) (by omega) e),fun i hi=>?_,inj e1 e2 (fun i j hi hj e=>hh.je i j (by omega) (by omega) e)⟩
 ·rcases n2 i hi with⟨u,hu,eu⟩|x
  ·right
   rw[←eu,n1 u hu]
   have hu:=Bd.of (n:=a.n.length) (i:=u) (by omega)
   exact⟨hh.bn hu,by rw[hh.tn hu,hm.tn hu]⟩
  ·exact .inl x
 ·rcases e2 i hi with⟨u,hu,eu⟩|x
  ·right
   rw[←eu,e1 u hu]
   have hu:=Bd.of (n:=a.e.length) (i:=u) (by omega)
   obtain⟨t1,t2,t3⟩:=hm.te hu
   obtain⟨s1,s2,s3⟩:=hh.te hu
   obtain⟨d1,d2⟩:=JJ hm.ok.va hu
   refine⟨hh.be hu,?_⟩
   rw[Ym,Qe6]
   simp only
   rw[←t2,←t3]
   obtain⟨x,hx,ex⟩:=d1.nat
   obtain⟨y,hy,ey⟩:=d2.nat
   rw[ex] at s2 ⊢
   rw[ey] at s3 ⊢
   rw[n1 x (by omega),n1 y (by omega)]
   exact⟨by rw[←s1,t1],s2.symm,s3.symm⟩
  ·exact .inl x
theorem QLh{a p g:G}{m h q:Mo}(hm:Emb a p m)(hh:Emb a g h)(hq:Emb p g q):Qc8 p.n.length (Yv p.n.length m.n h.n) q.n∧Qc8 p.e.length (Yv p.e.length m.e h.e) q.e↔QY m q=h:=by
 have l1:=hm.ok.ln
 have l2:=hm.ok.le
 obtain⟨n1,n2⟩:=Qfm (n:=p.n.length) (q:=m.n) (m:=h.n) (fun i hi=>hm.bn (Bd.of (by omega))) (fun i j hi hj e=>hm.jn i j (by omega) (by omega) e)
 obtain⟨e1,e2⟩:=Qfm (n:=p.e.length) (q:=m.e) (m:=h.e) (fun i hi=>hm.be (Bd.of (by omega))) (fun i j hi hj e=>hm.je i j (by omega) (by omega) e)
 have hl1:=hh.ok.ln
 have hl2:=hh.ok.le
 constructor
 ·rintro⟨a1,a2⟩
  refine QvJ hm.ok hl1 hl2 (fun x hx=>?_) (fun x hx=>?_)
  ·obtain⟨i,hi,rfl⟩:=hx.nat
   have h1:=n1 i (by omega)
   obtain⟨k,hk,ek⟩:=(hm.bn hx).nat
   rw[ek] at h1 ⊢
   rw[a1 k hk (by rw[h1];exact (hh.bn hx).1),h1]
  ·obtain⟨i,hi,rfl⟩:=hx.nat
   have h1:=e1 i (by omega)
   obtain⟨k,hk,ek⟩:=(hm.be hx).nat
   rw[ek] at h1 ⊢
   rw[a2 k hk (by rw[h1];exact (hh.be hx).1),h1]
 ·rintro rfl
  refine⟨fun j hj h0=>?_,fun j hj h0=>?_⟩
  ·rcases n2 j hj with⟨u,hu,eu⟩|x
   ·rw[←eu,n1 u hu,Qip (c:=g) hm.ok (Bd.of (by omega))]
   ·omega
  ·rcases e2 j hj with⟨u,hu,eu⟩|x
   ·rw[←eu,e1 u hu,Qiq (c:=g) hm.ok (Bd.of (by omega))]
   ·omega
mutual
theorem Qb9{x:G}:∀(c:Cnd){a:G}{h:Mo},Q3 a c→Emb a x h→(XA x c h=true↔XK x c h)
 | .tt,a,h,_,_=>by simp [XA,XK]
 | .no c,a,h,ho,hh=>by
  simp only[Q3] at ho
  have:=Qb9 c ho hh
  simp only[XA,XK,Bool.not_eq_true',←this,Bool.not_eq_true]
 | .an l,a,h,ho,hh=>by
  simp only[Q3] at ho
  exact (Qmj l ho.2 hh).1
 | .or l,a,h,ho,hh=>by
  simp only[Q3] at ho
  exact (Qmj l ho.2 hh).2
 | .ex m p c,a,h,ho,hh=>by
  simp only[Q3] at ho
  obtain⟨hm,hc⟩:=ho
  simp only[XA,XK]
  rw[Qmi hm.ok.vb hh.ok.vb p.n.length 0 _ (by omega) (QLg hm hh) (fun j hj=>by omega)]
  constructor
  ·rintro⟨q,h1,h2,h3,h4⟩
   exact⟨q,h3,(QLh hm hh h3).1 ⟨h1,h2⟩,(Qb9 c hc h3).1 h4⟩
  ·rintro⟨q,h3,h1,h4⟩
   obtain⟨h1,h2⟩:=(QLh hm hh h3).2 h1
   exact⟨q,h1,h2,h3,(Qb9 c hc h3).2 h4⟩
theorem Qmj{x:G}:∀(l:List Cnd){a:G}{h:Mo},YK a l→Emb a x h→(Qbh x l h=true↔Jb x l h)∧(Qbi x l h=true↔Zw x l h)
 |[],a,h,_,_=>by simp [Qbh,Qbi,Jb,Zw]
 |c::l,a,h,ho,hh=>by
  simp only[YK] at ho
  have h1:=Qb9 c ho.1 hh
  obtain⟨h2,h3⟩:=Qmj l ho.2 hh
  simp only[Qbh,Qbi,Jb,Zw,Qi,Qx,h1,h2,h3,and_self]
end
end
def bhC(s:Spn)(g:G)(q:Mo):Cx:=⟨s.l,g,s.k,q⟩
def bhS(s:Spn)(g:G)(q:Mo):Sp:=⟨ptG s.l s.k,s.r,ptG g (cxR (bhC s g q)).1,s.i,Jz (bhC s g q) (cxR (bhC s g q)).1⟩
def bhR(s:Spn)(g:G)(q:Mo):G×Mo×Bool:=if (cxR (bhC s g q)).2≠0 then (g0,m0,false) else ((poR (bhS s g q)).1,(poR (bhS s g q)).2.1,decide ((poR (bhS s g q)).2.2.2=0))
section
theorem RelG.of{A L C R S X:G}{f g i q h u v:Mo}(bY:BxG A L C S f g q u)(bZ:BxG A R C X i g h v):RelG (Kpr A.n.length f.n i.n) (Kpr A.e.length f.e i.e) L R C S X q h u v:=by
 have key:∀{A L C R S X:Nat}{f g i:List Int}{q h u v:Int→Int},Bx A L C S (gt f) (gt g) q u→Bx A R C X (gt i) (gt g) h v→Rl (Kpr A f i) L R C S X q h u v:=fun {A L C R S X f g i q h u v} y z=>by
  refine⟨y.bh,z.bh,y.bk,z.bk,y.ih,z.ih,y.ik,z.ik,?_,?_,y.cv,z.cv,?_,?_⟩
  ·rintro l r ⟨t,ht,rfl,rfl⟩
   exact⟨y.bf t ht,z.bf t ht⟩
  ·rintro l r ⟨t,ht,rfl,rfl⟩
   exact⟨gt g t,y.bg t ht,(y.cm t ht).symm,(z.cm t ht).symm⟩
  ·intro l d hl hd e
   obtain⟨a,ha,h1,_⟩:=y.mo l d hl hd e
   exact⟨gt i a,a,ha,h1,rfl⟩
  ·intro r d hr hd e
   obtain⟨a,ha,h1,_⟩:=z.mo r d hr hd e
   exact⟨gt f a,a,ha,rfl,h1⟩
 exact⟨bY.eh,bZ.eh,bY.ek,bZ.ek,key bY.bn bZ.bn,key bY.be bZ.be⟩
theorem QLi{s:Spn}{g:G}{q:Mo}(hs:SpnOk s)(hq:Emb s.l g q)(e:(bhR s g q).2.2=true):Emb s.r (bhR s g q).1 (bhR s g q).2.1∧∃D u v,RelG (κN s) (κE s) s.l s.r D g (bhR s g q).1 q (bhR s g q).2.1 u v:=by
 unfold bhR at e ⊢
 split at e
 ·cases e
 ·rename_i h0
  rw[if_neg h0]
  have h0:=Qo.1 h0
  have e1:XE (bhC s g q).l (bhC s g q).g (bhC s g q).m=0:=mok.2 hq.ok
  have e2:Yf (bhC s g q).l (bhC s g q).k=0:=validP_ok.2 hs.k
  have e0:cxE (bhC s g q)=0:=by
   unfold cxE
   rw[if_neg (Qo.2 e1)]
   exact e2
  obtain⟨z1,z2,z3⟩:=(QDv e0).1 h0
  have hP:(cxR (bhC s g q)).1=cxP (bhC s g q):=by
   unfold cxR
   rw[if_neg (by simp [e0]),z1,z2,z3]
   rfl
  have hcx:=QFd (x:=bhC s g q) e0 hq z3
  simp only[Qk] at e
  have hp:Yt (bhS s g q)=0:=by
   unfold poR at e
   split at e
   ·rename_i h;exact h
   ·exact e
  have hr:poR (bhS s g q)=(poG (bhS s g q),poP (bhS s g q),poK (bhS s g q),0):=by unfold poR;rw[if_pos hp]
  rw[hr]
  have hso:=poErr_ok.1 hp
  have eg:Emb (bhS s g q).a (bhS s g q).c (bhS s g q).g:=by
   unfold bhS
   rw[hP]
   exact hcx.eg
  have bZ:=QkQ hso hs.i eg
  refine⟨bZ.eh,ptG g (cxP (bhC s g q)),cxP (bhC s g q),poK (bhS s g q),?_⟩
  unfold bhS at bZ ⊢
  rw[hP] at bZ ⊢
  exact RelG.of hcx bZ
theorem QZF{a:G}{m:Mo}{c:Cnd}{s:Spn}{g:G}{q:Mo}(hs:SpnOk s)(hq:Emb s.l g q)(ho:Q3 a c)(hm:Emb a s.r m)(h1:(sfM c s.r m 0 0).2.2=0)(h2:(lft (shf c s.r m) s).2=0)(e:(bhR s g q).2.2=true):
  XA g (lft (shf c s.r m) s).1 q=XA (bhR s g q).1 c (QY m (bhR s g q).2.1):=by
 rcases QJS ho hm with h|⟨_,_,_,h3,h4⟩
 ·omega
 obtain⟨h5,D,u,v,h6⟩:=QLi hs hq e
 obtain⟨h7,h8⟩:=(Qbc _ s h3 hs).2 h2
 rw[Bool.eq_iff_iff,Qb9 _ h7 hq,Qb9 c ho (hm.comp h5),h8 D g _ q _ u v h6,h4 _ _ h5]
end
attribute [local irreducible] W
def QLj:LL:=[qB 3 0,qB 4 1,qB 5 2,qb 6 false]
def QLk(F:Fn):LL:=[qQp 11 (.mkf (F "aw") [.t 4,.t 5]),qm 7 11]
def QLl(F:Fn):LL:=[qQp 12 (.mkf (F "ak") [.t 4,.t 5]),qm 8 12]
def QLm:LL:=[qf 13 0 3,ql 14 1 13]
def QLn:LL:=[qk .eql 16 14 2,qm 15 16]
def QLo:LL:=[qm 17 8,qf 18 1 3,ql 19 1 18,qQp 20 (.iad 9 (.t 19) (.k (.int .i64 (0)))),qL 21 9 20,qQp 22 (.callv (.t 17) [.t 21]),qm 6 22]
def QLp:LL:=[qk .eql 24 14 3,qm 23 24]
def QLq(F:Fn):LL:=[qf 25 1 3,ql 26 1 25,qm 27 8,qc 28 (F "aO") [.t 26,.t 27],qv 29 28,qm 6 29]
def QLr:LL:=[qk .eql 31 14 4,qm 30 31]
def QLs(F:Fn):LL:=[qf 32 1 3,ql 33 1 32,qm 34 7,qc 35 (F "aO") [.t 33,.t 34],qm 6 35]
def QLt:LL:=[qk .eql 37 14 5,qm 36 37]
def QLu:LL:=[qf 38 4 3,qf 39 0 38,qL 40 2 39,qa 9 [.nl 1,.nl 3],qs 2 9 40]
def QLv(F:Fn):LL:=[qL 41 2 9,qL 42 2 4,qf 43 0 9,ql 44 1 43,qz 45 44,qf 46 2 3,qf 47 0 46,ql 48 1 47,qf 49 0 5,ql 50 1 49,qc 51 (F "aN") [.t 45,.t 48,.t 50],qf 52 1 9,ql 53 1 52,qz 54 53,qf 55 2 3,
 qf 56 1 55,ql 57 1 56,qf 58 1 5,ql 59 1 58,qc 60 (F "aN") [.t 54,.t 57,.t 59],
 qu 61 [.nl 1,.nl 3,.nl 1,.nl 3,.nl 1,.nl 1,.nf] [(0,2,.t 41),(2,2,.t 42),(4,1,.t 51),(5,1,.t 60)],qB 62 61,qm 10 62]
def QLw(F:Fn):LL:=[qm 63 10,qQp 64 (.mkf (F "R") [.t 3,.t 4]),qf 65 0 63,qf 66 6 65,qQn (.stf (.t 66) (.t 64))]
def QLx(F:Fn):LL:=[qm 67 10,qQp 68 (.call (F "g") [.t 67,.k (.int .i64 (0))] [.mp,.rd]),qm 6 68]
def QLy:LL:=[qb 6 true]
def Qmk(F:Fn):LC:=QQ [.reg QLj [3,4,5],.reg (QLk F) [3,4,5,7],.reg (QLl F) [3,4,5,7,8],QQ [.reg QLm [3,4,5,7,8,14],.block 0 (QQ [.reg QLn [3,4,5,7,8,14,15],.cond (.t 15) (QQ [.reg QLo [6],.ret]) (QQ [.reg QLp [3,4,5,7,8,14,23],.cond (.t 23) (QQ [.reg (QLq F) [6],.ret]) (QQ [.reg QLr [3,4,5,7,14,30],.cond (.t 30) (QQ [.reg (QLs F) [6],.ret]) (QQ [.reg QLt [3,4,5,36],.cond (.t 36) (QQ [.reg QLu [3,4,5,9],.dreg [(0,none,[],true),(1,none,[],true),(10,none,[0,1],true),(12,(some 2048),[10],false),(16,(some 49152),[10],false),(18,(some 131072),[10],false),(19,none,[0,1],false)] (QLv F) [3,4,10],.reg (QLw F) [10],.reg (QLx F) [6],.ret]) .skip])])])])],.reg QLy [6],.ret]
def QLz:LL:=[qB 3 0,qb 4 false]
def QLA(F:Fn):LL:=[qL 5 9 3,qL 6 2 1,qL 7 2 2,qc 8 (F "w") [.t 5,.t 6,.t 7],qm 4 8]
def Qml(F:Fn):LC:=QQ [.reg QLz [1,2,3],.reg (QLA F) [4],.ret]
def QLB:LL:=[qB 3 0,qb 4 false]
def QLC(F:Fn):LL:=[qL 5 9 3,qL 6 2 1,qL 7 2 2,qc 8 (F "w") [.t 5,.t 6,.t 7],qv 9 8,qm 4 9]
def Qmm(F:Fn):LC:=QQ [.reg QLB [1,2,3],.reg (QLC F) [4],.ret]
def QLD:LL:=[qB 3 0,qb 4 false]
def QLE(F:Fn):LL:=[qf 5 1 1,ql 6 1 5,qQp 7 (.iad 9 (.t 6) (.k (.int .i64 (0)))),qL 8 9 7,qL 9 2 2,qL 10 2 3,qc 11 (F "w") [.t 8,.t 9,.t 10],qm 4 11]
def Qmn(F:Fn):LC:=QQ [.reg QLD [1,2,3],.dreg [] (QLE F) [4],.ret]
def QLF:LL:=[qB 4 0,qB 5 1,qB 6 2,qB 7 3,qb 8 false,qi 9 0]
def QLG(F:Fn):LL:=[qL 12 2 4,qL 13 2 6,qL 14 2 7,qc 15 (F "aI") [.t 12,.t 13,.t 14],qm 10 15]
def QLH:LL:=[qm 16 10,qk .neq 17 16 0]
def QLI:LL:=[qm 18 10,qb 8 false,qm 9 18]
def QLJ(F:Fn):LL:=[qL 19 2 4,qL 20 9 5,qc 21 (F "l") [.t 19,.t 20],qm 11 21]
def QLK:LL:=[qm 22 11,qk .neq 23 22 0]
def QLL:LL:=[qm 24 11,qb 8 false,qm 9 24]
def QLM(F:Fn):LL:=[qL 25 9 5,qL 26 2 6,qL 27 2 7,qc 28 (F "w") [.t 25,.t 26,.t 27],qm 8 28,qi 9 0]
def Qmo(F:Fn):LC:=QQ [.reg QLF [4,5,6,7],QQ [.reg (QLG F) [4,5,6,7,10],.reg QLH [4,5,6,7,10,17],.cond (.t 17) (QQ [.reg QLI [8,9],.ret]) .skip],QQ [.reg (QLJ F) [5,6,7,11],.reg QLK [5,6,7,11,23],.cond (.t 23) (QQ [.reg QLL [8,9],.ret]) .skip],.reg (QLM F) [8,9],.ret]
def cnL(c:Cnd):List D:=[.int .i64 (Q9 c),.lst 9 (cds (QU c)),.lst 1 (QR (Xn c).n),.lst 1 (QR (Xn c).e),.lst 1 (QR (Xk c).n),.lst 3 (eds (Xk c).e),.lst 4 [],.int .i64 0,.lst 5 []]
attribute [go_sem] QLj QLk QLl QLm QLn QLo QLp QLq QLr QLs QLt QLu QLv QLw QLx QLy Qmk QLz QLA Qml QLB QLC Qmm QLD QLE Qmn QLF QLG QLH QLI QLJ QLK QLL QLM Qmo
section
variable (P:Program) (F:String→Nat)
def Qao(n:Nat):Prop:=∀(c:Cnd)(a x:G)(h:Mo),csz c=n→n≤1000000→Q3 a c→Emb a x h→FC P (F "w") [cnD c,gD x,mD h] (.bool (XA x c h)) []
def Qmp:Prop:=∀n,Qao P F n
def Qmq:Prop:=∀(n:Nat),Qao P F n→∀(c:Cnd)(a x:G)(h:Mo),csz c=n→n≤1000000→Q3 a c→Emb a x h→FC P (F "aw") [cnD c,.ref (gL x),.ref (moL h)] (.bool (XA x c h)) []
def Qmr:Prop:=∀(n:Nat),Qao P F n→∀(c:Cnd)(a x:G)(h:Mo),csz c=n→n≤1000000→Q3 a c→Emb a x h→FC P (F "ak") [cnD c,.ref (gL x),.ref (moL h)] (.bool (!XA x c h)) []
def Qms:Prop:=∀(n:Nat),Qao P F n→∀(m:Mo)(p:G)(c:Cnd)(x:G)(q:Mo),csz c=n→n≤1000000→Q3 p c→Emb p x q→FC P (F "R") [mD q,.ref (cnL (.ex m p c)),.ref (gL x)] (.bool (XA x c q)) []
def Qfn:Prop:=∀(a:G)(c:Cnd)(x:G)(h:Mo),csz c≤1000000→XV c=0→Q3 a c→Emb a x h→FC P (F "j") [gD a,cnD c,gD x,mD h] (.tup [.bool (XA x c h),.int .i64 0]) []
end
section
variable {P:Program} {F:String→Nat} {α:Type}
theorem QZG(n:Nat)(ha:Qao P F n)(c:Cnd)(a x:G)(h:Mo)(hc:csz c=n)(hn:n≤1000000)(ho:Q3 a c)(hh:Emb a x h):W P (Qml F) (Done [.t 4] [] (.bool (XA x c h)) []) (init [cnD c,.ref (gL x),.ref (moL h)]):=by
 refine QZ ?_
 have r:=ha c a x h hc hn ho hh
 rw[Q4] at r ⊢
 generalize XA x c h=R at*
 obtain⟨xn,xe⟩:=x
 obtain⟨hn,he⟩:=h
 simp only[gD,mD,gL,moL] at*
 simp(disch:=omega)only[go_sem]
 refine QT r ?_
 simp(disch:=omega)only[go_sem]
theorem QZH(n:Nat)(ha:Qao P F n)(c:Cnd)(a x:G)(h:Mo)(hc:csz c=n)(hn:n≤1000000)(ho:Q3 a c)(hh:Emb a x h):W P (Qmm F) (Done [.t 4] [] (.bool (!XA x c h)) []) (init [cnD c,.ref (gL x),.ref (moL h)]):=by
 refine QZ ?_
 have r:=ha c a x h hc hn ho hh
 rw[Q4] at r ⊢
 generalize XA x c h=R at*
 obtain⟨xn,xe⟩:=x
 obtain⟨hn,he⟩:=h
 simp only[gD,mD,gL,moL] at*
 simp(disch:=omega)only[go_sem]
 refine QT r ?_
 simp(disch:=omega)only[go_sem]
theorem QZI(n:Nat)(ha:Qao P F n)(m:Mo)(p:G)(c:Cnd)(x:G)(q:Mo)(hc:csz c=n)(hn:n≤1000000)(ho:Q3 p c)(hq:Emb p x q):W P (Qmn F) (Done [.t 4] [] (.bool (XA x c q)) []) (init [mD q,.ref (cnL (.ex m p c)),.ref (gL x)]):=by
 refine QZ ?_
 have r:=ha c p x q hc hn ho hq
 rw[Q4] at r
 have hz:=Qbe (l:=[c]) (by simp)
 have hg:gt [c] 0=c:=rfl
 rw[hg] at hz
 clear ha hc hn ho hq
 generalize XA x c q=R at*
 obtain⟨xn,xe⟩:=x
 obtain⟨qn,qe⟩:=q
 simp only[gD,mD,gL,moL,cnL,Q9,QU,Xn,Xk] at*
 simp(disch:=omega)only[go_sem,hz]
 refine QT r ?_
 simp(disch:=omega)only[go_sem]
theorem QZJ(h1:Qmq P F)(h2:Qmr P F)(h3:Qms P F)(hcf:Qmc P F)(hi:Ql6 P F)(hnd:Qmg P F)(n:Nat)(ih:∀m,m<n→Qao P F m)(c:Cnd)(a x:G)(h:Mo)(hc:csz c=n)(hn:n≤1000000)(ho:Q3 a c)(hh:Emb a x h):
  W P (Qmk F) (Done [.t 6] [] (.bool (XA x c h)) []) (init [cnD c,gD x,mD h]):=by
 refine QZ ?_
 have e1:=JA c
 have hl:=Qal (QU c)
 have hl2:(QU c).length≤QW:=by unfold QW;omega
 have kid:∀k,k∈QU c→csz k<n:=fun k hk=>by
  obtain⟨i,hi,rfl⟩:=X2 hk
  have:=J5 hi
  omega
 have c1:([.ref (gL x),.ref (moL h)]:List D).all Yp=true:=rfl
 cases c with
 |tt=>
  rw[Q4,show XA x .tt h=true by simp only[XA]]
  obtain⟨xn,xe⟩:=x
  obtain⟨hn,he⟩:=h
  simp only[gD,mD,Q9,QU,Xn,Xk,XA] at*
  simp(disch:=omega)only[go_sem,show decide ((1:Int)=2)=false from rfl,show decide ((1:Int)=3)=false from rfl,show decide ((1:Int)=4)=false from rfl,show decide ((1:Int)=5)=false from rfl]
 |no k=>
  simp only[Q3] at ho
  have hk:=kid k (by simp [QU])
  have r:=h2 (csz k) (ih _ hk) k a x h rfl (by omega) ho hh
  rw[Q4] at r ⊢
  have hz:=Qbe (l:=[k]) (by simp)
  have hg:gt [k] 0=k:=rfl
  rw[hg] at hz
  clear ih e1 hl hl2 hc h1 h2 h3 hcf hi hnd kid
  rw[show XA x (.no k) h=!XA x k h by simp only[XA]]
  generalize XA x k h=R at*
  obtain⟨xn,xe⟩:=x
  obtain⟨hn,he⟩:=h
  simp only[gD,mD,gL,moL,Q9,QU,Xn,Xk] at*
  simp(disch:=omega)only[go_sem,show decide ((2:Int)=2)=true from rfl,hz]
  refine QT r ?_
  simp(disch:=omega)only[go_sem]
 |an l=>
  simp only[Q3,Ju] at ho
  have r:=hcf l hl2 (F "ak") [.ref (gL x),.ref (moL h)] c1 (fun k=>!XA x k h) (fun k hk=>by
   have:=kid k hk
   exact h2 (csz k) (ih _ this) k a x h rfl (by omega) (ho.2 k hk) hh)
  have hR:XA x (.an l) h=!(l.any fun k=>!XA x k h):=by
   simp only[XA,QLd]
   rw[List.all_eq_not_any_not]
  rw[hR]
  generalize (l.any fun k=>!XA x k h)=R at*
  rw[Q4]
  clear ih e1 hl hl2 hc h1 h2 h3 hcf hi hnd kid
  obtain⟨xn,xe⟩:=x
  obtain⟨hn,he⟩:=h
  simp only[gD,mD,gL,moL,Q9,QU,Xn,Xk] at*
  simp(disch:=omega)only[go_sem,show decide ((3:Int)=2)=false from rfl,show decide ((3:Int)=3)=true from rfl]
  refine QT r ?_
  simp(disch:=omega)only[go_sem]
 |or l=>
  simp only[Q3,Ju] at ho
  have r:=hcf l hl2 (F "aw") [.ref (gL x),.ref (moL h)] c1 (fun k=>XA x k h) (fun k hk=>by
   have:=kid k hk
   exact h1 (csz k) (ih _ this) k a x h rfl (by omega) (ho.2 k hk) hh)
  have hR:XA x (.or l) h=(l.any fun k=>XA x k h):=by
   simp only[XA,QLe]
  rw[hR]
  generalize (l.any fun k=>XA x k h)=R at*
  rw[Q4]
  clear ih e1 hl hl2 hc h1 h2 h3 hcf hi hnd kid
  obtain⟨xn,xe⟩:=x
  obtain⟨hn,he⟩:=h
  simp only[gD,mD,gL,moL,Q9,QU,Xn,Xk] at*
  simp(disch:=omega)only[go_sem,show decide ((4:Int)=2)=false from rfl,show decide ((4:Int)=3)=false from rfl,show decide ((4:Int)=4)=true from rfl]
  refine QT r ?_
  simp(disch:=omega)only[go_sem]
 |ex m p k=>
  simp only[Q3] at ho
  obtain⟨hm,hk⟩:=ho
  have hkn:=kid k (by simp [QU])
  have l1:=hm.ok.ln
  have l2:=hm.ok.le
  have l3:=hh.ok.ln
  have l4:=hh.ok.le
  obtain⟨v1,v2,_⟩:=Q8 hm.ok.va
  obtain⟨v3,v4,_⟩:=Q8 hm.ok.vb
  have r1:=hi p.n.length m.n h.n (by omega) (by omega) (by omega) (fun i hi=>hm.bn (Bd.of (by omega)))
  have r2:=hi p.e.length m.e h.e (by omega) (by omega) (by omega) (fun i hi=>hm.be (Bd.of (by omega)))
  have r3:FC P (F "g") [exB p x (Yv p.n.length m.n h.n) (Yv p.e.length m.e h.e) (F "R") (cnL (.ex m p k)) (gL x),.int .i64 0] _ _:=
   hnd p.n.length p x (Yv p.n.length m.n h.n) (Yv p.e.length m.e h.e) 0 (F "R") (cnL (.ex m p k)) (gL x) (fun q=>XA x k q) (by omega) (QLg hm hh) hm.ok.vb hh.ok.vb (fun j hj=>by omega)
    (fun q hq=>h3 (csz k) (ih _ hkn) m p k x q rfl (by omega) hk hq)
  have i1:=Qfl p.n.length m.n h.n
  have i2:=Qfl p.e.length m.e h.e
  have hR:XA x (.ex m p k) h=(exN x p (Yv p.e.length m.e h.e) (fun q=>XA x k q) p.n.length 0 (Yv p.n.length m.n h.n)).isSome:=by
   simp only[XA]
  rw[hR,Q4]
  clear ih e1 hl hl2 hc h1 h2 h3 hcf hi hnd kid hR hm hh hk
  generalize exN x p (Yv p.e.length m.e h.e) (fun q=>XA x k q) p.n.length 0 (Yv p.n.length m.n h.n)=R at*
  generalize Yv p.n.length m.n h.n=I at*
  generalize Yv p.e.length m.e h.e=J at*
  obtain⟨xn,xe⟩:=x
  obtain⟨hn,he⟩:=h
  obtain⟨mn,me⟩:=m
  obtain⟨pn,pe⟩:=p
  simp only[gD,mD,gL,moL,cnL,exB,Q9,QU,Xn,Xk] at*
  simp(disch:=omega)only[go_sem,show decide ((5:Int)=2)=false from rfl,show decide ((5:Int)=3)=false from rfl,show decide ((5:Int)=4)=false from rfl,show decide ((5:Int)=5)=true from rfl]
  refine QT r1 ?_
  simp(disch:=omega)only[go_sem]
  refine QT r2 ?_
  simp(disch:=omega)only[go_sem]
  refine QT r3 ?_
  simp(disch:=omega)only[go_sem]
theorem QZK(hj:Qfa P F)(hv:Qc4 P F)(hs:Qmp P F)(a:G)(c:Cnd)(x:G)(h:Mo)(hc:csz c≤1000000)(hL:XV c=0)(ho:Q3 a c)(hh:Emb a x h):W P (Qmo F) (Done [.t 8,.t 9] [] (.tup [.bool (XA x c h),.int .i64 0]) []) (init [gD a,cnD c,gD x,mD h]):=by
 refine QZ ?_
 have r1:=hj a x h hh
 have r2:=hv a c hc hh.ok.va ho
 have r3:=hs (csz c) c a x h rfl hc ho hh
 rw[hL] at r2
 rw[Q4] at r2 r3 ⊢
 generalize XA x c h=R at*
 obtain⟨an,ae⟩:=a
 obtain⟨xn,xe⟩:=x
 obtain⟨hn,he⟩:=h
 simp only[gD,mD] at*
 have d0:decide ((0:Int)=0)=true:=rfl
 simp(disch:=omega)only[go_sem]
 refine QT r1 ?_
 simp(disch:=omega)only[go_sem,d0]
 refine QT r2 ?_
 simp(disch:=omega)only[go_sem,d0]
 refine QT r3 ?_
 simp(disch:=omega)only[go_sem]
end
def QLN:LL:=[qn 2 1]
def QLO(F:Fn):LL:=[qm 4 0,qc 5 (F "a") [.t 4],qm 3 5]
def QLP(F:Fn):LL:=[qm 6 3,qQp 7 (.call (F "aD") [.t 6] [.mu])]
def QLQ:LL:=[qm 8 3,qm 2 8]
def Qmt(F:Fn):LC:=QQ [.reg QLN [0],.reg (QLO F) [3],.reg (QLP F) [3],.reg QLQ [2],.ret]
def QLR:LL:=[qa 0 [.int .i64 (0),.nl 9,.nl 1,.nl 1,.nl 1,.nl 3,.nl 4,.int .i64 (0),.nl 5]]
def QLS(F:Fn):LL:=[qc 1 (F "af") [],qQp 2 (.buildSl 9 184 (.agg [.int .i64 (0),.lst 9 [],.lst 1 [],.lst 1 [],.lst 1 [],.lst 3 [],.lst 4 [],.int .i64 (0),.lst 5 []]) 1 [(0,.t 1)]),
 qu 3 [.int .i64 (0),.nl 9,.nl 1,.nl 1,.nl 1,.nl 3,.nl 4,.int .i64 (0),.nl 5] [(0,1,.k (.int .i64 (2))),(1,1,.t 2)],qs 9 0 3]
def Qfo(F:Fn):LC:=QQ [.reg QLR [0],.reg (QLS F) [0],.ret]
def QZL:Hints:=hOf [] (Qfo fun _=>0)
def QLT:LL:=[qa 0 [.int .i64 (0),.nl 9,.nl 1,.nl 1,.nl 1,.nl 3,.nl 4,.int .i64 (0),.nl 5]]
def QLU:LL:=[qu 1 [.int .i64 (0),.nl 9,.nl 1,.nl 1,.nl 1,.nl 3,.nl 4,.int .i64 (0),.nl 5] [(0,1,.k (.int .i64 (1)))],qs 9 0 1]
def Qfp(F:Fn):LC:=QQ [.reg QLT [0],.reg QLU [0],.ret]
def QZM:Hints:=hOf [] (Qfp fun _=>0)
def QLV:LL:=[qn 4 1]
def QLW:LL:=[qQp 8 (.buildSl 1 8 (.int .i64 (0)) 0 []),qm 5 8]
def QLX:LL:=[qm 9 1,qz 10 9,qi 11 0]
def QLY:LL:=[qo .lss 12 11 10]
def QLZ:LL:=[qd 13 1 9 11,ql 14 1 13,qm 7 14]
def QL0(F:Fn):LL:=[qm 15 5,qm 16 0,qm 17 7,qc 18 (F "p") [.t 16,.t 17],qQp 19 (.buildSl 1 8 (.int .i64 (0)) 1 [(0,.t 18)]),qp 20 1 8 15 19,qm 5 20]
def QL1:LL:=[qk .add 21 11 1,qm 11 21]
def Qmu(F:Fn):LC:=QQ [.reg QLY [0,5,9,10,11,12],.cond (.t 12) .skip (.exit 0),.block 1 (QQ [.reg QLZ [0,5,7,9,10,11],.reg (QL0 F) [0,5,9,10,11]]),.reg QL1 [0,5,9,10,11]]
def QL2:LL:=[qm 22 5,qm 4 22]
def Qmv(F:Fn):LC:=QQ [.reg QLV [0,1],.reg QLW [0,1,5],QQ [.reg QLX [0,5,9,10,11],.block 0 (.loop [0,5,9,10,11] (Qmu F))],.reg QL2 [4],.ret]
def QL3:LL:=[qn 4 1]
def QL4:LL:=[qQp 8 (.buildSl 1 8 (.int .i64 (0)) 0 []),qm 5 8]
def QL5:LL:=[qm 9 1,qz 10 9,qi 11 0]
def QL6:LL:=[qo .lss 12 11 10]
def QL7:LL:=[qd 13 1 9 11,ql 14 1 13,qm 7 14]
def QL8:LL:=[qm 15 5,qm 16 0,qm 17 7,qd 18 1 16 17,ql 19 1 18,qQp 20 (.buildSl 1 8 (.int .i64 (0)) 1 [(0,.t 19)]),qp 21 1 8 15 20,qm 5 21]
def QL9:LL:=[qk .add 22 11 1,qm 11 22]
def Qmw:LC:=QQ [.reg QL6 [0,5,9,10,11,12],.cond (.t 12) .skip (.exit 0),.block 1 (QQ [.reg QL7 [0,5,7,9,10,11],.reg QL8 [0,5,9,10,11]]),.reg QL9 [0,5,9,10,11]]
def QMa:LL:=[qm 23 5,qm 4 23]
def Qmx(F:Fn):LC:=QQ [.reg QL3 [0,1],.reg QL4 [0,1,5],QQ [.reg QL5 [0,5,9,10,11],.block 0 (.loop [0,5,9,10,11] Qmw)],.reg QMa [4],.ret]
def QMb:LL:=[qn 6 1]
def QMc:LL:=[qQp 10 (.buildSl 1 8 (.int .i64 (0)) 0 []),qm 7 10]
def QMd:LL:=[qm 11 0,qz 12 11,qi 13 0]
def QMe:LL:=[qo .lss 14 13 12]
def QMf:LL:=[qd 15 1 11 13,ql 16 1 15,qm 9 16]
def QMg(F:Fn):LL:=[qm 17 7,qm 18 2,qm 19 1,qm 20 9,qc 21 (F "p") [.t 19,.t 20],qd 22 1 18 21,ql 23 1 22,qQp 24 (.buildSl 1 8 (.int .i64 (0)) 1 [(0,.t 23)]),qp 25 1 8 17 24,qm 7 25]
def QMh:LL:=[qk .add 26 13 1,qm 13 26]
def Qmy(F:Fn):LC:=QQ [.reg QMe [1,2,7,11,12,13,14],.cond (.t 14) .skip (.exit 0),.block 1 (QQ [.reg QMf [1,2,7,9,11,12,13],.reg (QMg F) [1,2,7,11,12,13]]),.reg QMh [1,2,7,11,12,13]]
def QMi:LL:=[qm 27 7,qm 6 27]
def Qmz(F:Fn):LC:=QQ [.reg QMb [0,1,2],.reg QMc [0,1,2,7],QQ [.reg QMd [1,2,7,11,12,13],.block 0 (.loop [1,2,7,11,12,13] (Qmy F))],.reg QMi [6],.ret]
def QMj:LL:=[qB 1 0,qi 2 0]
def QMk(F:Fn):LL:=[qf 12 1 1,qf 13 0 12,qL 14 2 13,qc 15 (F "c") [.t 14],qm 3 15]
def QMl:LL:=[qm 16 3,qk .neq 17 16 0]
def QMm:LL:=[qm 18 3,qm 2 18]
def QMn(F:Fn):LL:=[qf 19 6 1,qf 20 0 19,qL 21 2 20,qc 22 (F "c") [.t 21],qm 4 22]
def QMo:LL:=[qm 23 4,qk .neq 24 23 0]
def QMp:LL:=[qm 25 4,qm 2 25]
def QMq(F:Fn):LL:=[qf 26 1 1,qf 27 0 26,qL 28 2 27,qf 29 11 1,qL 30 2 29,qc 31 (F "N") [.t 28,.t 30],qm 5 31]
def QMr:LL:=[qm 32 5,qk .neq 33 32 0]
def QMs:LL:=[qm 34 5,qm 2 34]
def QMt(F:Fn):LL:=[qf 36 1 1,qf 37 0 36,qL 38 2 37,qf 39 11 1,qL 40 2 39,qc 41 (F "U") [.t 38,.t 40],qm 35 41,qx 42 35 0,qx 43 35 1,qx 44 35 2,qa 6 [.nl 1,.nl 3],qa 7 [.nl 1,.nl 1],qs 2 6 42,
 qs 2 7 43,qm 8 44]
def QMu:LL:=[qm 45 8,qk .neq 46 45 0]
def QMv:LL:=[qm 47 8,qm 2 47]
def QMw(F:Fn):LL:=[qL 48 2 6,qf 49 6 1,qf 50 0 49,qL 51 2 50,qf 52 13 1,qL 53 2 52,qc 54 (F "e") [.t 48,.t 51,.t 53],qm 9 54]
def QMx:LL:=[qm 55 9,qk .neq 56 55 0]
def QMy:LL:=[qm 57 9,qm 2 57]
def QMz(F:Fn):LL:=[qL 58 2 6,qf 59 6 1,qf 60 0 59,qL 61 2 60,qf 62 13 1,qL 63 2 62,qc 64 (F "W") [.t 58,.t 61,.t 63],qv 65 64]
def QMA:LL:=[qi 2 11]
def QMB:LL:=[qf 66 1 1,qL 67 5 66,qf 68 6 1,qL 69 5 68,qQp 70 (.buildSl 5 104 (.agg [.lst 1 [],.lst 3 [],.lst 4 [],.int .i64 (0),.lst 5 []]) 2 [(0,.t 67),(1,.t 69)]),qz 71 70,
 qi 72 0]
def QMC:LL:=[qo .lss 73 72 71]
def QMD:LL:=[qd 74 5 70 72,qL 75 5 74,qa 11 [.nl 1,.nl 3,.nl 4,.int .i64 (0),.nl 5],qs 5 11 75]
def QME:LL:=[qf 76 2 11,ql 77 1 76,qz 78 77,qf 79 4 11,ql 80 1 79,qz 81 80,qo .add 82 78 81,qk .gtr 83 82 0,qm 84 83,qg 84 false (qf 85 3 11),qg 84 false (ql 86 1 85),
 qg 84 false (qk .neq 87 86 0),qQ 88 84 87]
def QMF:LL:=[qi 2 8]
def QMG:LL:=[qk .add 89 72 1,qm 72 89]
def Qfq:LC:=QQ [.reg QMC [1,70,71,72,73],.cond (.t 73) .skip (.exit 0),.block 1 (QQ [.reg QMD [1,11,70,71,72],.reg QME [1,70,71,72,88],.cond (.t 88) (QQ [.reg QMF [2],.ret]) .skip]),.reg QMG [1,70,71,72]]
def QMH:LL:=[qf 90 15 1,ql 91 1 90,qv 92 91]
def QMI:LL:=[qi 2 8]
def QMJ:LL:=[qi 2 0]
def QmA(F:Fn):LC:=QQ [.reg QMj [1],QQ [.reg (QMk F) [1,3],.reg QMl [1,3,17],.cond (.t 17) (QQ [.reg QMm [2],.ret]) .skip],QQ [.reg (QMn F) [1,4],.reg QMo [1,4,24],.cond (.t 24) (QQ [.reg QMp [2],.ret]) .skip],QQ [.reg (QMq F) [1,5],.reg QMr [1,5,33],.cond (.t 33) (QQ [.reg QMs [2],.ret]) .skip],.reg (QMt F) [1,6,8],QQ [.reg QMu [1,6,8,46],.cond (.t 46) (QQ [.reg QMv [2],.ret]) .skip],QQ [.reg (QMw F) [1,6,9],.reg QMx [1,6,9,56],.cond (.t 56) (QQ [.reg QMy [2],.ret]) .skip],QQ [.reg (QMz F) [1,65],.cond (.t 65) (QQ [.reg QMA [2],.ret]) .skip],QQ [.reg QMB [1,70,71,72],.block 0 (.loop [1,70,71,72] Qfq)],QQ [.reg QMH [92],.cond (.t 92) (QQ [.reg QMI [2],.ret]) .skip],.reg QMJ [2],.ret]
def QMK:LL:=[qB 1 0,qa 2 [.nl 1,.nl 3,.nl 1,.nl 3,.nl 1,.nl 1,.nl 1,.nl 1]]
def QML:LL:=[qf 3 1 1,qf 4 0 3,qL 5 2 4,qf 6 6 1,qf 7 0 6,qL 8 2 7,qf 9 11 1,qL 10 2 9,qf 11 13 1,qL 12 2 11,
 qu 13 [.nl 1,.nl 3,.nl 1,.nl 3,.nl 1,.nl 1,.nl 1,.nl 1] [(0,2,.t 5),(2,2,.t 8),(4,2,.t 10),(6,2,.t 12)],qs 8 2 13]
def QmB(F:Fn):LC:=QQ [.reg QMK [1,2],.reg QML [2],.ret]
def YV(s:Spn):D:=.agg [.lst 1 (QR s.l.n),.lst 3 (eds s.l.e),.lst 1 (QR s.r.n),.lst 3 (eds s.r.e),.lst 1 (QR s.k.n),.lst 1 (QR s.k.e),.lst 1 (QR s.i.n),.lst 1 (QR s.i.e)]
def ruD(nm:ByteArray)(s:Spn):D:=.agg [.str nm,.lst 1 (QR s.l.n),.lst 3 (eds s.l.e),.lst 4 [],.int .i64 0,.lst 5 [],.lst 1 (QR s.r.n),.lst 3 (eds s.r.e),.lst 4 [],.int .i64 0,.lst 5 [],.lst 1 (QR s.k.n),.lst 1 (QR s.k.e),.lst 1 (QR s.i.n),.lst 1 (QR s.i.e),.bool true,
 .int .i64 0,.lst 9 [],.lst 1 [],.lst 1 [],.lst 1 [],.lst 3 [],.lst 4 [],.int .i64 0,.lst 5 []]
attribute [go_sem] QLN QLO QLP QLQ Qmt QLR QLS Qfo QLT QLU Qfp QLV QLW QLX QLY QLZ QL0 QL1 QL2 Qmv QL3 QL4 QL5 QL6 QL7 QL8 QL9 QMa Qmx QMb QMc QMd QMe QMf QMg QMh QMi Qmz QMj QMk QMl QMm QMn QMo QMp QMq QMr QMs QMt QMu QMv QMw QMx QMy QMz QMA QMB QMC QMD QME QMF QMG QMH QMI QMJ QmA QMK QML QmB
section
variable (P:Program) (F:String→Nat)
def QmC:Prop:=∀l:List Int,l.length≤1000→FC P (F "G") [.lst 1 (QR l)] (.arr 1 (QR (srt l))) []
def QmD:Prop:=FC P (F "af") [] (cnD .tt) []
def QmE:Prop:=FC P (F "as") [] (cnD (.no .tt)) []
def QmF:Prop:=∀l im:List Int,l.length≤1000→im.length≤1000→FC P (F "ad") [.lst 1 (QR l),.lst 1 (QR im)] (.arr 1 (QR (atL l im))) []
def QmG:Prop:=∀l im:List Int,l.length≤1000→im.length≤1000→(∀x∈im,0≤x∧x<l.length)→FC P (F "aB") [.lst 1 (QR l),.lst 1 (QR im)] (.arr 1 (QR (thr im l))) []
def QmH:Prop:=∀p into keep:List Int,p.length≤1000→into.length≤1000→into.length≤keep.length→(∀x∈p,x∈into)→FC P (F "aA") [.lst 1 (QR p),.lst 1 (QR into),.lst 1 (QR keep)] (.arr 1 (QR (Zm p into keep))) []
def QmI:Prop:=∀(nm:ByteArray)(s:Spn),FC P (F "aV") [ruD nm s] (YV s) []
def QmJ:Prop:=∀(nm:ByteArray)(s:Spn),SpnOk s→FC P (F "bw") [ruD nm s] (.int .i64 0) []
end
section
variable {P:Program} {F:String→Nat} {α:Type}
theorem QMM{β γ:Type}[Inhabited β]{l:List β}{f:β→γ}{i:Nat}(h:i<l.length):(l.take (i+1)).map f=(l.take i).map f++[f (gt l (i:Int))]:=by
 rw[Yk h,List.map_append]
 rfl
theorem QZN{l:List Int}{x:Int}(h:x∈l):0≤idx (fun y=>decide (x=y)) l 0∧idx (fun y=>decide (x=y)) l 0<l.length:=by
 have h0:¬idx (fun y=>decide (x=y)) l 0<0:=fun h'=>idx_neg.1 h' h
 obtain⟨k,h1,h2,_⟩:=Qep (fun y=>decide (x=y)) l 0 (by omega)
 omega
theorem Qc9:cnD .tt=.agg [.int .i64 1,.lst 9 [],.lst 1 [],.lst 1 [],.lst 1 [],.lst 3 [],.lst 4 [],.int .i64 0,.lst 5 []]:=by rw[Q4];rfl
theorem QMN:cnD (.no .tt)=.agg [.int .i64 2,.lst 9 [.agg [.int .i64 1,.lst 9 [],.lst 1 [],.lst 1 [],.lst 1 [],.lst 3 [],.lst 4 [],.int .i64 0,.lst 5 []]],.lst 1 [],.lst 1 [],.lst 1 [],.lst 3 [],.lst 4 [],.int .i64 0,.lst 5 []]:=by
 have e:cds [Cnd.tt]=[cnD .tt]:=rfl
 rw[Qc9] at e
 rw[Q4]
 simp only[Q9,QU,Xn,Xk,e]
 rfl
theorem QZO(hc:Qag P F)(hs:QdV P F)(l:List Int)(hl:l.length≤1000):W P (Qmt F) (Done [.t 2] [] (.arr 1 (QR (srt l))) []) (init [.lst 1 (QR l)]):=by
 refine QZ ?_
 have e1:=Zf l
 have r1:=hc l (by omega)
 have r2:=hs l (by unfold QW;omega)
 generalize srt l=q at*
 simp(disch:=omega)only[go_sem]
 refine QT r1 ?_
 simp(disch:=omega)only[go_sem]
 refine QT r2 ?_
 simp(disch:=omega)only[go_sem,e1]
theorem QZP:W P (Qfp F) (DoneZ [.c 0 true 9] [] (cnD .tt) []) (init []):=by
 refine ZH ?_
 rw[Qc9]
 simp(disch:=omega)only[go_sem]
 try rfl
theorem QZQ(hy:QmD P F):W P (Qfo F) (DoneZ [.c 0 true 9] [] (cnD (.no .tt)) []) (init []):=by
 refine ZH ?_
 have r:FC P (F "af") [] (cnD .tt) []:=hy
 rw[Qc9] at r
 rw[QMN]
 simp(disch:=omega)only[go_sem]
 refine QT r ?_
 simp(disch:=omega)only[go_sem]
 try rfl
theorem QZR(hx:QbB P F)(l im:List Int)(h1:l.length≤1000)(h2:im.length≤1000):W P (Qmv F) (Done [.t 4] [] (.arr 1 (QR (atL l im))) []) (init [.lst 1 (QR l),.lst 1 (QR im)]):=by
 refine QZ ?_
 have r:=fun x=>hx l x (by unfold QW;omega)
 unfold atL
 obtain⟨f,hf⟩:∃f:Int→Int,∀x,idx (fun y=>decide (x=y)) l 0=f x:=⟨_,fun _=>rfl⟩
 rw[show (fun x:Int=>idx (fun y=>decide (x=y)) l 0)=f from funext hf]
 simp only[hf] at*
 simp(disch:=omega)only[go_sem]
 refine Q5 (fun i:Nat=>⟨[(0,.lst 1 (QR l)),(5,.sl 0 0 i),(9,.lst 1 (QR im)),(10,.int .i64 im.length),(11,.int .i64 i)],[(0,.arr 1 (QR ((im.take i).map f)))],1⟩) (fun i=>i≤im.length) (fun i=>im.length-i) 0 ?_ ?_ ?_
 ·simp(disch:=omega)only[go_sem]
  rfl
 ·simp
 ·intro i hi
  have el:((im.take i).map f).length=i:=by rw[Qv,Qj];omega
  by_cases h:i<im.length
  ·have g1:decide ((i:Int)<im.length)=true:=Qd (by omega)
   have hs:=QMM (f:=f) h
   have ri:=r (gt im (i:Int))
   have zi:=YI (l:=im) h
   simp(disch:=omega)only[go_sem,Qmu,g1,el,zi]
   refine QT ri ?_
   simp(disch:=omega)only[go_sem,el]
   exact⟨i+1,by simp [hs],by omega,by omega⟩
  ·obtain rfl:i=im.length:=by omega
   have g1:decide ((im.length:Int)<im.length)=false:=Qc (by omega)
   rw[List.take_length] at el
   simp(disch:=omega)only[go_sem,Qmu,g1,el]
theorem QZS(l im:List Int)(h1:l.length≤1000)(h2:im.length≤1000)(hb:∀x∈im,0≤x∧x<l.length):W P (Qmx F) (Done [.t 4] [] (.arr 1 (QR (thr im l))) []) (init [.lst 1 (QR l),.lst 1 (QR im)]):=by
 refine QZ ?_
 simp(disch:=omega)only[go_sem]
 refine Q5 (fun i:Nat=>⟨[(0,.lst 1 (QR l)),(5,.sl 0 0 i),(9,.lst 1 (QR im)),(10,.int .i64 im.length),(11,.int .i64 i)],[(0,.arr 1 (QR (thr (im.take i) l)))],1⟩) (fun i=>i≤im.length) (fun i=>im.length-i) 0 ?_ ?_ ?_
 ·simp(disch:=omega)only[go_sem]
  rfl
 ·simp
 ·intro i hi
  have el:(thr (im.take i) l).length=i:=by rw[Xp,Qj];omega
  by_cases h:i<im.length
  ·have g1:decide ((i:Int)<im.length)=true:=Qd (by omega)
   have hx:=hb _ (gt_mem (l:=im) (j:=i) (by omega) (by omega))
   have zi:=YI (l:=im) h
   have zj:=Zp (l:=l) (j:=gt im (i:Int)) hx.1 hx.2
   simp(disch:=omega)only[go_sem,Qmw,g1,el,zi,zj]
   exact⟨i+1,by simp [Qcy h],by omega,by omega⟩
  ·obtain rfl:i=im.length:=by omega
   have g1:decide ((im.length:Int)<im.length)=false:=Qc (by omega)
   rw[List.take_length] at el
   simp(disch:=omega)only[go_sem,Qmw,g1,el]
theorem QZT(hx:QbB P F)(p into keep:List Int)(h1:p.length≤1000)(h2:into.length≤1000)(h3:into.length≤keep.length)(hb:∀x∈p,x∈into):W P (Qmz F) (Done [.t 6] [] (.arr 1 (QR (Zm p into keep))) []) (init [.lst 1 (QR p),.lst 1 (QR into),.lst 1 (QR keep)]):=by
 refine QZ ?_
 have r:=fun x=>hx into x (by unfold QW;omega)
 have hbd:=fun x (h:x∈p)=>QZN (hb x h)
 unfold Zm
 obtain⟨f,hf⟩:∃f:Int→Int,∀x,idx (fun y=>decide (x=y)) into 0=f x:=⟨_,fun _=>rfl⟩
 rw[show (fun x:Int=>gt keep (idx (fun y=>decide (x=y)) into 0))=fun x=>gt keep (f x) from funext fun x=>by rw[hf]]
 simp only[hf] at*
 simp(disch:=omega)only[go_sem]
 refine Q5 (fun i:Nat=>⟨[(1,.lst 1 (QR into)),(2,.lst 1 (QR keep)),(7,.sl 0 0 i),(11,.lst 1 (QR p)),(12,.int .i64 p.length),(13,.int .i64 i)],[(0,.arr 1 (QR ((p.take i).map fun x=>gt keep (f x))))],1⟩) (fun i=>i≤p.length) (fun i=>p.length-i) 0 ?_ ?_ ?_
 ·simp(disch:=omega)only[go_sem]
  rfl
 ·simp
 ·intro i hi
  have el:((p.take i).map fun x=>gt keep (f x)).length=i:=by rw[Qv,Qj];omega
  by_cases h:i<p.length
  ·have g1:decide ((i:Int)<p.length)=true:=Qd (by omega)
   have hs:=QMM (f:=fun x=>gt keep (f x)) h
   have ri:=r (gt p (i:Int))
   have hbi:=hbd _ (gt_mem (l:=p) (j:=i) (by omega) (by omega))
   have zi:=YI (l:=p) h
   have zj:=Zp (l:=keep) (j:=f (gt p (i:Int))) hbi.1 (by omega)
   simp(disch:=omega)only[go_sem,Qmy,g1,el,zi]
   refine QT ri ?_
   simp(disch:=omega)only[go_sem,el,zj]
   exact⟨i+1,by simp [hs],by omega,by omega⟩
  ·obtain rfl:i=p.length:=by omega
   have g1:decide ((p.length:Int)<p.length)=false:=Qc (by omega)
   rw[List.take_length] at el
   simp(disch:=omega)only[go_sem,Qmy,g1,el]
theorem QZU(nm:ByteArray)(s:Spn):W P (QmB F) (Done [.c 2 true 8] [] (YV s) []) (init [ruD nm s]):=by
 refine QZ ?_
 obtain⟨⟨ln,le⟩,⟨rn,re⟩,⟨kn,ke⟩,⟨i_n,i_e⟩⟩:=s
 simp only[ruD]
 simp(disch:=omega)only[go_sem]
 rfl
theorem QZV(hg:Qad P F)(hs:QcM P F)(hx:QeH P F)(hv:QaA P F)(hj:QcA P F)(nm:ByteArray)(s:Spn)(ho:SpnOk s):W P (QmA F) (Done [.t 2] [] (.int .i64 0) []) (init [ruD nm s]):=by
 refine QZ ?_
 have r1:=hg s.l
 have r2:=hg s.r
 have l1:=ho.k.len
 have r3:=hs s.l s.k ho.k.sm.1 ho.k.sm.2
 have r4:=hx s.l s.k ho.k.sm
 have r5:=hv (ptG s.l s.k) s.r s.i
 have r6:=hj (ptG s.l s.k) s.r s.i
 have ek:exR s.l s.k=(ptG s.l s.k,s.k,0):=by unfold exR;rw[if_neg (by simp [validP_ok.2 ho.k])]
 rw[ho.k.v] at r1
 rw[ho.i.ok.vb] at r2
 rw[validP_ok.2 ho.k] at r3
 rw[ek] at r4
 rw[mok.2 ho.i.ok] at r5
 rw[QlP ho.i] at r6
 clear hg hs hx hv hj ek l1 ho
 obtain⟨⟨ln,le⟩,⟨rn,re⟩,⟨kn,ke⟩,⟨i_n,i_e⟩⟩:=s
 generalize ptG _ _=p at*
 obtain⟨pn,pe⟩:=p
 simp only[ruD,gD,mD,gA,mA] at*
 have d0:decide ((0:Int)=0)=true:=rfl
 simp(disch:=omega)only[go_sem]
 refine QT r1 ?_
 simp(disch:=omega)only[go_sem,d0]
 refine QT r2 ?_
 simp(disch:=omega)only[go_sem,d0]
 refine QT r3 ?_
 simp(disch:=omega)only[go_sem,d0]
 refine QT r4 ?_
 simp(disch:=omega)only[go_sem,d0]
 refine QT r5 ?_
 simp(disch:=omega)only[go_sem,d0]
 refine QT r6 ?_
 simp(disch:=omega)only[go_sem]
 refine Q5 (fun i:Nat=>⟨[(1,.pt 0 0),(70,.sl 1 0 2),(71,.int .i64 ((2:Nat):Int)),(72,.int .i64 i)],
  [(0,.box [.str nm,.lst 1 (QR ln),.lst 3 (eds le),.lst 4 [],.int .i64 0,.lst 5 [],.lst 1 (QR rn),.lst 3 (eds re),.lst 4 [],.int .i64 0,.lst 5 [],.lst 1 (QR kn),.lst 1 (QR ke),.lst 1 (QR i_n),.lst 1 (QR i_e),.bool true,.int .i64 0,.lst 9 [],.lst 1 [],.lst 1 [],.lst 1 [],.lst 3 [],.lst 4 [],.int .i64 0,.lst 5 []]),
   (1,.arr 5 [.agg [.lst 1 (QR ln),.lst 3 (eds le),.lst 4 [],.int .i64 0,.lst 5 []],.agg [.lst 1 (QR rn),.lst 3 (eds re),.lst 4 [],.int .i64 0,.lst 5 []]])],2⟩) (fun i=>i≤2) (fun i=>2-i) 0 ?_ ?_ ?_
 ·simp(disch:=omega)only[go_sem]
  rfl
 ·omega
 ·intro i hi
  have hc:i=0∨i=1∨i=2:=by omega
  rcases hc with rfl|rfl|rfl
  ·have g1:decide (((0:Nat):Int)<((2:Nat):Int))=true:=rfl
   have t0:((0:Nat):Int).toNat=0:=rfl
   have g2:decide ((0:Int)<((0:Nat):Int)+((0:Nat):Int))=false:=rfl
   have g3:decide ((0:Int)=0)=true:=rfl
   have t1:∀a b:D,([a,b]:List D)[0]?=some a:=fun _ _=>rfl
   simp(disch:=omega)only[go_sem,Qfq,g1,t0,t1,g2,g3]
   exact⟨1,by simp,by omega,by omega⟩
  ·have g1:decide (((1:Nat):Int)<((2:Nat):Int))=true:=rfl
   have t0:((1:Nat):Int).toNat=1:=rfl
   have g2:decide ((0:Int)<((0:Nat):Int)+((0:Nat):Int))=false:=rfl
   have g3:decide ((0:Int)=0)=true:=rfl
   have t1:∀a b:D,([a,b]:List D)[1]?=some b:=fun _ _=>rfl
   simp(disch:=omega)only[go_sem,Qfq,g1,t0,t1,g2,g3]
   exact⟨2,by simp,by omega,by omega⟩
  ·have g1:decide (((2:Nat):Int)<((2:Nat):Int))=false:=rfl
   simp(disch:=omega)only[go_sem,Qfq,g1]
end
def QMO:LL:=[qB 2 0,qB 3 1,qa 4 [.int .i64 (0),.nl 9,.nl 1,.nl 1,.nl 1,.nl 3,.nl 4,.int .i64 (0),.nl 5],qi 5 0]
def QMP:LL:=[qf 11 0 3,ql 12 1 11,qk .eql 13 12 5]
def QMQ(F:Fn):LL:=[qL 14 8 2,qL 15 9 3,qc 16 (F "bu") [.t 14,.t 15],qx 17 16 0,qx 18 16 1,qs 9 4 17,qm 5 18]
def QMR:LL:=[qf 19 0 3,ql 20 1 19,qu 21 [.int .i64 (0),.nl 9,.nl 1,.nl 1,.nl 1,.nl 3,.nl 4,.int .i64 (0),.nl 5] [(0,1,.t 20)],
 qa 6 [.int .i64 (0),.nl 9,.nl 1,.nl 1,.nl 1,.nl 3,.nl 4,.int .i64 (0),.nl 5],qs 9 6 21]
def QMS:LL:=[qf 22 1 3,ql 23 1 22,qz 24 23,qi 25 0]
def QMT:LL:=[qo .lss 26 25 24]
def QMU:LL:=[qd 27 9 23 25,qL 28 9 27,qa 8 [.int .i64 (0),.nl 9,.nl 1,.nl 1,.nl 1,.nl 3,.nl 4,.int .i64 (0),.nl 5],qs 9 8 28]
def QMV(F:Fn):LL:=[qL 30 8 2,qL 31 9 8,qc 32 (F "D") [.t 30,.t 31],qm 29 32,qx 33 29 0,qx 34 29 1,qa 9 [.int .i64 (0),.nl 9,.nl 1,.nl 1,.nl 1,.nl 3,.nl 4,.int .i64 (0),.nl 5],qs 9 9 33,qm 10 34]
def QMW:LL:=[qm 35 10,qk .neq 36 35 0]
def QMX:LL:=[qu 37 [.int .i64 (0),.nl 9,.nl 1,.nl 1,.nl 1,.nl 3,.nl 4,.int .i64 (0),.nl 5] [],qm 38 10,qs 9 4 37,qm 5 38]
def QMY:LL:=[qf 39 1 6,ql 40 1 39,qL 41 9 9,
 qQp 42 (.buildSl 9 184 (.agg [.int .i64 (0),.lst 9 [],.lst 1 [],.lst 1 [],.lst 1 [],.lst 3 [],.lst 4 [],.int .i64 (0),.lst 5 []]) 1 [(0,.t 41)]),qp 43 9 184 40 42,
 qf 44 1 6,qs 1 44 43]
def QMZ:LL:=[qk .add 45 25 1,qm 25 45]
def Qfr(F:Fn):LC:=QQ [.reg QMT [2,4,6,23,24,25,26],.cond (.t 26) .skip (.exit 0),.block 1 (QQ [.reg QMU [2,4,6,8,23,24,25],.reg (QMV F) [2,4,6,9,10,23,24,25],QQ [.reg QMW [2,4,6,9,10,23,24,25,36],.cond (.t 36) (QQ [.reg QMX [4,5],.ret]) .skip],.reg QMY [2,4,6,23,24,25]]),.reg QMZ [2,4,6,23,24,25]]
def QM0:LL:=[qL 46 9 6,qs 9 4 46,qi 5 0]
def Qfs(F:Fn):LC:=QQ [.reg QMO [2,3,4],QQ [.reg QMP [2,3,4,13],.cond (.t 13) (QQ [.reg (QMQ F) [4,5],.ret]) .skip],.reg QMR [2,3,4,6],QQ [.reg QMS [2,4,6,23,24,25],.block 0 (.loop [2,4,6,23,24,25] (Qfr F))],.reg QM0 [4,5],.ret]
def QZW:Hints:=hOf [] (Qfs fun _=>0)
def QM1:LL:=[qB 2 0,qB 3 1,qa 4 [.int .i64 (0),.nl 9,.nl 1,.nl 1,.nl 1,.nl 3,.nl 4,.int .i64 (0),.nl 5],qi 5 0]
def QM2:LL:=[qf 19 4 3,qf 20 0 19,qL 21 2 20,qa 6 [.nl 1,.nl 3],qs 2 6 21]
def QM3(F:Fn):LL:=[qf 23 2 2,qL 24 2 23,qL 25 2 6,qf 26 6 2,qf 27 0 26,ql 28 1 27,qc 29 (F "G") [.t 28],qf 30 6 2,qf 31 1 30,ql 32 1 31,qc 33 (F "G") [.t 32],
 qu 34 [.nl 1,.nl 1] [(0,1,.t 29),(1,1,.t 33)],qf 35 2 3,qL 36 2 35,qc 37 (F "bI") [.t 24,.t 25,.t 34,.t 36],qm 22 37,qx 38 22 0,qx 39 22 1,qa 7 [.nl 1,.nl 1],qs 2 7 38,
 qm 8 39]
def QM4:LL:=[qm 40 8,qk .neq 41 40 0]
def QM5(F:Fn):LL:=[qc 42 (F "as") [],qs 9 4 42,qi 5 0]
def QM6(F:Fn):LL:=[qL 44 2 6,qL 45 2 7,qc 46 (F "U") [.t 44,.t 45],qm 43 46,qx 47 43 0,qx 48 43 1,qx 49 43 2,qa 9 [.nl 1,.nl 3],qa 10 [.nl 1,.nl 1],qs 2 9 47,qs 2 10 48,qm 8 49]
def QM7:LL:=[qm 50 8,qk .neq 51 50 0]
def QM8:LL:=[qu 52 [.int .i64 (0),.nl 9,.nl 1,.nl 1,.nl 1,.nl 3,.nl 4,.int .i64 (0),.nl 5] [],qm 53 8,qs 9 4 52,qm 5 53]
def QM9(F:Fn):LL:=[qf 55 0 2,qL 56 2 55,qf 57 4 2,qL 58 2 57,qc 59 (F "U") [.t 56,.t 58],qm 54 59,qx 60 54 0,qx 61 54 1,qx 62 54 2,qa 11 [.nl 1,.nl 3],qa 12 [.nl 1,.nl 1],qs 2 11 60,qs 2 12 61,
 qm 8 62]
def QNa:LL:=[qm 63 8,qk .neq 64 63 0]
def QNb:LL:=[qu 65 [.int .i64 (0),.nl 9,.nl 1,.nl 1,.nl 1,.nl 3,.nl 4,.int .i64 (0),.nl 5] [],qm 66 8,qs 9 4 65,qm 5 66]
def QNc(F:Fn):LL:=[qf 67 0 7,ql 68 1 67,qf 69 2 3,qf 70 0 69,ql 71 1 70,qf 72 6 2,qf 73 0 72,ql 74 1 73,qc 75 (F "aB") [.t 71,.t 74],qc 76 (F "ad") [.t 68,.t 75],qf 77 1 7,ql 78 1 77,qf 79 2 3,qf 80 1 79,
 ql 81 1 80,qf 82 6 2,qf 83 1 82,ql 84 1 83,qc 85 (F "aB") [.t 81,.t 84],qc 86 (F "ad") [.t 78,.t 85],qu 87 [.nl 1,.nl 1] [(0,1,.t 76),(1,1,.t 86)],qa 13 [.nl 1,.nl 1],qs 2 13 87]
def QNd(F:Fn):LL:=[qL 89 2 11,qf 90 0 2,qL 91 2 90,qL 92 2 9,qL 93 2 12,qL 94 2 13,
 qu 95 [.nl 1,.nl 3,.nl 1,.nl 3,.nl 1,.nl 3,.nl 1,.nl 1,.nl 1,.nl 1] [(0,2,.t 89),(2,2,.t 91),(4,2,.t 92),(6,2,.t 93),(8,2,.t 94)],qc 96 (F "bL") [.t 95],
 qm 88 96,qx 97 88 0,qx 98 88 1,qx 99 88 2,qx 100 88 3,qa 14 [.nl 1,.nl 3],qa 15 [.nl 1,.nl 1],qa 16 [.nl 1,.nl 1],qs 2 14 97,qs 2 15 98,qs 2 16 99,qm 8 100]
def QNe:LL:=[qm 101 8,qk .neq 102 101 0]
def QNf:LL:=[qu 103 [.int .i64 (0),.nl 9,.nl 1,.nl 1,.nl 1,.nl 3,.nl 4,.int .i64 (0),.nl 5] [],qm 104 8,qs 9 4 103,qm 5 104]
def QNg(F:Fn):LL:=[qL 105 2 14,qL 106 2 6,qf 107 0 16,ql 108 1 107,qc 109 (F "G") [.t 108],qf 110 1 16,ql 111 1 110,qc 112 (F "G") [.t 111],qu 113 [.nl 1,.nl 1] [(0,1,.t 109),(1,1,.t 112)],
 qu 114 [.nl 1,.nl 3,.nl 1,.nl 3,.nl 1,.nl 1,.nl 1,.nl 1] [(0,2,.t 105),(2,2,.t 106),(4,2,.t 113)],qa 17 [.nl 1,.nl 3,.nl 1,.nl 3,.nl 1,.nl 1,.nl 1,.nl 1],
 qs 8 17 114]
def QNh(F:Fn):LL:=[qf 115 4 17,qf 116 0 115,ql 117 1 116,qf 118 0 16,ql 119 1 118,qf 120 0 7,ql 121 1 120,qc 122 (F "aA") [.t 117,.t 119,.t 121],qf 123 4 17,qf 124 1 123,ql 125 1 124,qf 126 1 16,
 ql 127 1 126,qf 128 1 7,ql 129 1 128,qc 130 (F "aA") [.t 125,.t 127,.t 129],qu 131 [.nl 1,.nl 1] [(0,1,.t 122),(1,1,.t 130)],qf 132 6 17,qs 2 132 131]
def QNi(F:Fn):LL:=[qL 134 8 17,qf 135 1 3,ql 136 1 135,qQp 137 (.iad 9 (.t 136) (.k (.int .i64 (0)))),qL 138 9 137,qc 139 (F "D") [.t 134,.t 138],qm 133 139,qx 140 133 0,qx 141 133 1,
 qa 18 [.int .i64 (0),.nl 9,.nl 1,.nl 1,.nl 1,.nl 3,.nl 4,.int .i64 (0),.nl 5],qs 9 18 140,qm 8 141]
def QNj:LL:=[qm 142 8,qk .neq 143 142 0]
def QNk:LL:=[qu 144 [.int .i64 (0),.nl 9,.nl 1,.nl 1,.nl 1,.nl 3,.nl 4,.int .i64 (0),.nl 5] [],qm 145 8,qs 9 4 144,qm 5 145]
def QNl:LL:=[qL 146 2 15,qL 147 2 14,qu 148 [.nl 1,.nl 3,.nl 4,.int .i64 (0),.nl 5] [(0,2,.t 147)],qL 149 9 18,
 qQp 150 (.buildSl 9 184 (.agg [.int .i64 (0),.lst 9 [],.lst 1 [],.lst 1 [],.lst 1 [],.lst 3 [],.lst 4 [],.int .i64 (0),.lst 5 []]) 1 [(0,.t 149)]),
 qu 151 [.int .i64 (0),.nl 9,.nl 1,.nl 1,.nl 1,.nl 3,.nl 4,.int .i64 (0),.nl 5] [(0,1,.k (.int .i64 (5))),(2,2,.t 146),(4,5,.t 148),(1,1,.t 150)],qs 9 4 151,
 qi 5 0]
def Qft(F:Fn):LC:=QQ [.reg QM1 [2,3,4],.reg QM2 [2,3,4,6],.dreg [(1,none,[],true),(2,none,[],true),(6,none,[1,2],true),(9,(some 384),[6],false),(10,none,[1,2],true),(13,(some 4096),[6,10],false)] (QM3 F) [2,3,4,6,7,8],QQ [.reg QM4 [2,3,4,6,7,41],.cond (.t 41) (QQ [.reg (QM5 F) [4,5],.ret]) .skip],.reg (QM6 F) [2,3,4,6,7,8,9],QQ [.reg QM7 [2,3,4,6,7,8,9,51],.cond (.t 51) (QQ [.reg QM8 [4,5],.ret]) .skip],.reg (QM9 F) [2,3,4,6,7,8,9,11,12],QQ [.reg QNa [2,3,4,6,7,8,9,11,12,64],.cond (.t 64) (QQ [.reg QNb [4,5],.ret]) .skip],.dreg [(1,none,[],true),(8,none,[1],true),(9,none,[],true),(11,(some 1024),[8,9],true),(14,(some 12288),[8,9],false),(17,(some 98304),[8,9],false),(18,none,[11],false)] (QNc F) [2,3,4,6,7,9,11,12,13],.reg (QNd F) [3,4,6,7,8,14,15,16],QQ [.reg QNe [3,4,6,7,8,14,15,16,102],.cond (.t 102) (QQ [.reg QNf [4,5],.ret]) .skip],.dreg [(0,none,[],true),(1,none,[],true),(4,none,[0,1],true),(6,(some 32),[4],false),(7,none,[0,1],false)] (QNg F) [3,4,7,14,15,16,17],.dreg [(7,none,[],true),(10,(some 768),[7],false),(12,(some 2048),[7],false),(14,(some 8192),[7],false)] (QNh F) [3,4,14,15,17],.dreg [] (QNi F) [4,8,14,15,18],QQ [.reg QNj [4,8,14,15,18,143],.cond (.t 143) (QQ [.reg QNk [4,5],.ret]) .skip],.reg QNl [4,5],.ret]
def QZX:Hints:=hOf [] (Qft fun _=>0)
def QNm:LL:=[qB 2 0,qB 3 1,qa 4 [.int .i64 (0),.nl 9,.nl 1,.nl 1,.nl 1,.nl 3,.nl 4,.int .i64 (0),.nl 5],qi 5 0]
def QNn(F:Fn):LL:=[qf 10 2 2,qL 11 2 10,qL 12 9 3,qc 13 (F "l") [.t 11,.t 12],qm 6 13]
def QNo:LL:=[qm 14 6,qk .neq 15 14 0]
def QNp:LL:=[qu 16 [.int .i64 (0),.nl 9,.nl 1,.nl 1,.nl 1,.nl 3,.nl 4,.int .i64 (0),.nl 5] [],qm 17 6,qs 9 4 16,qm 5 17]
def QNq(F:Fn):LL:=[qL 19 8 2,qL 20 9 3,qc 21 (F "D") [.t 19,.t 20],qm 18 21,qx 22 18 0,qx 23 18 1,qa 7 [.int .i64 (0),.nl 9,.nl 1,.nl 1,.nl 1,.nl 3,.nl 4,.int .i64 (0),.nl 5],qs 9 7 22,qm 8 23]
def QNr:LL:=[qm 24 8,qk .neq 25 24 0]
def QNs:LL:=[qu 26 [.int .i64 (0),.nl 9,.nl 1,.nl 1,.nl 1,.nl 3,.nl 4,.int .i64 (0),.nl 5] [],qm 27 8,qs 9 4 26,qm 5 27]
def QNt(F:Fn):LL:=[qf 28 0 2,qL 29 2 28,qL 30 9 7,qc 31 (F "l") [.t 29,.t 30],qm 9 31]
def QNu:LL:=[qm 32 9,qk .neq 33 32 0]
def QNv:LL:=[qu 34 [.int .i64 (0),.nl 9,.nl 1,.nl 1,.nl 1,.nl 3,.nl 4,.int .i64 (0),.nl 5] [],qm 35 9,qs 9 4 34,qm 5 35]
def QNw:LL:=[qL 36 9 7,qs 9 4 36,qi 5 0]
def Qfu(F:Fn):LC:=QQ [.reg QNm [2,3,4],QQ [.reg (QNn F) [2,3,4,6],.reg QNo [2,3,4,6,15],.cond (.t 15) (QQ [.reg QNp [4,5],.ret]) .skip],.reg (QNq F) [2,4,7,8],QQ [.reg QNr [2,4,7,8,25],.cond (.t 25) (QQ [.reg QNs [4,5],.ret]) .skip],QQ [.reg (QNt F) [4,7,9],.reg QNu [4,7,9,33],.cond (.t 33) (QQ [.reg QNv [4,5],.ret]) .skip],.reg QNw [4,5],.ret]
def QZY:Hints:=hOf [] (Qfu fun _=>0)
def QNx:LL:=[qB 2 0,qB 3 1,qa 4 [.int .i64 (0),.nl 9,.nl 1,.nl 1,.nl 1,.nl 3,.nl 4,.int .i64 (0),.nl 5],qi 5 0]
def QNy(F:Fn):LL:=[qL 7 25 2,qc 8 (F "bw") [.t 7],qm 6 8]
def QNz:LL:=[qm 9 6,qk .neq 10 9 0]
def QNA:LL:=[qu 11 [.int .i64 (0),.nl 9,.nl 1,.nl 1,.nl 1,.nl 3,.nl 4,.int .i64 (0),.nl 5] [],qm 12 6,qs 9 4 11,qm 5 12]
def QNB(F:Fn):LL:=[qL 13 25 2,qc 14 (F "aV") [.t 13],qL 15 9 3,qc 16 (F "bH") [.t 14,.t 15],qx 17 16 0,qx 18 16 1,qs 9 4 17,qm 5 18]
def Qfv(F:Fn):LC:=QQ [.reg QNx [2,3,4],QQ [.reg (QNy F) [2,3,4,6],.reg QNz [2,3,4,6,10],.cond (.t 10) (QQ [.reg QNA [4,5],.ret]) .skip],.dreg [(1,none,[],true),(2,(some 0),[1],false)] (QNB F) [4,5],.ret]
def QZZ:Hints:=hOf [] (Qfv fun _=>0)
def lfD(r:Cnd×Int):D:=if r.2=0 then cnD r.1 else kD (0,[])
def Z2(s:Spn)(c:Cnd):Cnd×Int:=if XV c≠0 then (.tt,XV c) else if (lft c s).2≠0 then (.tt,(lft c s).2) else if XV (lft c s).1≠0 then (.tt,XV (lft c s).1) else ((lft c s).1,0)
attribute [go_sem] QMO QMP QMQ QMR QMS QMT QMU QMV QMW QMX QMY QMZ QM0 Qfs QM1 QM2 QM3 QM4 QM5 QM6 QM7 QM8 QM9 QNa QNb QNc QNd QNe QNf QNg QNh QNi QNj QNk QNl Qft QNm QNn QNo QNp QNq QNr QNs QNt QNu QNv QNw Qfu QNx QNy QNz QNA QNB Qfv
section
variable (P:Program) (F:String→Nat)
def Qda(n:Nat):Prop:=∀(c:Cnd)(s:Spn),csz c=n→n≤2000→Q3 s.r c→SpnOk s→FC P (F "D") [YV s,cnD c] (.tup [lfD (lft c s),.int .i64 (lft c s).2]) []
def QmK:Prop:=∀n,Qda P F n
def QmL:Prop:=∀(n:Nat),(∀m,m<n→Qda P F m)→∀(c:Cnd)(s:Spn),csz c=n→n≤2000→Q9 c=5→Q3 s.r c→SpnOk s→FC P (F "bu") [YV s,cnD c] (.tup [lfD (lft c s),.int .i64 (lft c s).2]) []
def QmM:Prop:=∀(c:Cnd)(s:Spn),csz c≤2000→Q3 s.r c→SpnOk s→FC P (F "bH") [YV s,cnD c] (.tup [lfD (Z2 s c),.int .i64 (Z2 s c).2]) []
def Qfw:Prop:=∀(nm:ByteArray)(c:Cnd)(s:Spn),csz c≤2000→Q3 s.r c→SpnOk s→FC P (F "q") [ruD nm s,cnD c] (.tup [lfD (Z2 s c),.int .i64 (Z2 s c).2]) []
end
section
theorem QmN(s:Spn):∀l m:List Cnd,Xq (l++m) s=if (Xq l s).2≠0 then ([],(Xq l s).2) else if (Xq m s).2≠0 then ([],(Xq m s).2) else ((Xq l s).1++(Xq m s).1,0)
 |[],m=>by
  have:Xq [] s=([],0):=by simp only[Xq]
  rw[this,if_neg (by simp)]
  by_cases c:(Xq m s).2=0
  ·rw[if_neg (by simp [c]),List.nil_append,List.nil_append]
   exact Prod.ext rfl c
  ·rw[if_pos c,List.nil_append]
   refine Prod.ext ?_ rfl
   cases m with
   |nil=>exact absurd (by simp only[Xq]) c
   |cons a m=>
    simp only[Xq] at c ⊢
    split
    ·rfl
    ·split
     ·rfl
     ·rename_i h1 h2
      rw[if_neg h1,if_neg h2] at c
      exact absurd rfl c
 |a::l,m=>by
  have ih:=QmN s l m
  simp only[List.cons_append,Xq,ih]
  by_cases c1:(lft a s).2=0
  ·by_cases c2:(Xq l s).2=0
   ·by_cases c3:(Xq m s).2=0
    ·simp [c1,c2,c3]
    ·simp [c1,c2,c3]
   ·simp [c1,c2]
  ·simp [c1]
theorem QNC(s:Spn)(c:Cnd):Xq [c] s=if (lft c s).2≠0 then ([],(lft c s).2) else ([(lft c s).1],0):=by
 simp only[Xq]
 simp
theorem QZ0{s:Spn}{l:List Cnd}{i:Nat}(h:i<l.length)(h0:(Xq (l.take i) s).2=0):Xq (l.take (i+1)) s=if (lft (gt l (i:Int)) s).2≠0 then ([],(lft (gt l (i:Int)) s).2) else ((Xq (l.take i) s).1++[(lft (gt l (i:Int)) s).1],0):=by
 rw[Yk h,QmN,QNC,if_neg (by simp [h0])]
 by_cases c:(lft (gt l (i:Int)) s).2=0
 ·simp [c]
 ·simp [c]
theorem QZ1{s:Spn}{l:List Cnd}{i:Nat}(h0:(Xq (l.take i) s).2≠0):(Xq l s).2=(Xq (l.take i) s).2:=by
 have:=QmN s (l.take i) (l.drop i)
 rw[List.take_append_drop,if_pos h0] at this
 rw[this]
theorem QND(s:Spn):∀l:List Cnd,(Xq l s).1.length≤l.length
 |[]=>by simp [Xq]
 |c::l=>by
  have:=QND s l
  simp only[Xq]
  split
  ·simp
  ·split
   ·simp
   ·simp;omega
theorem QZ2{c:Cnd}(hk:Q9 c≠5)(s:Spn):(lft c s).2=(Xq (QU c) s).2∧lfD (lft c s)=if (Xq (QU c) s).2=0 then kD (Q9 c,cds (Xq (QU c) s).1) else kD (0,[]):=by
 cases c with
 |tt=>
  simp only[lft,QU,Xq,lfD]
  exact⟨trivial,(Qan .tt _ [] rfl rfl rfl rfl).symm⟩
 |no c=>
  simp only[lft,QU,QNC,lfD,Q9]
  by_cases h:(lft c s).2=0
  ·simp only[h,ne_eq,not_true_eq_false,if_true,if_false]
   exact⟨trivial,(Qan (.no (lft c s).1) _ _ rfl rfl rfl rfl).symm⟩
  ·simp [h]
 |an l=>
  simp only[lft,QU,lfD,Q9]
  by_cases h:(Xq l s).2=0
  ·simp only[h,if_true]
   exact⟨trivial,(Qan (.an (Xq l s).1) _ _ rfl rfl rfl rfl).symm⟩
  ·simp [h]
 |or l=>
  simp only[lft,QU,lfD,Q9]
  by_cases h:(Xq l s).2=0
  ·simp only[h,if_true]
   exact⟨trivial,(Qan (.or (Xq l s).1) _ _ rfl rfl rfl rfl).symm⟩
  ·simp [h]
 |ex=>simp [Q9] at hk
mutual
theorem Qdb:∀(c:Cnd)(s:Spn),csz (lft c s).1≤csz c
 | .tt,s=>by simp only[lft];exact Qf _
 | .no c,s=>by
  have:=Qdb c s
  have:=QeW c
  simp only[lft]
  split<;>simp only[csz]<;>omega
 | .an l,s=>by
  have:=QmO l s
  simp only[lft]
  split<;>simp only[csz]<;>omega
 | .or l,s=>by
  have:=QmO l s
  simp only[lft]
  split<;>simp only[csz]<;>omega
 | .ex m x c,s=>by
  have:=QeW c
  simp only[lft]
  split
  ·simp only[csz];omega
  ·split
   ·simp only[csz];omega
   ·split
    ·have:=Qdb c (Jg x (poG (Xs s m x (cxR (Q0 s m x)).1)) (cxR (Q0 s m x)).1 (poK (Xs s m x (cxR (Q0 s m x)).1)))
     simp only[csz];omega
    ·simp only[csz];omega
theorem QmO:∀(l:List Cnd)(s:Spn),Xu (Xq l s).1≤Xu l
 |[],s=>by simp only[Xq];exact Qf _
 |c::l,s=>by
  have:=Qdb c s
  have:=QmO l s
  simp only[Xq]
  split
  ·simp only[Xu];omega
  ·split
   ·simp only[Xu];omega
   ·simp only[Xu];omega
end
theorem QZ3{a:G}{c:Cnd}(hk5:Q9 c≠5)(hov:Q3 a c){k:Cnd}(hm:k∈QU c):Q3 a k:=by
 cases c
 case tt=>simp [QU] at hm
 case no c=>
  simp only[QU,Qn] at hm
  rw[hm]
  simpa only[Q3] using hov
 case an l=>
  simp only[Q3,Ju,QU] at hov hm
  exact hov.2 _ hm
 case or l=>
  simp only[Q3,Ju,QU] at hov hm
  exact hov.2 _ hm
 case ex=>simp [Q9] at hk5
end
section
variable {P:Program} {F:String→Nat} {α:Type}
set_option maxRecDepth 100000 in
theorem QZ4(hx:QmL P F)(n:Nat)(ih:∀m,m<n→Qda P F m)(c:Cnd)(s:Spn)(hc:csz c=n)(hn:n≤2000)(hov:Q3 s.r c)(hs:SpnOk s):
  W P (Qfs F) (DoneZ [.c 4 true 9,.t 5] [] (.tup [lfD (lft c s),.int .i64 (lft c s).2]) []) (init [YV s,cnD c]):=by
 refine ZH ?_
 have d0:decide ((0:Int)=0)=true:=rfl
 by_cases hk5:Q9 c=5
 ·have r:=hx n ih c s hc hn hk5 hov hs
  have hR:∃k l mn me pn pe,lfD (lft c s)=.agg [.int .i64 k,.lst 9 l,.lst 1 mn,.lst 1 me,.lst 1 pn,.lst 3 pe,.lst 4 [],.int .i64 0,.lst 5 []]:=by
   unfold lfD
   split
   ·exact⟨_,_,_,_,_,_,Q4 _⟩
   ·exact⟨_,_,[],[],[],[],rfl⟩
  obtain⟨k,l,mn,me,pn,pe,hR⟩:=hR
  rw[hR] at r ⊢
  rw[Q4] at r ⊢
  rw[hk5] at r ⊢
  simp only[YV] at*
  simp(disch:=omega)only[go_sem,show decide ((5:Int)=5)=true from rfl]
  refine QT r ?_
  simp(disch:=omega)only[go_sem]
  try rfl
 ·obtain⟨q1,q2⟩:=QZ2 hk5 s
  rw[q1,q2,Q4]
  have e1:=JA c
  have hl:=Qal (QU c)
  have hl2:(QU c).length≤2000:=by omega
  have R:∀i:Nat,i<(QU c).length→FC P (F "D") [YV s,cnD (gt (QU c) (i:Int))] (.tup [lfD (lft (gt (QU c) (i:Int)) s),.int .i64 (lft (gt (QU c) (i:Int)) s).2]) []:=fun i hi=>by
   have hz:=J5 hi
   exact ih _ (by omega) _ s rfl (by omega) (QZ3 hk5 hov (gt_mem (by omega) (by omega))) hs
  have S0:Xq ((QU c).take 0) s=([],0):=by simp only[List.take_zero,Xq]
  have SE:Xq ((QU c).take (QU c).length) s=Xq (QU c) s:=by rw[List.take_length]
  have SS:=fun i (hi:i<(QU c).length) h0=>QZ0 (s:=s) hi h0
  have SR:=fun i h0=>QZ1 (s:=s) (l:=QU c) (i:=i) h0
  have SL:∀i:Nat,i≤(QU c).length→(Xq ((QU c).take i) s).1.length≤i:=fun i hi=>by
   have:=QND s ((QU c).take i)
   rw[Qj] at this
   omega
  have hU:∀i:Nat,(lft (gt (QU c) (i:Int)) s).2=0→lfD (lft (gt (QU c) (i:Int)) s)=cnD (lft (gt (QU c) (i:Int)) s).1:=fun i h=>by unfold lfD;rw[if_pos h]
  have hU0:∀i:Nat,(lft (gt (QU c) (i:Int)) s).2≠0→lfD (lft (gt (QU c) (i:Int)) s)=kD (0,[]):=fun i h=>by unfold lfD;rw[if_neg h]
  have hk6:decide (Q9 c=5)=false:=Qc hk5
  generalize Xq (QU c) s=X at*
  generalize hV:(fun i:Nat=>Xq ((QU c).take i) s)=V
  have hV':∀i:Nat,Xq ((QU c).take i) s=V i:=fun i=>congrFun hV i
  simp only[hV'] at*
  generalize hU':(fun i:Nat=>lft (gt (QU c) (i:Int)) s)=U
  have hU'':∀i:Nat,lft (gt (QU c) (i:Int)) s=U i:=fun i=>congrFun hU' i
  simp only[hU''] at*
  clear ih q1 q2 hc e1 hV hV' hU' hU'' hov hl hx hs
  generalize Q9 c=k at*
  generalize (Xn c).n=mn at*
  generalize (Xn c).e=me at*
  generalize (Xk c).n=pn at*
  generalize (Xk c).e=pe at*
  generalize QU c=l at*
  obtain⟨⟨ln,le⟩,⟨rn,re⟩,⟨kn,ke⟩,⟨i_n,i_e⟩⟩:=s
  simp only[YV] at*
  have cl:=fun i=>Qk7 (V i).1
  simp(disch:=omega)only[go_sem,d0,hk6]
  refine Q5 (fun i:Nat=>⟨[(2,.pt 0 0),(4,.pt 8 0),(6,.pt 16 0),(23,.lst 9 (cds l)),(24,.int .i64 l.length),(25,.int .i64 i)],
   [(0,.box [.lst 1 (QR ln),.lst 3 (eds le),.lst 1 (QR rn),.lst 3 (eds re),.lst 1 (QR kn),.lst 1 (QR ke),.lst 1 (QR i_n),.lst 1 (QR i_e)]),
    (1,.arr 9 []),(2,.arr 1 []),(3,.arr 1 []),(4,.arr 1 []),(5,.arr 3 []),(6,.arr 4 []),(7,.arr 5 []),
    (8,.box [.int .i64 0,.sl 1 0 0,.sl 2 0 0,.sl 3 0 0,.sl 4 0 0,.sl 5 0 0,.sl 6 0 0,.int .i64 0,.sl 7 0 0]),
    (9,.arr 9 (cds (V i).1)),(10,.arr 1 []),(11,.arr 1 []),(12,.arr 1 []),(13,.arr 3 []),(14,.arr 4 []),(15,.arr 5 []),
    (16,.box [.int .i64 k,.sl 9 0 (V i).1.length,.sl 10 0 0,.sl 11 0 0,.sl 12 0 0,.sl 13 0 0,.sl 14 0 0,.int .i64 0,.sl 15 0 0])],17⟩) (fun i=>i≤l.length∧(V i).2=0) (fun i=>l.length-i) 0 ?_ ?_ ?_
  ·simp(disch:=omega)only[go_sem]
   rw[S0]
   rfl
  ·exact⟨by omega,by rw[S0]⟩
  ·rintro i ⟨hi,hv0⟩
   have sl:=SL i hi
   have cli:=cl i
   by_cases h:i<l.length
   ·have g2:decide ((i:Int)<l.length)=true:=Qd (by omega)
    have r:=R i h
    have ss:=SS i h hv0
    by_cases hu:(U i).2=0
    ·rw[hU i hu,Q4,hu] at r
     rw[if_neg (by simp [hu])] at ss
     rw[Q4] at r
     have s1:cds (V (i+1)).1=cds (V i).1++[cnD (U i).1]:=by rw[ss];simp [cds]
     have s2:(V (i+1)).1.length=(V i).1.length+1:=by rw[ss];simp
     rw[Q4] at s1
     simp(disch:=omega)only[go_sem,Qfr,g2]
     refine QT r ?_
     simp(disch:=omega)only[go_sem,d0,cli]
     exact⟨i+1,by simp [s1,s2],⟨by omega,by rw[ss]⟩,by omega⟩
    ·rw[hU0 i hu] at r
     rw[Q4] at r
     rw[if_pos hu] at ss
     have hX:X.2=(U i).2:=by
      have:=SR (i+1) (by rw[ss];exact hu)
      rw[ss] at this
      exact this
     have g3:decide ((U i).2=0)=false:=Qc hu
     rw[hX,if_neg hu]
     simp only[kD] at r
     simp(disch:=omega)only[go_sem,Qfr,g2]
     refine QT r ?_
     simp(disch:=omega)only[go_sem,g3]
     rfl
   ·obtain rfl:i=l.length:=by omega
    have g2:decide ((l.length:Int)<l.length)=false:=Qc (by omega)
    have hX:X.2=0:=by rw[←SE];exact hv0
    rw[hX,if_pos rfl,←SE]
    simp(disch:=omega)only[go_sem,Qfr,g2,cli]
    rfl
set_option maxRecDepth 100000 in
theorem QZ5(hsr:QmC P F)(hco:Qj8 P F)(hno:QmE P F)(hex:QeH P F)(hpi:QmG P F)(hat:QmF P F)(hpo:Qjd P F)(hbw:QmH P F)(n:Nat)(ih:∀m,m<n→Qda P F m)(c:Cnd)(s:Spn)(hc:csz c=n)(hn:n≤2000)(hk5:Q9 c=5)(hov:Q3 s.r c)(hs:SpnOk s):
  W P (Qft F) (DoneZ [.c 4 true 9,.t 5] [] (.tup [lfD (lft c s),.int .i64 (lft c s).2]) []) (init [YV s,cnD c]):=by
 refine ZH ?_
 have d0:decide ((0:Int)=0)=true:=rfl
 obtain⟨m,x,k,rfl⟩:∃nm p d,c=.ex nm p d:=by
  cases c<;>simp [Q9] at hk5
  exact⟨_,_,_,rfl⟩
 simp only[Q3] at hov
 obtain⟨hm,hk⟩:=hov
 have hcs:csz (.ex m x k)=1+csz k:=by simp [csz]
 obtain⟨e0,hx⟩:=QkV hs hm
 obtain⟨v1,v2,_⟩:=Q8 hs.i.ok.va
 obtain⟨v3,v4,_⟩:=Q8 hm.ok.va
 obtain⟨v5,v6,_⟩:=Q8 hm.ok.vb
 have l1:=hs.i.ok.ln
 have l2:=hs.i.ok.le
 have l3:=hm.ok.ln
 have l4:=hm.ok.le
 have s1:=Zf s.i.n
 have s2:=Zf s.i.e
 have r1:=hsr s.i.n (by omega)
 have r2:=hsr s.i.e (by omega)
 have r3:=hco (Q0 s m x) ⟨by show (srt s.i.n).length≤QW;unfold QW;omega,by show (srt s.i.e).length≤QW;unfold QW;omega⟩
 have hz:=Qbe (l:=[k]) (by simp)
 have hg:gt [k] 0=k:=rfl
 rw[hg] at hz
 rcases hx with⟨ex1,hd⟩|⟨ex1,hd⟩
 ·have q:lft (.ex m x k) s=(.no .tt,0):=by simp only[lft,ex1];rw[if_pos (by simp)]
  rw[q]
  have q2:lfD (.no .tt,0)=cnD (.no .tt):=rfl
  rw[q2]
  rw[ex1] at r3
  have r4:FC P (F "as") [] (cnD (.no .tt)) []:=hno
  rw[QMN] at r4 ⊢
  rw[Q4]
  clear ih hsr hco hno hex hpi hat hpo hbw hs hm hk
  simp only[Q0,YF] at r3
  obtain⟨⟨ln,le⟩,⟨rn,re⟩,⟨kn,ke⟩,⟨i_n,i_e⟩⟩:=s
  obtain⟨xn,xe⟩:=x
  obtain⟨mn,me⟩:=m
  simp only[YV,gD,mD,mA,m0,Q9,QU,Xn,Xk] at*
  generalize srt i_n=sn at*
  generalize srt i_e=se at*
  have d1:decide ((14:Int)=0)=false:=rfl
  simp(disch:=omega)only[go_sem]
  refine QT r1 ?_
  simp(disch:=omega)only[go_sem]
  refine QT r2 ?_
  simp(disch:=omega)only[go_sem]
  refine QT r3 ?_
  simp(disch:=omega)only[go_sem,d1]
  refine QT r4 ?_
  simp(disch:=omega)only[go_sem]
  try rfl
 ·obtain⟨ez,bZ⟩:=QFl hs hm hd
  have hzk:PK x (cxP (Q0 s m x)):=by
   have z1:=Qba (kn:=(Q0 s m x).k.n) (show (Q0 s m x).m.n.Nodup from hm.nn)
   have z2:=Qba (kn:=(Q0 s m x).k.e) (show (Q0 s m x).m.e.Nodup from hm.ne)
   exact QeN e0 z1 z2 hd
  have q:lft (.ex m x k) s=if Yt (Xs s m x (cxP (Q0 s m x)))≠0 then (.tt,Yt (Xs s m x (cxP (Q0 s m x)))) else if (lft k (Jg x (poG (Xs s m x (cxP (Q0 s m x)))) (cxP (Q0 s m x)) (poK (Xs s m x (cxP (Q0 s m x)))))).2=0 then (.ex (poP (Xs s m x (cxP (Q0 s m x)))) (poG (Xs s m x (cxP (Q0 s m x)))) (lft k (Jg x (poG (Xs s m x (cxP (Q0 s m x)))) (cxP (Q0 s m x)) (poK (Xs s m x (cxP (Q0 s m x)))))).1,0) else (.tt,(lft k (Jg x (poG (Xs s m x (cxP (Q0 s m x)))) (cxP (Q0 s m x)) (poK (Xs s m x (cxP (Q0 s m x)))))).2):=by
   simp only[lft,ex1]
   rw[if_neg (by simp)]
  rw[q]
  rw[ex1] at r3
  have ek:exR s.l s.k=(ptG s.l s.k,s.k,0):=by unfold exR;rw[if_neg (by simp [validP_ok.2 hs.k])]
  have ep:exR x (cxP (Q0 s m x))=(ptG x (cxP (Q0 s m x)),cxP (Q0 s m x),0):=by unfold exR;rw[if_neg (by simp [validP_ok.2 hzk])]
  have r4:=hex x (cxP (Q0 s m x)) hzk.sm
  have r5:=hex s.l s.k hs.k.sm
  rw[ek] at r5
  rw[ep] at r4
  have lz:=hzk.len
  have r6:=hpi m.n s.i.n (by omega) (by omega) (fun y hy=>by
   obtain⟨j,hj,rfl⟩:=X2 hy
   have:=hs.i.bn (x:=(j:Int)) (Bd.of (by omega))
   exact⟨this.1,by rw[l3];exact this.2⟩)
  have r7:=hpi m.e s.i.e (by omega) (by omega) (fun y hy=>by
   obtain⟨j,hj,rfl⟩:=X2 hy
   have:=hs.i.be (x:=(j:Int)) (Bd.of (by omega))
   exact⟨this.1,by rw[l4];exact this.2⟩)
  have r8:=hat (cxP (Q0 s m x)).n (thr s.i.n m.n) (by omega) (by rw[Xp];omega)
  have r9:=hat (cxP (Q0 s m x)).e (thr s.i.e m.e) (by omega) (by rw[Xp];omega)
  have r10:=hpo (Xs s m x (cxP (Q0 s m x)))
  by_cases hp:Yt (Xs s m x (cxP (Q0 s m x)))=0
  ·have hpo':=poErr_ok.1 hp
   have bY:=QkQ hpo' (Qak hs.k) bZ.eg
   obtain⟨hs2,_,_⟩:=QFj bY.ek ez
   have hpr:poR (Xs s m x (cxP (Q0 s m x)))=(poG (Xs s m x (cxP (Q0 s m x))),poP (Xs s m x (cxP (Q0 s m x))),poK (Xs s m x (cxP (Q0 s m x))),0):=by unfold poR;rw[if_pos hp]
   rw[hpr] at r10
   have y1:=bY.ek.ok.ln
   have y2:=bY.ek.ok.le
   have y3:(Xs s m x (cxP (Q0 s m x))).c.n.length=(cxP (Q0 s m x)).n.length:=Xp _ _
   have y4:(Xs s m x (cxP (Q0 s m x))).c.e.length=(cxP (Q0 s m x)).e.length:=Je _ _ _
   have r11:=hsr (poK (Xs s m x (cxP (Q0 s m x)))).n (by omega)
   have r12:=hsr (poK (Xs s m x (cxP (Q0 s m x)))).e (by omega)
   have s3:=Zf (poK (Xs s m x (cxP (Q0 s m x)))).n
   have s4:=Zf (poK (Xs s m x (cxP (Q0 s m x)))).e
   have r13:=hbw (srt (poK (Xs s m x (cxP (Q0 s m x)))).n) (poK (Xs s m x (cxP (Q0 s m x)))).n (cxP (Q0 s m x)).n (by omega) (by omega) (by omega) (fun y hy=>srt_mem.1 hy)
   have r14:=hbw (srt (poK (Xs s m x (cxP (Q0 s m x)))).e) (poK (Xs s m x (cxP (Q0 s m x)))).e (cxP (Q0 s m x)).e (by omega) (by omega) (by omega) (fun y hy=>srt_mem.1 hy)
   have r15:=ih (csz k) (by omega) k (Jg x (poG (Xs s m x (cxP (Q0 s m x)))) (cxP (Q0 s m x)) (poK (Xs s m x (cxP (Q0 s m x))))) rfl (by omega) hk hs2
   rw[if_neg (by simp [hp])]
   have q3:∀(p:Mo)(y:G)(L:Cnd×Int),lfD (if L.2=0 then ((.ex p y L.1:Cnd),(0:Int)) else (.tt,L.2))=if L.2=0 then cnD (.ex p y L.1) else kD (0,[]):=fun p y L=>by
    by_cases h:L.2=0
    ·rw[if_pos h,if_pos h];rfl
    ·rw[if_neg h,if_neg h,lfD,if_neg h]
   have q4:∀(p:Mo)(y:G)(L:Cnd×Int),(if L.2=0 then ((.ex p y L.1:Cnd),(0:Int)) else (.tt,L.2)).2=L.2:=fun p y L=>by
    by_cases h:L.2=0
    ·rw[if_pos h,h]
    ·rw[if_neg h]
   rw[q3,q4]
   unfold lfD at r15
   clear q3 q4
   clear ih hsr hco hno hex hpi hat hpo hbw hs hm hk hpo' bY hs2 hp hpr ez bZ hzk ek ep q ex1 hd
   generalize hL:lft k _=L at*
   clear hL
   simp only[Jg,YF] at r15
   generalize poG (Xs s m x (cxP (Q0 s m x)))=y at*
   generalize poP (Xs s m x (cxP (Q0 s m x)))=p at*
   generalize poK (Xs s m x (cxP (Q0 s m x)))=q at*
   simp only[Xs] at r10
   generalize cxP (Q0 s m x)=z at*
   simp only[Q0,YF] at r3
   generalize ptG x z=px at*
   generalize ptG s.l s.k=pk at*
   clear y1 y2 y3 y4
   obtain⟨⟨ln,le⟩,⟨rn,re⟩,⟨kn,ke⟩,⟨i_n,i_e⟩⟩:=s
   obtain⟨xn,xe⟩:=x
   obtain⟨mn,me⟩:=m
   obtain⟨yn,ye⟩:=y
   obtain⟨pn,pe⟩:=p
   obtain⟨qn,qe⟩:=q
   obtain⟨zn,ze⟩:=z
   obtain⟨pxn,pxe⟩:=px
   obtain⟨pkn,pke⟩:=pk
   simp only at*
   generalize thr i_n mn=tn at*
   generalize thr i_e me=te at*
   generalize atL zn tn=an at*
   generalize atL ze te=ae at*
   generalize srt i_n=sn at*
   generalize srt i_e=se at*
   generalize Zm (srt qn) qn zn=bn at*
   generalize Zm (srt qe) qe ze=be at*
   generalize srt qn=qsn at*
   generalize srt qe=qse at*
   generalize L.2=er at*
   generalize L.1=d at*
   simp only[YV,gD,mD,gA,mA,spD,poD,Q9,QU,Xn,Xk] at*
   by_cases her:er=0
   ·subst her
    rw[if_pos rfl,Q4 k,Q4 d] at r15
    have hE:cnD (.ex ⟨pn,pe⟩ ⟨yn,ye⟩ d)=.agg [.int .i64 5,.lst 9 [.agg [.int .i64 (Q9 d),.lst 9 (cds (QU d)),.lst 1 (QR (Xn d).n),.lst 1 (QR (Xn d).e),.lst 1 (QR (Xk d).n),.lst 3 (eds (Xk d).e),.lst 4 [],.int .i64 0,.lst 5 []]],.lst 1 (QR pn),.lst 1 (QR pe),.lst 1 (QR yn),.lst 3 (eds ye),.lst 4 [],.int .i64 0,.lst 5 []]:=by
     rw[←Q4 d,Q4 (.ex _ _ d)]
     rfl
    rw[if_pos rfl,hE,Q4 (.ex ⟨mn,me⟩ ⟨xn,xe⟩ k)]
    simp only[Q9,QU,Xn,Xk]
    simp(disch:=omega)only[go_sem]
    refine QT r1 ?_
    simp(disch:=omega)only[go_sem]
    refine QT r2 ?_
    simp(disch:=omega)only[go_sem]
    refine QT r3 ?_
    simp(disch:=omega)only[go_sem,d0]
    refine QT r4 ?_
    simp(disch:=omega)only[go_sem,d0]
    refine QT r5 ?_
    simp(disch:=omega)only[go_sem,d0]
    refine QT r6 ?_
    simp(disch:=omega)only[go_sem]
    refine QT r8 ?_
    simp(disch:=omega)only[go_sem]
    refine QT r7 ?_
    simp(disch:=omega)only[go_sem]
    refine QT r9 ?_
    simp(disch:=omega)only[go_sem]
    refine QT r10 ?_
    simp(disch:=omega)only[go_sem,d0]
    refine QT r11 ?_
    simp(disch:=omega)only[go_sem]
    refine QT r12 ?_
    simp(disch:=omega)only[go_sem]
    refine QT r13 ?_
    simp(disch:=omega)only[go_sem]
    refine QT r14 ?_
    simp(disch:=omega)only[go_sem,hz]
    refine QT r15 ?_
    simp(disch:=omega)only[go_sem,d0]
   ·rw[if_neg her,Q4 k] at r15
    rw[if_neg her,Q4]
    have d1:decide (er=0)=false:=Qc her
    simp only[kD,Q9,QU,Xn,Xk] at*
    simp(disch:=omega)only[go_sem]
    refine QT r1 ?_
    simp(disch:=omega)only[go_sem]
    refine QT r2 ?_
    simp(disch:=omega)only[go_sem]
    refine QT r3 ?_
    simp(disch:=omega)only[go_sem,d0]
    refine QT r4 ?_
    simp(disch:=omega)only[go_sem,d0]
    refine QT r5 ?_
    simp(disch:=omega)only[go_sem,d0]
    refine QT r6 ?_
    simp(disch:=omega)only[go_sem]
    refine QT r8 ?_
    simp(disch:=omega)only[go_sem]
    refine QT r7 ?_
    simp(disch:=omega)only[go_sem]
    refine QT r9 ?_
    simp(disch:=omega)only[go_sem]
    refine QT r10 ?_
    simp(disch:=omega)only[go_sem,d0]
    refine QT r11 ?_
    simp(disch:=omega)only[go_sem]
    refine QT r12 ?_
    simp(disch:=omega)only[go_sem]
    refine QT r13 ?_
    simp(disch:=omega)only[go_sem]
    refine QT r14 ?_
    simp(disch:=omega)only[go_sem,hz]
    refine QT r15 ?_
    simp(disch:=omega)only[go_sem,d1]
    rfl
  ·have hpr:poR (Xs s m x (cxP (Q0 s m x)))=(g0,m0,m0,Yt (Xs s m x (cxP (Q0 s m x)))):=by unfold poR;rw[if_neg hp]
   rw[hpr] at r10
   rw[if_pos hp]
   have hl2:lfD ((.tt:Cnd),Yt (Xs s m x (cxP (Q0 s m x))))=kD (0,[]):=by unfold lfD;rw[if_neg hp]
   rw[hl2,Q4]
   have d1:decide (Yt (Xs s m x (cxP (Q0 s m x)))=0)=false:=Qc hp
   clear ih hsr hco hno hex hpi hat hpo hbw hs hm hk hp hpr ez bZ hzk ek ep q ex1 hd hl2
   generalize Yt _=er at*
   simp only[Xs] at r10
   generalize cxP (Q0 s m x)=z at*
   simp only[Q0,YF] at r3
   generalize ptG x z=px at*
   generalize ptG s.l s.k=pk at*
   obtain⟨⟨ln,le⟩,⟨rn,re⟩,⟨kn,ke⟩,⟨i_n,i_e⟩⟩:=s
   obtain⟨xn,xe⟩:=x
   obtain⟨mn,me⟩:=m
   obtain⟨zn,ze⟩:=z
   obtain⟨pxn,pxe⟩:=px
   obtain⟨pkn,pke⟩:=pk
   simp only at*
   generalize thr i_n mn=tn at*
   generalize thr i_e me=te at*
   generalize atL zn tn=an at*
   generalize atL ze te=ae at*
   generalize srt i_n=sn at*
   generalize srt i_e=se at*
   simp only[YV,gD,mD,gA,mA,spD,poD,kD,g0,m0,Q9,QU,Xn,Xk] at*
   simp(disch:=omega)only[go_sem]
   refine QT r1 ?_
   simp(disch:=omega)only[go_sem]
   refine QT r2 ?_
   simp(disch:=omega)only[go_sem]
   refine QT r3 ?_
   simp(disch:=omega)only[go_sem,d0]
   refine QT r4 ?_
   simp(disch:=omega)only[go_sem,d0]
   refine QT r5 ?_
   simp(disch:=omega)only[go_sem,d0]
   refine QT r6 ?_
   simp(disch:=omega)only[go_sem]
   refine QT r8 ?_
   simp(disch:=omega)only[go_sem]
   refine QT r7 ?_
   simp(disch:=omega)only[go_sem]
   refine QT r9 ?_
   simp(disch:=omega)only[go_sem]
   refine QT r10 ?_
   simp(disch:=omega)only[go_sem,d1]
   rfl
theorem QZ6(r:Cnd×Int):∃k l mn me pn pe,lfD r=.agg [.int .i64 k,.lst 9 l,.lst 1 mn,.lst 1 me,.lst 1 pn,.lst 3 pe,.lst 4 [],.int .i64 0,.lst 5 []]:=by
 unfold lfD
 split
 ·exact⟨_,_,_,_,_,_,Q4 _⟩
 ·exact⟨_,_,[],[],[],[],rfl⟩
theorem QZ7(hv:Qc4 P F)(hl:QmK P F)(c:Cnd)(s:Spn)(hc:csz c≤2000)(hov:Q3 s.r c)(hs:SpnOk s):
  W P (Qfu F) (DoneZ [.c 4 true 9,.t 5] [] (.tup [lfD (Z2 s c),.int .i64 (Z2 s c).2]) []) (init [YV s,cnD c]):=by
 refine ZH ?_
 have d0:decide ((0:Int)=0)=true:=rfl
 have r1:=hv s.r c (by omega) hs.i.ok.vb hov
 have r2:=hl (csz c) c s rfl hc hov hs
 have hsz:=Qdb c s
 have r3:(lft c s).2=0→FC P (F "l") [gD s.l,cnD (lft c s).1] (.int .i64 (XV (lft c s).1)) []:=fun h=>hv s.l (lft c s).1 (by omega) hs.k.v (((Qbc c s hov hs).2 h).1)
 unfold Z2
 clear hv hl hov hs hsz
 generalize XV c=e1 at*
 generalize lft c s=L at*
 obtain⟨d,e2⟩:=L
 simp only at*
 obtain⟨⟨ln,le⟩,⟨rn,re⟩,⟨kn,ke⟩,⟨i_n,i_e⟩⟩:=s
 rw[Q4] at r1 r2 ⊢
 by_cases h1:e1=0
 ·subst h1
  rw[if_neg (by simp)]
  by_cases h2:e2=0
  ·subst h2
   rw[if_neg (by simp)]
   replace r3:=r3 rfl
   have hl:lfD (d,0)=cnD d:=rfl
   rw[hl] at r2
   rw[Q4] at r2 r3
   by_cases h3:XV d=0
   ·rw[if_neg (by simp [h3])]
    rw[h3] at r3
    rw[hl,Q4]
    simp only[YV,gD,mD] at*
    simp(disch:=omega)only[go_sem]
    refine QT r1 ?_
    simp(disch:=omega)only[go_sem,d0]
    refine QT r2 ?_
    simp(disch:=omega)only[go_sem,d0]
    refine QT r3 ?_
    simp(disch:=omega)only[go_sem,d0]
    try rfl
   ·rw[if_pos h3]
    have hl2:lfD ((.tt:Cnd),XV d)=kD (0,[]):=by unfold lfD;rw[if_neg h3]
    have d1:decide (XV d=0)=false:=Qc h3
    rw[hl2]
    simp only[YV,gD,mD,kD] at*
    simp(disch:=omega)only[go_sem]
    refine QT r1 ?_
    simp(disch:=omega)only[go_sem,d0]
    refine QT r2 ?_
    simp(disch:=omega)only[go_sem,d0]
    refine QT r3 ?_
    simp(disch:=omega)only[go_sem,d1]
    rfl
  ·rw[if_pos h2]
   have hl:lfD (d,e2)=kD (0,[]):=by unfold lfD;rw[if_neg h2]
   have hl2:lfD ((.tt:Cnd),e2)=kD (0,[]):=by unfold lfD;rw[if_neg h2]
   have d1:decide (e2=0)=false:=Qc h2
   rw[hl] at r2
   rw[hl2]
   simp only[YV,gD,mD,kD] at*
   simp(disch:=omega)only[go_sem]
   refine QT r1 ?_
   simp(disch:=omega)only[go_sem,d0]
   refine QT r2 ?_
   simp(disch:=omega)only[go_sem,d1]
   rfl
 ·rw[if_pos h1]
  have hl2:lfD ((.tt:Cnd),e1)=kD (0,[]):=by unfold lfD;rw[if_neg h1]
  have d1:decide (e1=0)=false:=Qc h1
  rw[hl2]
  simp only[YV,gD,mD,kD] at*
  simp(disch:=omega)only[go_sem]
  refine QT r1 ?_
  simp(disch:=omega)only[go_sem,d1]
  rfl
theorem QZ8(hst:QmJ P F)(hof:QmI P F)(hm:QmM P F)(nm:ByteArray)(c:Cnd)(s:Spn)(hc:csz c≤2000)(hov:Q3 s.r c)(hs:SpnOk s):
  W P (Qfv F) (DoneZ [.c 4 true 9,.t 5] [] (.tup [lfD (Z2 s c),.int .i64 (Z2 s c).2]) []) (init [ruD nm s,cnD c]):=by
 refine ZH ?_
 have d0:decide ((0:Int)=0)=true:=rfl
 have r1:=hst nm s hs
 have r2:=hof nm s
 have r3:=hm c s hc hov hs
 generalize hR:Z2 s c=R at*
 obtain⟨k,l,mn,me,pn,pe,hq⟩:=QZ6 R
 rw[hq] at r3 ⊢
 rw[Q4] at r3 ⊢
 clear hR hq hst hof hm
 obtain⟨⟨ln,le⟩,⟨rn,re⟩,⟨kn,ke⟩,⟨i_n,i_e⟩⟩:=s
 simp only[YV,ruD] at*
 simp(disch:=omega)only[go_sem]
 refine QT r1 ?_
 simp(disch:=omega)only[go_sem,d0]
 refine QT r2 ?_
 simp(disch:=omega)only[go_sem]
 refine QT r3 ?_
 simp(disch:=omega)only[go_sem]
 try rfl
end
section
theorem QmP{γ:Type}{f:List Mo→γ→List Mo}{Q:γ→Mo→Prop}(hf:∀o k x,x∈f o k→x∈o∨Q k x):∀(l:List γ)(o:List Mo)(x:Mo),x∈l.foldl f o→x∈o∨∃k∈l,Q k x
 |[],o,x,h=>.inl h
 |k::l,o,x,h=>by
  rw[List.foldl_cons] at h
  rcases QmP hf l _ x h with h|⟨k',hk,hq⟩
  ·rcases hf o k x h with h|h
   ·exact .inl h
   ·exact .inr ⟨k,by simp,h⟩
  ·exact .inr ⟨k',by simp [hk],hq⟩
theorem QNE{α:Type}[Inhabited α]{l:List α}{x:α}{i:Nat}(h:i<l.length):gt (l++[x]) (i:Int)=gt l i:=by
 rw[Xc (by simp;omega),Xc h,List.getElem_append_left h]
theorem QNF{α:Type}[Inhabited α]{l:List α}{x:α}:gt (l++[x]) (l.length:Int)=x:=by
 rw[Xc (by simp)];simp
def EFit(a b:G)(ns es:List Int):Prop:=∀i:Nat,i<es.length→(0≤gt es i∧gt es i<b.e.length)∧Zl ns (gt a.e i) (gt b.e (gt es i))=true
theorem EFit.snoc{a b:G}{ns es:List Int}(h:EFit a b ns es){y:Int}(hy:0≤y∧y<b.e.length)(hf:Zl ns (gt a.e es.length) (gt b.e y)=true):EFit a b ns (es++[y]):=fun i hi=>by
 rw[Ql,List.length_singleton] at hi
 by_cases h1:i<es.length
 ·rw[QNE h1];exact h i h1
 ·have:i=es.length:=by omega
  subst this
  rw[QNF];exact⟨hy,hf⟩
theorem QZ9{a b:G}{ns:List Int}{e y:Int}(h:y∈Qb3 a b ns e):(0≤y∧y<b.e.length)∧Zl ns (gt a.e e) (gt b.e y)=true:=by
 unfold Qb3 sel at h
 obtain⟨k,hk,rfl⟩:=Qu.1 h
 obtain⟨h1,h2⟩:=List.mem_filter.1 hk
 simp at h1
 exact⟨by omega,h2⟩
theorem QNG{a b:G}{ns:List Int}:∀(n:Nat)(es:List Int)(out:List Mo),EFit a b ns es→∀x∈aE a b ns n es out,x∈out∨(x.n=ns∧x.e.length=es.length+n∧EFit a b ns x.e)
 |0,es,out,hes,x,hx=>by
  rw[aE] at hx
  split at hx
  ·exact .inl hx
  ·rcases Qg.1 hx with hx|hx
   ·exact .inl hx
   ·simp only[Qn] at hx
    subst hx
    exact .inr ⟨rfl,rfl,hes⟩
 |n+1,es,out,hes,x,hx=>by
  rw[aE] at hx
  split at hx
  ·exact .inl hx
  ·rcases QmP (Q:=fun y x=>y∈Qb3 a b ns es.length→(x.n=ns∧x.e.length=es.length+(n+1)∧EFit a b ns x.e)) (fun o y x h=>by
    by_cases hy:y∈Qb3 a b ns es.length
    ·obtain⟨h1,h2⟩:=QZ9 hy
     rcases QNG n _ _ (hes.snoc h1 h2) x h with h|⟨g1,g2,g3⟩
     ·exact .inl h
     ·exact .inr fun _=>⟨g1,by rw[g2];simp;omega,g3⟩
    ·exact .inr fun h=>absurd h hy) _ _ x hx with h|⟨y,hy,h⟩
   ·exact .inl h
   ·exact .inr (h hy)
def Qfx(a b:G)(ns:List Int):Prop:=∀i:Nat,i<ns.length→(0≤gt ns i∧gt ns i<b.n.length)∧gt b.n (gt ns i)=gt a.n i
theorem QNH{a b:G}:∀(n:Nat)(ns:List Int)(out:List Mo),Qfx a b ns→∀x∈aN a b n ns out,x∈out∨(x.n.length=ns.length+n∧Qfx a b x.n∧x.e.length=a.e.length∧EFit a b x.n x.e)
 |0,ns,out,hns,x,hx=>by
  rw[aN] at hx
  split at hx
  ·exact .inl hx
  ·rcases QNG a.e.length [] out (fun i hi=>by simp at hi) x hx with h|⟨h1,h2,h3⟩
   ·exact .inl h
   ·subst h1
    exact .inr ⟨rfl,hns,by simpa using h2,h3⟩
 |n+1,ns,out,hns,x,hx=>by
  rw[aN] at hx
  split at hx
  ·exact .inl hx
  ·rcases QmP (Q:=fun (i:Nat) x=>i<b.n.length→(x.n.length=ns.length+(n+1)∧Qfx a b x.n∧x.e.length=a.e.length∧EFit a b x.n x.e)) (fun o i x h=>by
    split at h
    ·rename_i hc
     by_cases hi:i<b.n.length
     ·have hns':Qfx a b (ns++[(i:Int)]):=fun j hj=>by
       rw[Ql,List.length_singleton] at hj
       by_cases h1:j<ns.length
       ·rw[QNE h1];exact hns j h1
       ·have:j=ns.length:=by omega
        subst this
        rw[QNF]
        exact⟨by omega,hc.1⟩
      rcases QNH n _ _ hns' x h with h|⟨g1,g2,g3,g4⟩
      ·exact .inl h
      ·exact .inr fun _=>⟨by rw[g1];simp;omega,g2,g3,g4⟩
     ·exact .inr fun h=>absurd h hi
    ·exact .inl h) _ _ x hx with h|⟨i,hi,h⟩
   ·exact .inl h
   ·exact .inr (h (by simpa using hi))
theorem Q0a{a b:G}{x:Mo}(h:x∈Jy a b):XE a b x=0:=by
 unfold Jy at h
 split at h
 case isFalse=>simp at h
 rename_i he
 unfold QaH at he
 split at he
 ·rename_i h1;exact absurd he h1
 rename_i va
 have va:=Qo.1 va
 split at he
 ·rename_i h1;exact absurd he h1
 rename_i vb
 have vb:=Qo.1 vb
 rcases QNH _ _ _ (fun i hi=>by simp at hi) x h with h|⟨g1,g2,g3,g4⟩
 ·simp at h
 ·rw[List.length_nil,Nat.zero_add] at g1
  refine mok.2 ⟨va,vb,g1,g3,fun i hi=>g2 i (by omega),fun i hi=>?_⟩
  obtain⟨h1,h2⟩:=g4 i (by omega)
  unfold Zl at h2
  simp only[Qi,Qk] at h2
  exact⟨h1,h2.1.symm,h2.2.1.symm,h2.2.2.symm⟩
theorem Q0b(a b:G):(Jy a b).length≤2001:=by
 unfold Jy
 split
 ·exact QeM _ _ _ _ _ (by simp)
 ·simp
end
theorem QmQ{l:List Int}{n:Nat}:(u8s l).take n=u8s (l.take n):=by simp [u8s,List.map_take]
theorem QNI{l:List E}{n:Nat}:(trs l).take n=trs (l.take n):=by simp [trs,List.map_take]
attribute [go_sem] QmQ QNI
section
variable (P:Program) (F:String→Nat)
end
section
variable {P:Program} {F:String→Nat} {α:Type}
theorem QmR(n:Nat)(k:Nat):(if (k:Int)<(n:Int) then (k:Int) else (n:Int))=((min n k:Nat):Int):=by split<;>omega
end
end Go.Am
