/- Contracts and what they rest on: Cd. -/
import Derived.Test.YtgllpjliaepbdaaGreatCb
import Derived.Test.YtgllpjliaepbdaaGreatCc
import Derived.Test.YtgllpjliaepbdaaGreatCa
set_option linter.unusedVariables false
set_option linter.unusedSimpArgs false
set_option linter.unnecessarySimpa false
open Go Go.Proofs
namespace Go.Am
set_option maxRecDepth 100000
attribute [local irreducible] W
section
variable {t:Ty}
theorem Typ.nat{g:G}(h:Typ t g){i:Nat}(hi:i<g.n.length):0≤gt g.n (i:Int)∧gt g.n (i:Int)<t.n.length:=h.n _ (gt_mem (by omega) (by omega))
theorem Typ.edg{g:G}(h:Typ t g){i:Nat}(hi:i<g.e.length):0≤(gt g.e (i:Int)).t∧(gt g.e (i:Int)).t<t.e.length:=h.e _ (gt_mem (by omega) (by omega))
theorem Typ.of{g:G}(h:Typ t g){x:Int}(hx:0≤x∧x<g.n.length):IsT t (gt g.n x):=h.n _ (gt_mem hx.1 hx.2)
theorem QX{g:G}(h:QZ g=0):g.n.length≤40∧g.e.length≤80:=by
 unfold QZ at h
 split at h
 ·cases h
 ·omega
theorem ZF{g:G}(h:QZ g=0){i:Nat}(hi:i<g.e.length):(0≤(gt g.e (i:Int)).f∧(gt g.e (i:Int)).f<g.n.length)∧0≤(gt g.e (i:Int)).o∧(gt g.e (i:Int)).o<g.n.length:=by
 unfold QZ at h
 split at h
 ·cases h
 ·split at h
  ·rename_i h1
   simp only[Qk,Qs] at h1
   have:=h1.2 _ (gt_mem (l:=g.e) (j:=(i:Int)) (by omega) (by omega))
   simp [Yx] at this
   omega
  ·cases h
theorem Qcm(h:TyOk t){g:G}(hv:QZ g=0)(hg:Typ t g):FT 273 [tyD t,gD g] (.bool true):=by
 refine fo [[],[]] ?_
 conv in fnC ..=>reduce
 have l:=QX hv
 have l1:=h.ln
 have l2:=h.le
 simp(disch:=omega)only[go_sem,tyD,gD]
 refine Xb 5 g.n.length 0 rfl (by omega) fun i _ hi=>?_
 simp(disch:=omega)only[go_sem]
 refine QT (fun c=>?_) (fun c=>?_)
 ·have:=hg.nat (i:=i) (by omega)
  simp(disch:=omega)only[go_sem,axS]
  exact⟨i+1,by simp,by omega,by omega⟩
 ·simp(disch:=omega)only[go_sem]
  refine Xb 6 g.e.length 0 rfl (by omega) fun i _ hi=>?_
  simp(disch:=omega)only[go_sem]
  refine QT (fun c=>?_) (fun c=>?_)
  ·have:=hg.edg (i:=i) (by omega)
   simp(disch:=omega)only[go_sem,axS,edD]
   exact⟨i+1,by simp,by omega,by omega⟩
  ·simp(disch:=omega)only[go_sem]
theorem QdP(h:TyOk t){p g:G}(hp:QZ p=0)(hg:QZ g=0)(h1:Typ t p)(h2:Typ t g):FT 281 [tyD t,gD p,gD g] (.int .i64 0):=by
 refine fo [] ?_
 conv in fnC ..=>reduce
 have r1:=Jn p
 have r2:=Jn g
 rw[hp] at r1
 rw[hg] at r2
 simp(disch:=omega)only[go_sem,tyD,gD]
 refine QQ (Qbz h) ?_
 simp(disch:=omega)only[go_sem,axS]
 refine QQ r1 ?_
 simp(disch:=omega)only[go_sem,axS]
 refine QQ r2 ?_
 simp(disch:=omega)only[go_sem,axS]
 refine QQ (Qcm h hp h1) ?_
 simp(disch:=omega)only[go_sem]
 refine QQ (Qcm h hg h2) ?_
 simp(disch:=omega)only[go_sem]
theorem Qkq(l:List Int)(hl:l.length≤1000)(hn:l.Nodup):FT 353 [.lst 1 (QR l)] (.bool true):=by
 refine fo [[]] ?_
 conv in fnC ..=>reduce
 simp(disch:=omega)only[go_sem]
 refine Xb 3 l.length 0 rfl (by omega) fun i _ hi=>?_
 simp(disch:=omega)only[go_sem]
 refine QT (fun c=>?_) (fun c=>?_)
 ·simp(disch:=omega)only[go_sem]
  refine Xb 4 i 0 rfl (by omega) fun k _ hk=>?_
  simp(disch:=omega)only[go_sem]
  refine QT (fun c=>?_) (fun c=>?_)
  ·have e:¬gt l (i:Int)=gt l (k:Int):=fun e=>by have:=Zi hn (by omega) (by omega) e;omega
   simp(disch:=omega)only[go_sem,axS,dcF e]
   exact⟨k+1,by simp,by omega,by omega⟩
  ·simp(disch:=omega)only[go_sem]
   exact⟨i+1,by simp,by omega,by omega⟩
 ·simp(disch:=omega)only[go_sem]
theorem QsN(h:TyOk t){p g:G}(hp:QZ p=0)(hg:QZ g=0)(h1:Typ t p)(h2:Typ t g){m:Mo}(hm:SmOk t p g m)(j:Bool)(hj:j=true→m.n.Nodup∧m.e.Nodup):FT 292 [tyD t,gD p,gD g,mD m,.bool j] (.int .i64 0):=by
 refine fo [[],[],[],[(6,none,[],true),(8,none,[],true),(10,none,[],true),(11,none,[],true),(12,none,[],true),(13,none,[],true),(16,none,[6,8,10,11,12,13],false)],[]] ?_
 conv in fnC ..=>reduce
 have lp:=QX hp
 have lg:=QX hg
 have ln:=hm.ln
 have le:=hm.le
 simp(disch:=omega)only[go_sem,axS,tyD,gD,mD]
 refine Xb 11 m.n.length 0 rfl (by omega) fun i _ hi=>?_
 simp(disch:=omega)only[go_sem]
 refine QT (fun c=>?_) (fun c=>?_)
 ·obtain⟨a1,a2⟩:=hm.nd i (by omega)
  obtain⟨b1,b2⟩:=h1.nat (i:=i) (by omega)
  obtain⟨c1,c2⟩:=h2.of a1
  have r:=Qcb h _ c2 (gt p.n (i:Int)) (by omega) b1
  rw[a2] at r
  simp(disch:=omega)only[go_sem,axS,tyD]
  refine QQ r ?_
  simp(disch:=omega)only[go_sem]
  exact⟨i+1,by simp,by omega,by omega⟩
 ·simp(disch:=omega)only[go_sem]
  refine Xb 12 m.e.length 0 rfl (by omega) fun i _ hi=>?_
  simp(disch:=omega)only[go_sem]
  refine QT (fun c=>?_) (fun c=>?_)
  ·obtain⟨a1,a2,a3,a4⟩:=hm.ed i (by omega)
   obtain⟨b1,b2⟩:=ZF hp (i:=i) (by omega)
   simp(disch:=omega)only[go_sem,axS,edD]
   exact⟨i+1,by simp,by omega,by omega⟩
  ·simp(disch:=omega)only[go_sem]
   cases j
   ·simp(disch:=omega)only[go_sem]
   ·obtain⟨j1,j2⟩:=hj rfl
    simp(disch:=omega)only[go_sem]
    refine QQ (Qkq _ (by omega) j1) ?_
    simp(disch:=omega)only[go_sem]
    refine QQ (Qkq _ (by omega) j2) ?_
    simp(disch:=omega)only[go_sem]
theorem Qgg(h:TyOk t){p g:G}(hp:QZ p=0)(hg:QZ g=0)(h1:Typ t p)(h2:Typ t g){m:Mo}(hm:SmOk t p g m)(j:Bool)(hj:j=true→m.n.Nodup∧m.e.Nodup):FT 206 [tyD t,gD p,gD g,mD m,.bool j] (.int .i64 0):=by
 refine fo [] ?_
 conv in fnC ..=>reduce
 simp(disch:=omega)only[go_sem,tyD,gD,mD]
 refine QQ (QdP h hp hg h1 h2) ?_
 simp(disch:=omega)only[go_sem,axS]
 refine QQ (QsN h hp hg h1 h2 hm j hj) ?_
 simp(disch:=omega)only[go_sem]
theorem Qkr(l:List Int)(hl:l.length≤1000)(n:Int)(hb:∀i:Nat,i<l.length→ -1≤gt l (i:Int)∧gt l (i:Int)<n):FT 448 [.lst 1 (QR l),.int .i64 l.length,.int .i64 n] (.int .i64 0):=by
 refine fo [] ?_
 conv in fnC ..=>reduce
 simp(disch:=omega)only[go_sem,axS]
 refine Xb 7 l.length 0 rfl (by omega) fun i _ hi=>?_
 simp(disch:=omega)only[go_sem]
 refine QT (fun c=>?_) (fun c=>?_)
 ·have:=hb i (by omega)
  simp(disch:=omega)only[go_sem,axS]
  exact⟨i+1,by simp,by omega,by omega⟩
 ·simp(disch:=omega)only[go_sem]
theorem QsO(t:Ty){n:Int}(h:IsT t n):FT 376 [.int .i64 n,.ref (tyD t).cells] (.bool false):=by
 refine fo [] ?_
 conv in fnC ..=>reduce
 have:=h.2
 simp(disch:=omega)only[go_sem,axS,tyD]
theorem QsP(t:Ty){x:E}(h:x.t<t.e.length):FT 377 [edD x,.ref (tyD t).cells] (.bool false):=by
 refine fo [] ?_
 conv in fnC ..=>reduce
 simp(disch:=omega)only[go_sem,axS,tyD,edD]
theorem Qks{g:G}(hv:QZ g=0)(hg:Typ t g):FT 321 [tyD t,gD g] (.bool true):=by
 refine fo [] ?_
 conv in fnC ..=>reduce
 have l:=QX hv
 have r1:=JG g.n (by unfold QS;omega) 376 [.ref (tyD t).cells] rfl (fun _=>false) fun x hx=>QsO t (hg.n x hx)
 have r2:=Qcc g.e (by unfold QS;omega) 377 [.ref (tyD t).cells] rfl (fun _=>false) fun x hx=>QsP t (hg.e x hx).2
 rw[List.any_eq_false.2 fun _ _=>by simp] at r1 r2
 simp(disch:=omega)only[go_sem,tyD,gD]
 refine QQ r1 ?_
 simp(disch:=omega)only[go_sem]
 refine QQ r2 ?_
 simp(disch:=omega)only[go_sem]
theorem Qgh(h:TyOk t){p g:G}(hp:QZ p=0)(hg:QZ g=0)(h1:Typ t p)(h2:Typ t g):FT 230 [tyD t,gD p,gD g] (.int .i64 0):=by
 refine fo [] ?_
 conv in fnC ..=>reduce
 have r1:=JH p
 have r2:=JH g
 rw[hp] at r1
 rw[hg] at r2
 simp(disch:=omega)only[go_sem,tyD,gD]
 refine QQ (Qal h) ?_
 simp(disch:=omega)only[go_sem,axS]
 refine Xb 24 2 0 rfl (by omega) fun i _ hi=>?_
 obtain rfl|rfl|rfl:i=0∨i=1∨i=2:=by omega
 ·simp(disch:=omega)only[go_sem,axS]
  refine QQ r1 ?_
  simp(disch:=omega)only[go_sem,axS]
  exact⟨1,by simp,by omega,by omega⟩
 ·simp(disch:=omega)only[go_sem,axS]
  refine QQ r2 ?_
  simp(disch:=omega)only[go_sem,axS]
  exact⟨2,by simp,by omega,by omega⟩
 ·simp(disch:=omega)only[go_sem,axS]
  refine QQ (Qks hp h1) ?_
  simp(disch:=omega)only[go_sem]
  refine QQ (Qks hg h2) ?_
  simp(disch:=omega)only[go_sem]
def Jp(t:Ty)(a:Nat):List Bool:=(List.range t.n.length).map fun b:Nat=>Xh t (b:Int) (a:Int)
def brs(l:List (List Bool)):List D:=l.map fun r=>.lst 1 (bls r)
def isM(t:Ty):List (List Bool):=(List.range t.n.length).map (Jp t)
theorem QsQ(l:List (List Bool)):(brs l).length=l.length:=by simp [brs]
theorem QsR(l:List (List Bool))(r:List Bool):brs l++[.lst 1 (bls r)]=brs (l++[r]):=by simp [brs]
theorem QsS{l:List (List Bool)}{j:Int}(h0:0≤j)(h:j<l.length):(brs l)[j.toNat]?=some (.lst 1 (bls (gt l j))):=by
 unfold brs;rw[List.getElem?_map,Qbn h0 h];rfl
theorem Qam(t:Ty):(isM t).length=t.n.length:=by simp [isM]
theorem QdQ(t:Ty)(a:Nat):(Jp t a).length=t.n.length:=by simp [Jp]
theorem Qgi{a:Int}(ha:IsT t a):gt (isM t) a=Jp t a.toNat:=by
 obtain⟨i,hi,rfl⟩:=gtI (l:=t.n) ha
 rw[QV (by rw[Qam];exact hi)]
 simp [isM]
theorem Qkt{a:Nat}{b:Int}(hb:IsT t b):gt (Jp t a) b=Xh t b a:=by
 obtain⟨i,hi,rfl⟩:=gtI (l:=t.n) hb
 rw[QV (by rw[QdQ];exact hi)]
 simp [Jp]
attribute [go_sem] QjQ QsQ Qam QdQ QjS
attribute [go_sem low] Qf1 QjR QsS
def ZG(n:Nat)(l:List Int):List Bool:=(List.range n).map fun b:Nat=>decide ((b:Int)∈l)
theorem Qku(n:Nat)(l:List Int):(ZG n l).length=n:=by simp [ZG]
theorem QsT(n:Nat):ZG n []=List.replicate n false:=by
 refine List.ext_getElem (by simp [ZG]) fun k a1 a2=>by simp [ZG]
theorem QsU{n:Nat}{l:List Int}{x:Int}(h0:0≤x):(ZG n l).set x.toNat true=ZG n (l++[x]):=by
 refine List.ext_getElem (by simp [ZG]) fun k a1 a2=>?_
 rw[List.getElem_set]
 simp only[ZG,List.getElem_map,List.getElem_range,Qd,Qm]
 by_cases c:x.toNat=k
 ·rw[if_pos c];exact (Qe (.inr (by omega))).symm
 ·rw[if_neg c]
  have:¬(k:Int)=x:=by omega
  simp [this]
theorem QsV{t:Ty}{i:Nat}(h:i<t.n.length):(isM t).take (i+1)=(isM t).take i++[Jp t i]:=by
 rw[Xm (by rw[Qam];exact h),Qgi (t:=t) (a:=i) ⟨by omega,by omega⟩]
 rfl
theorem QsW(t:Ty)(i:Nat):ZG t.n.length (sel (fun k:Nat=>Xh t (k:Int) i) t.n.length)=Jp t i:=by
 refine List.ext_getElem (by simp [ZG,Jp]) fun k a1 a2=>?_
 simp only[ZG,Jp,List.getElem_map,List.getElem_range]
 rw[Qku] at a1
 simp [sel_memN,a1]
theorem Qkv(h:TyOk t):FT 322 [tyD t] (.arr 1 (brs (isM t))):=by
 refine fo [] ?_
 conv in fnC ..=>reduce
 have hn:=h.ln
 simp(disch:=omega)only[go_sem,tyD]
 refine Q8 13 t.n.length (fun i=>[(3,.sl 1 0 i)]) (fun i=>[(1,.arr 1 (brs ((isM t).take i)))]) (fun _=>True) (by simp(disch:=omega)only[go_sem];rfl) trivial fun i hi _=>?_
 have hM:((isM t).take i).length=i:=List.length_take_of_le (by rw[Qam];omega)
 simp(disch:=omega)only[go_sem]
 refine QT (fun c=>?_) (fun c=>?_)
 ·simp(disch:=omega)only[go_sem,tyD]
  refine QQ (Qsp h (a:=i) ⟨by omega,c⟩) ?_
  have hl:=YM (fun k:Nat=>Xh t (k:Int) i) t.n.length
  have hr:=QsW t i
  have hb:∀x∈sel (fun k:Nat=>Xh t (k:Int) i) t.n.length,0≤x∧x<t.n.length:=fun x hx=>by
   obtain⟨k,h1,_,rfl⟩:=sel_mem.1 hx;omega
  generalize sel (fun k:Nat=>Xh t (k:Int) i) t.n.length=S at*
  simp(disch:=omega)only[go_sem]
  refine Q8 28 S.length (fun _=>[]) (fun k=>[(2,.arr 1 (bls (ZG t.n.length (S.take k))))]) (fun _=>True) (by simp(disch:=omega)only[go_sem];rw[QsT]) trivial fun k hk _=>?_
  have hR:=Qku t.n.length (S.take k)
  simp(disch:=omega)only[go_sem]
  refine QT (fun c=>?_) (fun c=>?_)
  ·have hx:=hb _ (gt_mem (l:=S) (j:=(k:Int)) (by omega) c)
   simp(disch:=omega)only[go_sem,axS,Qf2,QsU hx.1]
   exact⟨k+1,by rw[Xm (by omega)];simp,by omega,by omega⟩
  ·obtain rfl:k=S.length:=by omega
   rw[List.take_length,hr]
   simp(disch:=omega)only[go_sem,axS,hM,QsR]
   exact⟨i+1,by rw[QsV (by omega)];simp,by omega,by omega⟩
 ·obtain rfl:i=t.n.length:=by omega
  rw[Qq (by rw[Qam];omega)] at*
  simp(disch:=omega)only[go_sem,hM]
theorem Qkw(h:TyOk t){p g:G}(hp:QZ p=0)(hg:QZ g=0)(h1:Typ t p)(h2:Typ t g){m:Mo}(hm:SmOk t p g m):FT 231 [tyD t,gD p,gD g,mD m] (.int .i64 0):=by
 refine fo [[],[(6,none,[],true),(8,none,[],true),(9,none,[],true),(12,none,[6,8,9],false)],[]] ?_
 conv in fnC ..=>reduce
 have lp:=QX hp
 have lg:=QX hg
 have ln:=hm.ln
 have le:=hm.le
 have hn:=h.ln
 simp(disch:=omega)only[go_sem,axS,tyD,gD,mD]
 refine QQ (Qkv h) ?_
 simp(disch:=omega)only[go_sem]
 refine Xb 37 m.n.length 0 rfl (by omega) fun i _ hi=>?_
 simp(disch:=omega)only[go_sem]
 refine QT (fun c=>?_) (fun c=>?_)
 ·obtain⟨a1,a2⟩:=hm.nd i (by omega)
  obtain⟨b1,b2⟩:=h1.nat (i:=i) (by omega)
  obtain⟨c1,c2⟩:=h2.of a1
  have e1:=Qgi (t:=t) ⟨b1,b2⟩
  have e2:=Qkt (t:=t) (a:=(gt p.n (i:Int)).toNat) ⟨c1,c2⟩
  rw[show (((gt p.n (i:Int)).toNat:Nat):Int)=gt p.n (i:Int) by omega,a2] at e2
  have hM:=Qam t
  have hR:=QdQ t (gt p.n (i:Int)).toNat
  simp(disch:=omega)only[go_sem,axS,e1,e2,Int.toNat_of_nonneg]
  exact⟨i+1,by simp,by omega,by omega⟩
 ·simp(disch:=omega)only[go_sem]
  refine Xb 71 m.e.length 0 rfl (by omega) fun i _ hi=>?_
  simp(disch:=omega)only[go_sem]
  refine QT (fun c=>?_) (fun c=>?_)
  ·obtain⟨a1,a2,a3,a4⟩:=hm.ed i (by omega)
   obtain⟨b1,b2⟩:=ZF hp (i:=i) (by omega)
   simp(disch:=omega)only[go_sem,axS,edD]
   exact⟨i+1,by simp,by omega,by omega⟩
  ·simp(disch:=omega)only[go_sem]
theorem Qgj(h:TyOk t){p g:G}(hp:QZ p=0)(hg:QZ g=0)(h1:Typ t p)(h2:Typ t g){m:Mo}(hm:SmOk t p g m)(j:Bool)(hj:j=true→m.n.Nodup∧m.e.Nodup):FT 227 [tyD t,gD p,gD g,mD m,.bool j] (.int .i64 0):=by
 refine fo [] ?_
 conv in fnC ..=>reduce
 have lp:=QX hp
 have ln:=hm.ln
 have le:=hm.le
 simp(disch:=omega)only[go_sem,tyD,gD,mD]
 refine QQ (Qgh h hp hg h1 h2) ?_
 simp(disch:=omega)only[go_sem,axS]
 refine QQ (Qkw h hp hg h1 h2 hm) ?_
 simp(disch:=omega)only[go_sem,axS]
 cases j
 ·simp(disch:=omega)only[go_sem]
 ·obtain⟨j1,j2⟩:=hj rfl
  simp(disch:=omega)only[go_sem]
  refine QQ (Qkp _ (by omega) j1) ?_
  simp(disch:=omega)only[go_sem]
  refine QQ (Qkp _ (by omega) j2) ?_
  simp(disch:=omega)only[go_sem]
theorem QsX{x n:Int}(h: -1≤x∧x<n):FT 470 [.int .i64 x,.ref [.int .i64 n]] (.bool false):=by
 refine fo [] ?_
 conv in fnC ..=>reduce
 simp(disch:=omega)only[go_sem,axS]
theorem Qkx(l:List Int)(hl:l.length≤1000)(n:Int)(hb:∀x∈l, -1≤x∧x<n):FT 466 [.lst 1 (QR l),.int .i64 n] (.int .i64 0):=by
 refine fo [] ?_
 conv in fnC ..=>reduce
 have r1:=JG l (by unfold QS;omega) 470 [.ref [.int .i64 n]] rfl (fun _=>false) fun x hx=>QsX (hb x hx)
 rw[List.any_eq_false.2 fun _ _=>by simp] at r1
 simp(disch:=omega)only[go_sem]
 refine QQ r1 ?_
 simp(disch:=omega)only[go_sem]
theorem QsY{m g p:List Int}{i:Nat}(h:i<m.length)(h2:i<p.length):(thr (m.take i) g++p.drop i).set i (gt g (gt m (i:Int)))=thr (m.take (i+1)) g++p.drop (i+1):=by
 have hl:(thr (m.take i) g).length=i:=by rw[X4,List.length_take_of_le (by omega)]
 rw[List.set_append_right (h:=by omega),hl,Nat.sub_self,List.drop_eq_getElem_cons h2,QfO h]
 simp only[List.set_cons_zero,Qx,List.cons_append,List.nil_append]
theorem QsZ(h:TyOk t){p g:G}(hp:QZ p=0)(hg:QZ g=0)(h1:Typ t p)(h2:Typ t g){m:Mo}(hm:SmOk t p g m):FT 140 [tyD t,gD p,gD g,mD m] (.tup [gA (XD p g m),.int .i64 0]):=by
 refine fo [[(1,none,[],true),(7,none,[1],false)]] ?_
 conv in fnC ..=>reduce
 have lp:=QX hp
 have lg:=QX hg
 have ln:=hm.ln
 have le:=hm.le
 simp(disch:=omega)only[go_sem,tyD,gD,mD]
 refine QQ (Qgh h hp hg h1 h2) ?_
 simp(disch:=omega)only[go_sem,axS]
 refine QQ (Qkw h hp hg h1 h2 hm) ?_
 simp(disch:=omega)only[go_sem,axS]
 refine QQ (QfZ p.e (by omega)) ?_
 simp(disch:=omega)only[go_sem]
 refine Q8 39 m.n.length (fun _=>[]) (fun i=>[(4,.arr 1 (QR (thr (m.n.take i) g.n))),(6,.box [.sl 4 0 i,.sl 5 0 p.e.length])]) (fun _=>True) (by simp(disch:=omega)only[go_sem];rfl) trivial fun i hi _=>?_
 have hl:(thr (m.n.take i) g.n).length=i:=by rw[X4,List.length_take_of_le hi]
 simp(disch:=omega)only[go_sem]
 refine QT (fun c=>?_) (fun c=>?_)
 ·obtain⟨a1,a2⟩:=hm.nd i (by omega)
  simp(disch:=omega)only[go_sem,axS,hl]
  exact⟨i+1,by rw[Xm (by omega)];simp [thr],by omega,by omega⟩
 ·obtain rfl:i=m.n.length:=by omega
  rw[List.take_length] at*
  simp(disch:=omega)only[go_sem,hl,gA,XD]
theorem Qs0(h:TyOk t){p g:G}(hp:QZ p=0)(hg:QZ g=0)(h1:Typ t p)(h2:Typ t g){m:Mo}(hm:SmOk t p g m):FT 209 [tyD t,gD p,gD g,mD m] (.tup [gA (XD p g m),.int .i64 0]):=by
 refine fo [[]] ?_
 conv in fnC ..=>reduce
 have lp:=QX hp
 have lg:=QX hg
 have ln:=hm.ln
 have le:=hm.le
 simp(disch:=omega)only[go_sem,tyD,gD,mD]
 refine QQ (Qgg h hp hg h1 h2 hm false (by simp)) ?_
 simp(disch:=omega)only[go_sem,axS]
 refine QQ (QaJ p (by omega) (by omega)) ?_
 simp(disch:=omega)only[go_sem,gA]
 refine Q8 12 p.n.length (fun _=>[]) (fun i=>[(5,.arr 1 (QR (thr (m.n.take i) g.n++p.n.drop i)))]) (fun _=>True) (by simp(disch:=omega)only[go_sem];rfl) trivial fun i hi _=>?_
 have hl:(thr (m.n.take i) g.n).length=i:=by rw[X4,List.length_take_of_le (by omega)]
 have hl2:(thr (m.n.take i) g.n++p.n.drop i).length=p.n.length:=by rw[Qj,hl,List.length_drop];omega
 simp(disch:=omega)only[go_sem,hl2]
 refine QT (fun c=>?_) (fun c=>?_)
 ·obtain⟨a1,a2⟩:=hm.nd i (by omega)
  simp(disch:=omega)only[go_sem,axS,hl2]
  exact⟨i+1,by rw[QsY (by omega) (by omega)];simp,by omega,by omega⟩
 ·obtain rfl:i=p.n.length:=by omega
  rw[List.drop_length,List.append_nil,←ln,List.take_length] at*
  simp(disch:=omega)only[go_sem,hl,gA,XD]
end
theorem Qs1(l:List (List Int)):(X8 l).length=l.length:=by simp [X8]
theorem Qs2{l:List (List Int)}{i:Nat}(h:i<l.length):(X8 l)[i]?=some (.lst 1 (QR (gt l (i:Int)))):=by
 unfold X8;rw[List.getElem?_map,Qn h,QV h];rfl
theorem Qky(l:List (List Int))(r:List Int):X8 l++[.lst 1 (QR r)]=X8 (l++[r]):=by simp [X8]
theorem Qs3(l:List Te):(Ye l).length=l.length:=by simp [Ye]
theorem Qs4{l:List Te}{i:Nat}(h:i<l.length):(Ye l)[i]?=some (teD (gt l (i:Int))):=by
 unfold Ye;rw[List.getElem?_map,Qn h,QV h];rfl
attribute [go_sem] Qs1 Qs3
attribute [go_sem low] Qs2 Qs4
structure VOk(t:Ty)(a:Int)(v:List Int):Prop where
 ty:IsT t a
 ab:(gt t.n a).ab=false
 l:v.length=(Q0 t a).length
 b:∀k:Nat,k<v.length→(gt (Q0 t a) (k:Int)).lo≤gt v (k:Int)∧gt v (k:Int)≤(gt (Q0 t a) (k:Int)).hi
theorem HsOk.nd{t:Ty}{x:Hs}(h:HsOk t x){i:Nat}(hi:i<x.g.n.length):VOk t (gt x.g.n (i:Int)) (gt x.v (i:Int)):=
 ⟨h.ty.of ⟨by omega,by omega⟩,h.ab i hi,h.vl i hi,h.vb i hi⟩
section
variable {t:Ty}
theorem Qs5(h:TyOk t){a:Int}{v:List Int}(hv:VOk t a v):FT 287 [tyD t,.int .i64 a,.lst 1 (QR v)] (.int .i64 0):=by
 refine fo [[]] ?_
 conv in fnC ..=>reduce
 have hn:=h.ln
 have g:=X7 h hv.ty.2
 have ra:=Qag h hv.ty
 have hl:=hv.l
 have hb:=hv.b
 have hab:=hv.ab
 obtain⟨i,hi,rfl⟩:=gtI (l:=t.n) hv.ty
 generalize Q0 t i=A at*
 simp(disch:=omega)only[go_sem,axS,tyD,ntD,hab]
 refine QQ ra ?_
 simp(disch:=omega)only[go_sem,axS]
 refine Xb 9 A.length 0 rfl (by omega) fun k _ hk=>?_
 simp(disch:=omega)only[go_sem]
 refine QT (fun c=>?_) (fun c=>?_)
 ·have:=hb k (by omega)
  simp(disch:=omega)only[go_sem,axS,atD]
  exact⟨k+1,by simp,by omega,by omega⟩
 ·simp(disch:=omega)only[go_sem]
theorem Qs6(h:TyOk t){a:Int}{v:List Int}(hv:VOk t a v):FT 225 [tyD t,.int .i64 a,.lst 1 (QR v)] (.int .i64 0):=by
 refine fo [[]] ?_
 conv in fnC ..=>reduce
 have hn:=h.ln
 have g:=X7 h hv.ty.2
 have ra:=QbD h hv.ty
 have hl:=hv.l
 have hb:=hv.b
 have hab:=hv.ab
 obtain⟨i,hi,rfl⟩:=gtI (l:=t.n) hv.ty
 generalize Q0 t i=A at*
 simp(disch:=omega)only[go_sem,axS,tyD,ntD,hab]
 refine QQ ra ?_
 simp(disch:=omega)only[go_sem,axS]
 refine Xb 35 A.length 0 rfl (by omega) fun k _ hk=>?_
 simp(disch:=omega)only[go_sem]
 refine QT (fun c=>?_) (fun c=>?_)
 ·have:=hb k (by omega)
  simp(disch:=omega)only[go_sem,axS,atD]
  exact⟨k+1,by simp,by omega,by omega⟩
 ·simp(disch:=omega)only[go_sem]
theorem Qgk(h:TyOk t){x:Hs}(hx:HsOk t x):FT 202 [tyD t,hsD x] (.tup [.int .i64 (-1),.int .i64 0]):=by
 refine fo [[],[]] ?_
 conv in fnC ..=>reduce
 have l:=QX hx.g
 have l1:=hx.ln
 have l2:=h.le
 have r2:=Jn x.g
 rw[hx.g] at r2
 simp(disch:=omega)only[go_sem,tyD,hsD,hsL]
 refine QQ (Qbz h) ?_
 simp(disch:=omega)only[go_sem,axS]
 refine QQ r2 ?_
 simp(disch:=omega)only[go_sem,axS]
 refine Xb 9 x.g.n.length 0 rfl (by omega) fun k _ hk=>?_
 simp(disch:=omega)only[go_sem]
 refine QT (fun c=>?_) (fun c=>?_)
 ·simp(disch:=omega)only[go_sem,tyD]
  refine QQ (Qs5 h (hx.nd (i:=k) (by omega))) ?_
  simp(disch:=omega)only[go_sem,axS]
  exact⟨k+1,by simp,by omega,by omega⟩
 ·simp(disch:=omega)only[go_sem]
  refine Xb 11 x.g.e.length 0 rfl (by omega) fun k _ hk=>?_
  simp(disch:=omega)only[go_sem]
  refine QT (fun c=>?_) (fun c=>?_)
  ·have b:=ZF hx.g (i:=k) (by omega)
   have e1:=hx.ty.edg (i:=k) (by omega)
   have r:=Qdz h (k:=(gt x.g.e (k:Int)).t) e1 (hx.ty.of b.1) (hx.ty.of b.2)
   have he:=hx.et k (by omega)
   unfold YF at he
   rw[he] at r
   simp(disch:=omega)only[go_sem,axS,edD,tyD]
   refine QQ r ?_
   simp(disch:=omega)only[go_sem]
   exact⟨k+1,by simp,by omega,by omega⟩
  ·simp(disch:=omega)only[go_sem]
theorem QdR(h:TyOk t){x:Hs}(hx:HsOk t x):FT 138 [tyD t,hsD x] (.tup [.int .i64 (-1),.int .i64 0]):=by
 refine fo [[],[]] ?_
 conv in fnC ..=>reduce
 have l:=QX hx.g
 have l1:=hx.ln
 have l2:=h.le
 have r2:=JH x.g
 rw[hx.g] at r2
 simp(disch:=omega)only[go_sem,tyD,hsD,hsL]
 refine QQ (Qal h) ?_
 simp(disch:=omega)only[go_sem,axS]
 refine QQ r2 ?_
 simp(disch:=omega)only[go_sem,axS]
 refine Xb 40 x.g.n.length 0 rfl (by omega) fun k _ hk=>?_
 simp(disch:=omega)only[go_sem]
 refine QT (fun c=>?_) (fun c=>?_)
 ·simp(disch:=omega)only[go_sem,tyD]
  refine QQ (Qs6 h (hx.nd (i:=k) (by omega))) ?_
  simp(disch:=omega)only[go_sem,axS]
  exact⟨k+1,by simp,by omega,by omega⟩
 ·simp(disch:=omega)only[go_sem]
  refine Xb 62 x.g.e.length 0 rfl (by omega) fun k _ hk=>?_
  simp(disch:=omega)only[go_sem]
  refine QT (fun c=>?_) (fun c=>?_)
  ·have b:=ZF hx.g (i:=k) (by omega)
   have e1:=hx.ty.edg (i:=k) (by omega)
   have r:=Qkd h (k:=(gt x.g.e (k:Int)).t) e1 (hx.ty.of b.1) (hx.ty.of b.2)
   have he:=hx.et k (by omega)
   unfold YF at he
   rw[he] at r
   simp(disch:=omega)only[go_sem,axS,edD,tyD]
   refine QQ r ?_
   simp(disch:=omega)only[go_sem]
   exact⟨k+1,by simp,by omega,by omega⟩
  ·simp(disch:=omega)only[go_sem]
theorem Qkz(h:TyOk t){x:Hs}(hx:HsOk t x):FT 68 [tyD t,hsD x] (.int .i64 0):=by
 refine fo [] ?_
 conv in fnC ..=>reduce
 simp(disch:=omega)only[go_sem,tyD,hsD,hsL]
 refine QQ (QdR h hx) ?_
 simp(disch:=omega)only[go_sem]
def QkA(v:Int)(vr ad:Int):Prop:=(-1≤vr∧vr<v)∧ -100≤ad∧ad≤100
theorem QkB{v vr ad:Int}(h:QkA v vr ad):FT 397 [.int .i64 v,.agg [.int .i64 vr,.int .i64 ad]] (.int .i64 0):=by
 refine fo [] ?_
 conv in fnC ..=>reduce
 obtain⟨⟨h1,h2⟩,h3,h4⟩:=h
 simp(disch:=omega)only[go_sem,axS]
theorem Qs7{v:Int}{x:Te}(h:TeOk v x):FT 345 [.int .i64 v,teD x] (.int .i64 0):=by
 refine fo [] ?_
 conv in fnC ..=>reduce
 have r1:=QkB ⟨h.lv,h.la⟩
 have r2:=QkB ⟨h.rv,h.ra⟩
 rcases h.k with c|c<;>(
  simp(disch:=omega)only[go_sem,axS,teD]
  refine QQ r1 ?_
  simp(disch:=omega)only[go_sem,axS]
  refine QQ r2 ?_
  simp(disch:=omega)only[go_sem])
theorem QkC{v:Int}(h0:0≤v)(h1:v≤12){l:List Te}(hl:l.length≤10)(h:∀x∈l,TeOk v x):FT 276 [.int .i64 v,.lst 5 (Ye l)] (.int .i64 0):=by
 refine fo [] ?_
 conv in fnC ..=>reduce
 simp(disch:=omega)only[go_sem,axS]
 refine Xb 5 l.length 0 rfl (by omega) fun k _ hk=>?_
 simp(disch:=omega)only[go_sem]
 refine QT (fun c=>?_) (fun c=>?_)
 ·simp(disch:=omega)only[go_sem,teD]
  refine QQ (Qs7 (h _ (gt_mem (by omega) c))) ?_
  simp(disch:=omega)only[go_sem,axS]
  exact⟨k+1,by simp,by omega,by omega⟩
 ·simp(disch:=omega)only[go_sem]
theorem QkD{v vr ad:Int}(h:QkA v vr ad):FT 417 [.int .i64 v,.agg [.int .i64 vr,.int .i64 ad]] (.bool true):=by
 refine fo [] ?_
 conv in fnC ..=>reduce
 obtain⟨⟨h1,h2⟩,h3,h4⟩:=h
 simp(disch:=omega)only[go_sem,axS]
theorem Qs8{v:Int}{x:Te}(h:TeOk v x):FT 361 [.int .i64 v,teD x] (.int .i64 0):=by
 refine fo [] ?_
 conv in fnC ..=>reduce
 have r1:=QkD ⟨h.lv,h.la⟩
 have r2:=QkD ⟨h.rv,h.ra⟩
 rcases h.k with c|c<;>(
  simp(disch:=omega)only[go_sem,axS,teD]
  refine QQ r1 ?_
  simp(disch:=omega)only[go_sem]
  refine QQ r2 ?_
  simp(disch:=omega)only[go_sem])
theorem QkE{v:Int}(h0:0≤v)(h1:v≤12){l:List Te}(hl:l.length≤10)(h:∀x∈l,TeOk v x):FT 307 [.int .i64 v,.lst 5 (Ye l)] (.int .i64 0):=by
 refine fo [] ?_
 conv in fnC ..=>reduce
 simp(disch:=omega)only[go_sem,axS]
 refine Xb 19 l.length 0 rfl (by omega) fun k _ hk=>?_
 simp(disch:=omega)only[go_sem]
 refine QT (fun c=>?_) (fun c=>?_)
 ·simp(disch:=omega)only[go_sem,teD]
  refine QQ (Qs8 (h _ (gt_mem (by omega) c))) ?_
  simp(disch:=omega)only[go_sem,axS]
  exact⟨k+1,by simp,by omega,by omega⟩
 ·simp(disch:=omega)only[go_sem]
def TvOk(vr ad:Int)(vs:List Int):Prop:=(-1≤vr∧vr<vs.length)∧(-100≤ad∧ad≤100)∧∀x∈vs, -1000≤x∧x≤1000
theorem TvOk.gt{vr ad:Int}{vs:List Int}(h:TvOk vr ad vs)(h0:0≤vr): -1000≤gt vs vr∧Go.Am.gt vs vr≤1000:=h.2.2 _ (gt_mem h0 h.1.2)
theorem QkF{vr ad:Int}{vs:List Int}(h:TvOk vr ad vs)(hl:vs.length≤100):FT 352 [.agg [.int .i64 vr,.int .i64 ad],.lst 1 (QR vs)] (.tup [.int .i64 (Q1 vr ad vs),.bool true]):=by
 refine fo [[]] ?_
 conv in fnC ..=>reduce
 obtain⟨⟨h1,h2⟩,⟨h3,h4⟩,_⟩:=id h
 by_cases c:vr= -1
 ·simp(disch:=omega)only[go_sem,axS]
  simp [Q1,c]
 ·have:=h.gt (by omega)
  simp(disch:=omega)only[go_sem,axS]
  simp [Q1];omega
theorem Qs9{x:Te}{vs:List Int}(hl:vs.length≤100)(h1:TvOk x.lv x.la vs)(h2:TvOk x.rv x.ra vs):FT 291 [teD x,.lst 1 (QR vs)] (.bool (teB vs x)):=by
 refine fo [] ?_
 conv in fnC ..=>reduce
 have r1:=QkF h1 hl
 have r2:=QkF h2 hl
 simp(disch:=omega)only[go_sem,teD]
 refine QQ r1 ?_
 simp(disch:=omega)only[go_sem]
 refine QQ r2 ?_
 simp(disch:=omega)only[go_sem]
 unfold teB
 cases c1:decide (x.k=1)<;>cases c2:decide (x.k=2)<;>cases c3:decide (Q1 x.lv x.la vs≤Q1 x.rv x.ra vs)<;>simp(disch:=omega)only[go_sem,c1,c2,c3]<;>rfl
end
theorem QdS{l:List Bool}{i:Nat}{b:Bool}:(bls l).set i (.bool b)=bls (l.set i b):=Qf2
section
variable {t:Ty}
theorem Qgl(h:TyOk t){b:Int}:∀a:Int,a<t.n.length→Xh t a b=true→(Q0 t b).length≤(Q0 t a).length:=by
 refine JF h (fun a ha hs=>?_) fun a ha ih hs=>?_
 ·simp [Xh,Qbx ha] at hs
 ·rw[Ty.sub_par h ha] at hs
  simp only[QG,Ql] at hs
  rcases hs with rfl|hs
  ·exact Qg _
  ·rw[Qac h ha,Qj]
   have:=ih hs
   omega
theorem Qta{n:Int}(h: -100≤n∧n≤100):FT 275 [.int .i64 n] (.bool true):=by
 refine fo [] ?_
 conv in fnC ..=>reduce
 obtain⟨h1,h2⟩:=h
 simp(disch:=omega)only[go_sem,axS]
theorem QaQ{n a b:Int}(h1:a≤n)(h2:n≤b):FT 305 [.int .i64 n,.int .i64 a,.int .i64 b] (.bool true):=by
 refine fo [] ?_
 conv in fnC ..=>reduce
 simp(disch:=omega)only[go_sem,axS]
theorem Qtb(h:TyOk t){p:Pa}(hg:QZ p.g=0)(hy:Typ t p.g){x:Slo}(hx:SlOk t p.g p.v x):FT 274 [tyD t,paD p,.int .i64 x.nd,.int .i64 x.ak] (.tup [atD (gt (Q0 t (gt p.g.n x.nd)) x.ak),.bool true]):=by
 refine fo [[]] ?_
 conv in fnC ..=>reduce
 have l:=QX hg
 have ra:=Qag h (hy.of hx.nd)
 have g:=X7 h (hy.of hx.nd).2
 obtain⟨n1,n2⟩:=hx.nd
 obtain⟨a1,a2⟩:=hx.ak
 generalize Q0 t (gt p.g.n x.nd)=A at*
 simp(disch:=omega)only[go_sem,axS,tyD,paD,paL]
 refine QQ ra ?_
 simp(disch:=omega)only[go_sem,axS,atD,Int.toNat_of_nonneg]
theorem Qtc(h:TyOk t){p:Pa}(hg:QZ p.g=0)(hy:Typ t p.g){x:Slo}(hx:SlOk t p.g p.v x):FT 306 [tyD t,paD p,slD x] (.tup [atD (gt (Q0 t (gt p.g.n x.nd)) x.ak),.bool true]):=by
 refine fo [[]] ?_
 conv in fnC ..=>reduce
 have l:=QX hg
 have ra:=QbD h (hy.of hx.nd)
 have g:=X7 h (hy.of hx.nd).2
 obtain⟨n1,n2⟩:=hx.nd
 obtain⟨a1,a2⟩:=hx.ak
 generalize Q0 t (gt p.g.n x.nd)=A at*
 simp(disch:=omega)only[go_sem,axS,tyD,paD,paL,slD]
 refine QQ (QaQ (by omega) (by omega)) ?_
 simp(disch:=omega)only[go_sem,axS]
 refine QQ ra ?_
 simp(disch:=omega)only[go_sem,axS]
 refine QQ (QaQ (by omega) (by omega)) ?_
 simp(disch:=omega)only[go_sem,axS,atD,Int.toNat_of_nonneg]
theorem QkG{p:Pa}(hl:p.s.length≤10){v:Int}:FT 277 [paD p,.int .i64 v] (.bool (p.s.any fun x=>decide (x.vr=v))):=by
 refine fo [] ?_
 conv in fnC ..=>reduce
 simp(disch:=omega)only[go_sem,paD,paL]
 refine Q8 5 p.s.length (fun _=>[]) (fun _=>[]) (fun i=>p.s.any (fun x=>decide (x.vr=v))=(p.s.drop i).any fun x=>decide (x.vr=v)) rfl rfl fun i hi hI=>?_
 simp(disch:=omega)only[go_sem]
 refine QT (fun c=>?_) (fun c=>?_)
 ·have hd:p.s.drop i=gt p.s (i:Int)::p.s.drop (i+1):=by rw[List.drop_eq_getElem_cons (by omega),QV (by omega)]
  rw[hd,List.any_cons] at hI
  cases d:decide ((gt p.s (i:Int)).vr=v)
  ·simp(disch:=omega)only[go_sem,slD,d]
   rw[d,Bool.false_or] at hI
   exact⟨i+1,by simp,⟨by omega,hI⟩,by omega⟩
  ·simp(disch:=omega)only[go_sem,slD,d]
   rw[hI,d];rfl
 ·obtain rfl:i=p.s.length:=by omega
  rw[List.drop_length] at hI
  simp(disch:=omega)only[go_sem]
  rw[hI];rfl
theorem Qgm(h:TyOk t){p:Pa}(hp:PaOk t p):FT 197 [tyD t,paD p] (.int .i64 0):=by
 refine fo [] ?_
 conv in fnC ..=>reduce
 have l:=QX hp.g
 have r2:=Jn p.g
 rw[hp.g] at r2
 obtain⟨v1,v2⟩:=hp.v
 have hs:=hp.sl
 have ht:=hp.tl
 have ro:=fun v=>QkG (p:=p) hs (v:=v)
 simp(disch:=omega)only[go_sem,tyD,paD,paL]
 refine QQ (Qbz h) ?_
 simp(disch:=omega)only[go_sem,axS]
 refine QQ r2 ?_
 simp(disch:=omega)only[go_sem,axS]
 refine QQ (Qcm h hp.g hp.ty) ?_
 simp(disch:=omega)only[go_sem,axS]
 refine Xb 8 p.s.length 0 rfl (by omega) fun i _ hi=>?_
 simp(disch:=omega)only[go_sem]
 refine QT (fun c=>?_) (fun c=>?_)
 ·have hx:=hp.s _ (gt_mem (l:=p.s) (j:=(i:Int)) (by omega) c)
  obtain⟨q1,q2⟩:=hx.vr
  simp(disch:=omega)only[go_sem,axS,slD,tyD]
  refine QQ (Qtb h hp.g hp.ty hx) ?_
  simp(disch:=omega)only[go_sem,axS,atD]
  refine QQ (Qta hx.ad) ?_
  simp(disch:=omega)only[go_sem]
  exact⟨i+1,by simp,by omega,by omega⟩
 ·simp(disch:=omega)only[go_sem]
  refine QQ (QkC v1 v2 ht hp.t) ?_
  simp(disch:=omega)only[go_sem,axS]
  refine Xb 13 p.v.toNat 0 rfl (by omega) fun i _ hi=>?_
  simp(disch:=omega)only[go_sem]
  refine QT (fun c=>?_) (fun c=>?_)
  ·obtain⟨y,hy,e⟩:=hp.oc i (by omega) c
   have ro:=ro i
   rw[show (p.s.any fun x=>decide (x.vr=(i:Int)))=true from List.any_eq_true.2 ⟨y,hy,Qe e⟩] at ro
   simp(disch:=omega)only[go_sem]
   refine QQ ro ?_
   simp(disch:=omega)only[go_sem]
   exact⟨i+1,by simp,by omega,by omega⟩
  ·simp(disch:=omega)only[go_sem]
theorem QkH(t:Ty){n:Int}(h:IsT t n):FT 303 [.int .i64 n,.ref (tyD t).cells] (.bool false):=by
 refine fo [] ?_
 conv in fnC ..=>reduce
 have:=h.2
 simp(disch:=omega)only[go_sem,axS,tyD]
theorem QkI(t:Ty){x:E}(h:x.t<t.e.length):FT 304 [edD x,.ref (tyD t).cells] (.bool false):=by
 refine fo [] ?_
 conv in fnC ..=>reduce
 simp(disch:=omega)only[go_sem,axS,tyD,edD]
theorem Qtd(l:List Bool)(hl:l.length≤100)(b:Bool)(h:∀x∈l,x=!b):FT 362 [.lst 1 (bls l),.bool b] (.int .i64 (-1)):=by
 refine fo [] ?_
 conv in fnC ..=>reduce
 simp(disch:=omega)only[go_sem]
 refine Xb 8 l.length 0 rfl (by omega) fun i _ hi=>?_
 simp(disch:=omega)only[go_sem]
 refine QT (fun c=>?_) (fun c=>?_)
 ·have e:=h _ (gt_mem (l:=l) (j:=(i:Int)) (by omega) c)
  cases b<;>simp(disch:=omega)only[go_sem,e]<;>exact⟨i+1,by simp,by omega,by omega⟩
 ·simp(disch:=omega)only[go_sem]
theorem Qte(l:List Bool)(hl:l.length≤100)(b:Bool)(h:∀x∈l,x=!b):FT 308 [.lst 1 (bls l),.bool b] (.bool false):=by
 refine fo [] ?_
 conv in fnC ..=>reduce
 simp(disch:=omega)only[go_sem]
 refine QQ (Qtd l hl b h) ?_
 simp(disch:=omega)only[go_sem,axS]
theorem Qgn(h:TyOk t){p:Pa}(hp:PaOk t p):FT 219 [tyD t,paD p] (.int .i64 0):=by
 refine fo [] ?_
 conv in fnC ..=>reduce
 have l:=QX hp.g
 have r2:=JH p.g
 rw[hp.g] at r2
 obtain⟨v1,v2⟩:=hp.v
 have hs:=hp.sl
 have ht:=hp.tl
 have c1:=JG p.g.n (by unfold QS;omega) 303 [.ref (tyD t).cells] rfl (fun _=>false) fun x hx=>QkH t (hp.ty.n x hx)
 have c2:=Qcc p.g.e (by unfold QS;omega) 304 [.ref (tyD t).cells] rfl (fun _=>false) fun x hx=>QkI t (hp.ty.e x hx).2
 rw[List.any_eq_false.2 fun _ _=>by simp] at c1 c2
 simp(disch:=omega)only[go_sem,tyD,paD,paL]
 refine QQ (Qal h) ?_
 simp(disch:=omega)only[go_sem,axS]
 refine QQ r2 ?_
 simp(disch:=omega)only[go_sem,axS]
 refine QQ c1 ?_
 simp(disch:=omega)only[go_sem]
 refine QQ c2 ?_
 simp(disch:=omega)only[go_sem]
 refine QQ (QaQ v1 v2) ?_
 simp(disch:=omega)only[go_sem,axS]
 refine Yw (fun x:Nat×List Bool=>[(60,.int .i64 x.1)]) (fun x=>[(2,.arr 1 (bls x.2))]) (fun x=>x.1≤p.s.length∧x.2.length=p.v.toNat∧∀k:Nat,k<x.1→0≤(gt p.s (k:Int)).vr→gt x.2 (gt p.s (k:Int)).vr=true) (fun x=>p.s.length-x.1) (0,List.replicate p.v.toNat false) ?_ ⟨by simp,by simp,fun k hk=>absurd hk (by simp)⟩ ?_
 ·simp(disch:=omega)only[go_sem]
  simp
 rintro⟨i,kn⟩ ⟨hi,hk,hI⟩
 simp only at hi hk hI
 simp(disch:=omega)only[go_sem]
 refine QT (fun c=>?_) (fun c=>?_)
 ·have hx:=hp.s _ (gt_mem (l:=p.s) (j:=(i:Int)) (by omega) c)
  obtain⟨q1,q2⟩:=hx.vr
  obtain⟨q3,q4⟩:=hx.ad
  simp(disch:=omega)only[go_sem,axS,slD,tyD]
  refine QQ (Qtc h hp.g hp.ty hx) ?_
  simp(disch:=omega)only[go_sem,axS,atD]
  refine QQ (QaQ q1 (by omega)) ?_
  simp(disch:=omega)only[go_sem]
  refine QQ (QaQ (by omega) (by omega)) ?_
  simp(disch:=omega)only[go_sem]
  by_cases c1:0≤(gt p.s (i:Int)).vr
  ·obtain⟨v,hv⟩:∃v:Nat,(gt p.s (i:Int)).vr=v:=⟨_,(Int.toNat_of_nonneg c1).symm⟩
   have hv2:v<kn.length:=by omega
   simp(disch:=omega)only[go_sem,axS,hv,QdS]
   refine⟨(i+1,kn.set v true),by simp,⟨by simp only;omega,by simp;omega,fun k hk h0=>?_⟩,by simp only;omega⟩
   simp only at hk ⊢
   by_cases c2:(gt p.s (k:Int)).vr=v
   ·rw[c2,QV (by simp;omega)];simp
   ·have hki:k≠i:=fun e=>c2 (by rw[e,hv])
    have hy:=(hp.s _ (gt_mem (l:=p.s) (j:=(k:Int)) (by omega) (by omega))).vr
    obtain⟨w,hw⟩:∃w:Nat,(gt p.s (k:Int)).vr=w:=⟨_,(Int.toNat_of_nonneg h0).symm⟩
    have:=hI k (by omega) h0
    rw[hw,QV (by omega)] at this
    rw[hw,QV (by simp;omega),List.getElem_set_ne (by omega)]
    exact this
  ·simp(disch:=omega)only[go_sem,axS]
   refine⟨(i+1,kn),by simp,⟨by simp only;omega,hk,fun k hk h0=>?_⟩,by simp only;omega⟩
   by_cases c2:k=i
   ·subst c2;exact absurd h0 c1
   ·exact hI k (by simp only at hk;omega) h0
 ·obtain rfl:i=p.s.length:=by omega
  have hall:∀x∈kn,x=!false:=fun x hx=>by
   obtain⟨v,hv,rfl⟩:=Xk hx
   obtain⟨y,hy,e⟩:=hp.oc v (by omega) (by omega)
   obtain⟨k,hk2,rfl⟩:=Xk hy
   have:=hI k hk2 (by omega)
   rw[e] at this
   exact this
  simp(disch:=omega)only[go_sem]
  refine QQ (QkE v1 v2 ht hp.t) ?_
  simp(disch:=omega)only[go_sem,axS]
  refine QQ (Qte kn (by omega) false hall) ?_
  simp(disch:=omega)only[go_sem]
theorem QkJ{vr ad:Int}{vs:List Int}(h1:vr<vs.length)(hl:vs.length≤100)(h2: -1000≤ad∧ad≤1000)(h3:∀x∈vs, -1000≤x∧x≤1000):FT 290 [.agg [.int .i64 vr,.int .i64 ad],.lst 1 (QR vs)] (.int .i64 (Q1 vr ad vs)):=by
 refine fo [[]] ?_
 conv in fnC ..=>reduce
 unfold Q1
 by_cases c:vr<0
 ·simp(disch:=omega)only[go_sem,axS,c]
 ·have:=h3 _ (gt_mem (l:=vs) (j:=vr) (by omega) h1)
  rw[if_neg c]
  simp(disch:=omega)only[go_sem,axS]
theorem QkK{vr ad:Int}{vs:List Int}(h1:vr<vs.length)(hl:vs.length≤100)(h2: -1000≤ad∧ad≤1000)(h3:∀x∈vs, -1000≤x∧x≤1000):FT 374 [.agg [.int .i64 vr,.int .i64 ad],.lst 1 (QR vs)] (.int .i64 (Q1 vr ad vs)):=by
 refine fo [[]] ?_
 conv in fnC ..=>reduce
 unfold Q1
 by_cases c:vr<0
 ·simp(disch:=omega)only[go_sem,axS,c]
 ·have:=h3 _ (gt_mem (l:=vs) (j:=vr) (by omega) h1)
  rw[if_neg c]
  simp(disch:=omega)only[go_sem,axS]
theorem Qtf{vr ad:Int}{vs:List Int}(h0: -1≤vr)(h1:vr<vs.length)(hl:vs.length≤100)(h2: -1000≤ad∧ad≤1000)(h3:∀x∈vs, -1000≤x∧x≤1000):FT 215 [.agg [.int .i64 vr,.int .i64 ad],.lst 1 (QR vs)] (.tup [.int .i64 (Q1 vr ad vs),.int .i64 0]):=by
 refine fo [] ?_
 conv in fnC ..=>reduce
 simp(disch:=omega)only[go_sem,axS]
 refine QQ (QkJ h1 hl h2 h3) ?_
 simp(disch:=omega)only[go_sem]
theorem Qtg{vr ad:Int}{vs:List Int}(h0: -1≤vr)(h1:vr<vs.length)(hl:vs.length≤100)(h2: -1000≤ad∧ad≤1000)(h3:∀x∈vs, -1000≤x∧x≤1000):FT 327 [.agg [.int .i64 vr,.int .i64 ad],.lst 1 (QR vs)] (.tup [.int .i64 (Q1 vr ad vs),.int .i64 0]):=by
 refine fo [] ?_
 conv in fnC ..=>reduce
 simp(disch:=omega)only[go_sem]
 refine QQ (QaQ (by omega) (by omega)) ?_
 simp(disch:=omega)only[go_sem]
 refine QQ (QkK h1 hl h2 h3) ?_
 simp(disch:=omega)only[go_sem]
theorem QdT(h:TyOk t){p:Pa}(hp:PaOk t p){x:Hs}(hx:HsOk t x){m:Mo}(hm:SmOk t p.g x.g m){s:Slo}(hs:s∈p.s):(0≤s.nd∧s.nd<m.n.length)∧(0≤gt m.n s.nd∧gt m.n s.nd<x.v.length)∧(0≤s.ak∧s.ak<(gt x.v (gt m.n s.nd)).length)∧ -3≤gt (gt x.v (gt m.n s.nd)) s.ak∧gt (gt x.v (gt m.n s.nd)) s.ak≤11:=by
 have ho:=hp.s s hs
 obtain⟨n,hn,en⟩:=gtI ho.nd
 obtain⟨k1,k2⟩:=ho.ak
 have hl:=hm.ln
 obtain⟨a1,a2⟩:=hm.nd n hn
 rw[←en] at a1 a2
 obtain⟨j,hj,ej⟩:=gtI a1
 have hv:=hx.nd hj
 rw[ej] at a2
 have hle:=Qgl h _ (hx.ty.of ⟨by omega,by omega⟩).2 a2
 have hxl:=hx.ln
 have hvl:=hv.l
 obtain⟨k,hk⟩:∃k:Nat,s.ak=k:=⟨_,(Int.toNat_of_nonneg k1).symm⟩
 have hb:=hv.b k (by omega)
 have hd:=Qca h hv.ty.2 (gt_mem (l:=Q0 t (gt x.g.n (j:Int))) (j:=(k:Int)) (by omega) (by omega))
 rw[ej,hk]
 exact⟨⟨ho.nd.1,by have:=ho.nd.2;omega⟩,⟨by omega,by omega⟩,⟨by omega,by omega⟩,by omega,by omega⟩
def Zq(x:Hs)(m:Mo)(s:Slo)(vk:List Int×List Bool):List Int×List Bool:=if 0≤s.vr∧gt vk.2 s.vr=false then (vk.1.set s.vr.toNat (gt (gt x.v (gt m.n s.nd)) s.ak-s.ad),vk.2.set s.vr.toNat true) else vk
theorem Qcn(x:Hs)(m:Mo)(s:Slo)(l:List Slo)(vk:List Int×List Bool):ZE x m (s::l) vk=if Q1 s.vr s.ad (Zq x m s vk).1≠gt (gt x.v (gt m.n s.nd)) s.ak then (Zq x m s vk,11) else ZE x m l (Zq x m s vk):=rfl
theorem Qgo{x:Hs}{m:Mo}{s:Slo}{vk:List Int×List Bool}{n:Nat}(h1:vk.1.length=n)(h2:vk.2.length=n)(h3:∀y∈vk.1, -200≤y∧y≤200)(ha: -100≤s.ad∧s.ad≤100)(hb: -3≤gt (gt x.v (gt m.n s.nd)) s.ak∧gt (gt x.v (gt m.n s.nd)) s.ak≤11):
  (Zq x m s vk).1.length=n∧(Zq x m s vk).2.length=n∧∀y∈(Zq x m s vk).1, -200≤y∧y≤200:=by
 unfold Zq
 split
 ·refine⟨by simp [h1],by simp [h2],fun y hy=>?_⟩
  rcases List.mem_or_eq_of_mem_set hy with hy|rfl
  ·exact h3 y hy
  ·omega
 ·exact⟨h1,h2,h3⟩
end
structure Sx where
 t:Ty
 p:G
 g:G
 a:Mo
 j:Bool
structure SxOk(s:Sx):Prop where
 t:TyOk s.t
 p:QZ s.p=0
 g:QZ s.g=0
 tp:Typ s.t s.p
 tg:Typ s.t s.g
 an:s.a.n.length=s.p.n.length
 ae:s.a.e.length=s.p.e.length
 bn:∀x∈s.a.n, -1≤x∧x<s.g.n.length
 be:∀x∈s.a.e, -1≤x∧x<s.g.e.length
structure PNd(s:Sx)(N:List Int):Prop where
 l:N.length≤s.p.n.length
 b:∀i:Nat,i<N.length→(0≤gt N (i:Int)∧gt N (i:Int)<s.g.n.length)∧Xh s.t (gt s.g.n (gt N (i:Int))) (gt s.p.n (i:Int))=true
 a:∀i:Nat,i<N.length→0≤gt s.a.n (i:Int)→gt s.a.n (i:Int)=gt N (i:Int)
 j:s.j=true→N.Nodup
structure PEd(s:Sx)(N M:List Int):Prop where
 l:M.length≤s.p.e.length
 b:∀i:Nat,i<M.length→(0≤gt M (i:Int)∧gt M (i:Int)<s.g.e.length)∧(gt s.p.e (i:Int)).t=(gt s.g.e (gt M (i:Int))).t∧gt N (gt s.p.e (i:Int)).f=(gt s.g.e (gt M (i:Int))).f∧gt N (gt s.p.e (i:Int)).o=(gt s.g.e (gt M (i:Int))).o
 a:∀i:Nat,i<M.length→0≤gt s.a.e (i:Int)→gt s.a.e (i:Int)=gt M (i:Int)
 j:s.j=true→M.Nodup
theorem QdU{l:List Int}{x:Int}{i:Nat}(h:i<l.length):gt (l++[x]) (i:Int)=gt l (i:Int):=by
 rw[QV (by simp;omega),QV h,List.getElem_append_left h]
theorem QdV{l:List Int}{x:Int}:gt (l++[x]) (l.length:Int)=x:=by
 rw[QV (by simp)];simp
theorem QkL{l:List Int}{x:Int}(h:l.Nodup)(hx:¬x∈l):(l++[x]).Nodup:=by
 rw[Qy]
 exact⟨h,by simp,fun a ha b hb e=>by simp at hb;subst hb;subst e;exact hx ha⟩
theorem PNd.snoc{s:Sx}{N:List Int}(h:PNd s N)(hl:N.length<s.p.n.length){k:Int}(hk:0≤k∧k<s.g.n.length)(ht:Xh s.t (gt s.g.n k) (gt s.p.n (N.length:Int))=true)
  (ha:0≤gt s.a.n (N.length:Int)→gt s.a.n (N.length:Int)=k) (hj:s.j=true→¬k∈N):PNd s (N++[k]):=by
 refine⟨by simp;omega,fun i hi=>?_,fun i hi=>?_,fun e=>QkL (h.j e) (hj e)⟩<;>rw[Qj,List.length_singleton] at hi<;>by_cases c:i<N.length
 ·rw[QdU c];exact h.b i c
 ·obtain rfl:i=N.length:=by omega
  rw[QdV];exact⟨hk,ht⟩
 ·rw[QdU c];exact h.a i c
 ·obtain rfl:i=N.length:=by omega
  rw[QdV];exact ha
theorem PEd.snoc{s:Sx}{N M:List Int}(h:PEd s N M)(hl:M.length<s.p.e.length){k:Int}(hk:0≤k∧k<s.g.e.length)
  (ht:(gt s.p.e (M.length:Int)).t=(gt s.g.e k).t∧gt N (gt s.p.e (M.length:Int)).f=(gt s.g.e k).f∧gt N (gt s.p.e (M.length:Int)).o=(gt s.g.e k).o)
  (ha:0≤gt s.a.e (M.length:Int)→gt s.a.e (M.length:Int)=k) (hj:s.j=true→¬k∈M):PEd s N (M++[k]):=by
 refine⟨by simp;omega,fun i hi=>?_,fun i hi=>?_,fun e=>QkL (h.j e) (hj e)⟩<;>rw[Qj,List.length_singleton] at hi<;>by_cases c:i<M.length
 ·rw[QdU c];exact h.b i c
 ·obtain rfl:i=M.length:=by omega
  rw[QdV];exact⟨hk,ht⟩
 ·rw[QdU c];exact h.a i c
 ·obtain rfl:i=M.length:=by omega
  rw[QdV];exact ha
theorem QkM{l:List Int}{i:Int}(h0:0≤i)(h:i<l.length)(hl:l.length≤1000):FT 473 [.lst 1 (QR l),.int .i64 i] (.int .i64 (gt l i)):=by
 refine fo [] ?_
 conv in fnC ..=>reduce
 simp(disch:=omega)only[go_sem]
 refine Qdi (fun c=>?_) (fun _=>?_)
 ·have:=congrArg List.length c
  rw[Ji] at this
  simp at this
  rw[this] at h
  simp at h
  omega
 ·simp(disch:=omega)only[go_sem]
def fxR(s:Sx)(N M:List Int):D:=.ref [.lst 1 (QR s.p.n),.lst 3 (eds s.p.e),.lst 1 (QR s.g.n),.lst 3 (eds s.g.e),.lst 1 (brs (isM s.t)),.lst 1 (QR s.a.n),.lst 1 (QR s.a.e),.bool s.j,.int .i64 5001,.lst 1 (QR N),.lst 1 (QR M),.lst 2 []]
def fxB(s:Sx)(N M:List Int):D:=.box [.lst 1 (QR s.p.n),.lst 3 (eds s.p.e),.lst 1 (QR s.g.n),.lst 3 (eds s.g.e),.arr 1 (brs (isM s.t)),.lst 1 (QR s.a.n),.lst 1 (QR s.a.e),.bool s.j,.int .i64 5001,.arr 1 (QR N),.arr 1 (QR M),.arr 2 []]
def QdW(s:Sx)(N:List Int)(i k:Int):Bool:=decide ((gt s.g.e k).t=(gt s.p.e i).t)&&(decide ((gt s.g.e k).f=gt N (gt s.p.e i).f)&&decide ((gt s.g.e k).o=gt N (gt s.p.e i).o))
def Z7(s:Sx)(N:List Int)(i k:Int):Bool:=!(decide (0≤gt s.a.e i)&&!decide (gt s.a.e i=k))&&QdW s N i k
def QdX(s:Sx)(N:List Int)(i:Int):Bool:=!decide ((if (gt s.p.e i).f<(gt s.p.e i).o then (gt s.p.e i).o else (gt s.p.e i).f)=(N.length:Int)-1)
theorem QkN{s:Sx}(h:SxOk s)(N M:List Int)(hN:N.length≤s.p.n.length){i k:Nat}(hi:i<s.p.e.length)(hk:k<s.g.e.length)(hf:(gt s.p.e (i:Int)).f<N.length)(ho:(gt s.p.e (i:Int)).o<N.length):FT 475 [fxR s N M,.int .i64 i,.int .i64 k] (.bool (Z7 s N i k)):=by
 refine fo [[]] ?_
 conv in fnC ..=>reduce
 have lp:=QX h.p
 have lg:=QX h.g
 have l1:=h.an
 have l2:=h.ae
 obtain⟨b1,b2⟩:=ZF h.p hi
 have r:=QkM (l:=s.a.e) (i:=i) (by omega) (by omega) (by omega)
 simp(disch:=omega)only[go_sem,axS,fxR,edD]
 refine QQ r ?_
 cases c1:decide (0≤gt s.a.e (i:Int))
 ·simp(disch:=omega)only[go_sem,c1]
  simp [Z7,QdW,c1]
 ·cases c2:decide (gt s.a.e (i:Int)=(k:Int))<;>simp(disch:=omega)only[go_sem,c1,c2]<;>simp [Z7,QdW,c1,c2]
def Qco(s:Sx)(N:List Int)(i:Nat):Bool:=QdX s N i||(List.range s.g.e.length).any fun k:Nat=>Z7 s N i k
def QaR(s:Sx)(N:List Int):Bool:=(List.range s.p.e.length).all (Qco s N)
theorem Qgp{n i:Nat}(h:i<n):(List.range n).drop i=i::(List.range n).drop (i+1):=by
 rw[List.drop_eq_getElem_cons (by simp;omega)];simp
theorem Qth{s:Sx}(h:SxOk s)(N M:List Int)(hN:N.length≤s.p.n.length)(h0:0<N.length):FT 474 [fxR s N M] (.bool (QaR s N)):=by
 refine fo [] ?_
 conv in fnC ..=>reduce
 have lp:=QX h.p
 have lg:=QX h.g
 simp(disch:=omega)only[go_sem,axS,fxR]
 refine Q8 20 s.p.e.length (fun _=>[]) (fun _=>[]) (fun i=>QaR s N=((List.range s.p.e.length).drop i).all (Qco s N)) rfl rfl fun i hi hI=>?_
 simp(disch:=omega)only[go_sem]
 refine QT (fun c=>?_) (fun c=>?_)
 ·have b:=ZF h.p (i:=i) (by omega)
  rw[Qgp (by omega),List.all_cons] at hI
  simp(disch:=omega)only[go_sem,edD]
  cases c1:QdX s N i
  ·have c2:=c1
   unfold QdX at c2
   simp(disch:=omega)only[go_sem,c2]
   refine Q8 38 s.g.e.length (fun _=>[]) (fun _=>[]) (fun k=>Qco s N i=((List.range s.g.e.length).drop k).any fun k:Nat=>Z7 s N i k) rfl (by simp [Qco,c1]) fun k hk hK=>?_
   simp(disch:=omega)only[go_sem]
   refine QT (fun c=>?_) (fun c=>?_)
   ·rw[Qgp (by omega),List.any_cons] at hK
    have hf:(gt s.p.e (i:Int)).f<N.length:=by simp at c2;split at c2<;>omega
    have ho:(gt s.p.e (i:Int)).o<N.length:=by simp at c2;split at c2<;>omega
    have r:=QkN h N M hN (i:=i) (k:=k) (by omega) (by omega) hf ho
    simp(disch:=omega)only[go_sem,fxR]
    refine QQ r ?_
    cases d:Z7 s N i k
    ·simp(disch:=omega)only[go_sem]
     rw[d,Bool.false_or] at hK
     exact⟨k+1,by simp,⟨by omega,hK⟩,by omega⟩
    ·rw[d,Bool.true_or] at hK
     rw[hK,Bool.true_and] at hI
     simp(disch:=omega)only[go_sem]
     exact⟨i+1,by simp,⟨by omega,hI⟩,by omega⟩
   ·rw[QD (by simp;omega),List.any_nil] at hK
    rw[hK,Bool.false_and] at hI
    simp(disch:=omega)only[go_sem]
    rw[hI]
  ·have c2:=c1
   unfold QdX at c2
   simp(disch:=omega)only[go_sem,c2]
   rw[Qco,c1,Bool.true_or,Bool.true_and] at hI
   exact⟨i+1,by simp,⟨by omega,hI⟩,by omega⟩
 ·obtain rfl:i=s.p.e.length:=by omega
  rw[QD (by simp)] at hI
  simp(disch:=omega)only[go_sem]
  rw[hI];rfl
theorem QkO{s:Sx}{N:List Int}{i k:Int}(h:Z7 s N i k=true):((gt s.p.e i).t=(gt s.g.e k).t∧gt N (gt s.p.e i).f=(gt s.g.e k).f∧gt N (gt s.p.e i).o=(gt s.g.e k).o)∧(0≤gt s.a.e i→gt s.a.e i=k):=by
 simp [Z7,QdW] at h
 exact⟨⟨h.2.1.symm,h.2.2.1.symm,h.2.2.2.symm⟩,fun h0=>by rcases h.1 with h1|h1;omega;exact h1⟩
def NoX(s:Sx):Prop:=∀N M,PNd s N→N.length=s.p.n.length→PEd s N M→M.length=s.p.e.length→False
set_option maxHeartbeats 4000000 in
theorem Qti{s:Sx}(h:SxOk s)(hx:NoX s):∀(n:Nat)(N M:List Int),PNd s N→PEd s N M→(N.length<s.p.n.length→M=[])→n=(s.p.n.length-N.length)+(s.p.e.length-M.length)→FC Tryz.prog 472 [fxB s N M] (.tup []) [(0,fxB s N M)]:=by
 intro n
 induction n using Nat.strongRecOn with
 |ind n ih=>
 intro N M hN hM hE hn
 refine fo [[],[],[],[],[(4,none,[],true),(9,none,[4],true),(13,(some 7168),[9],false),(14,none,[4],false),(16,none,[4],false)]] ?_
 conv in fnC ..=>reduce
 have lp:=QX h.p
 have lg:=QX h.g
 have hMl:=Qam s.t
 have l1:=h.an
 have l2:=h.ae
 have l3:=hN.l
 have l4:=hM.l
 have o1:decide ((0:Int)=5001)=false:=rfl
 simp(disch:=omega)only[go_sem,fxB]
 simp(disch:=omega)only[go_sem,axS]
 refine QT (fun c=>?_) (fun c=>?_)
 ·obtain rfl:=hE (by omega)
  simp(disch:=omega)only[go_sem,axS]
  refine Yw (fun s:Nat×List Int=>[(63,.int .i64 s.1)]) (fun s=>[(1,.arr 1 (QR s.2))]) (fun x=>x.1≤s.g.n.length∧N.length≤x.2.length∧x.2.take N.length=N) (fun x=>s.g.n.length-x.1) (0,N) (by simp(disch:=omega)only[go_sem];rfl) ⟨Nat.zero_le _,Qg _,List.take_length⟩ ?_
  rintro⟨k,xs⟩ ⟨hk,h1,htk⟩
  simp only at hk h1 htk
  have hxs:(xs=N∧N.length=xs.length)∨N.length<xs.length:=by
   by_cases e:N.length=xs.length
   ·rw[e,List.take_length] at htk;exact .inl ⟨htk,e⟩
   ·exact .inr (by omega)
  simp(disch:=omega)only[go_sem]
  refine QT (fun c=>?_) (fun c=>?_)
  ·have r1:=QkM (l:=s.a.n) (i:=N.length) (by omega) (by omega) (by omega)
   have r2:=Zw N k (by unfold QS;omega)
   have b1:=h.tp.nat (i:=N.length) (by omega)
   have b2:=h.tg.nat (i:=k) (by omega)
   have e1:=Qgi (t:=s.t) b1
   have e2:=Qkt (t:=s.t) (a:=(gt s.p.n (N.length:Int)).toNat) b2
   rw[show (((gt s.p.n (N.length:Int)).toNat:Nat):Int)=gt s.p.n (N.length:Int) by omega] at e2
   have hR:=QdQ s.t (gt s.p.n (N.length:Int)).toNat
   have hg:Xh s.t (gt s.g.n (k:Int)) (gt s.p.n (N.length:Int))=true→(0≤gt s.a.n (N.length:Int)→gt s.a.n (N.length:Int)=k)→(s.j=true→¬(k:Int)∈N)→FT 474 [fxR s (N++[(k:Int)]) []] (.bool (QaR s (N++[(k:Int)])))∧FC Tryz.prog 472 [fxB s (N++[(k:Int)]) []] (.tup []) [(0,fxB s (N++[(k:Int)]) [])]:=fun q1 q2 q3=>
    have hp:PNd s (N++[(k:Int)]):=hN.snoc (by omega) ⟨by omega,by omega⟩ q1 q2 q3
    ⟨Qth h _ _ hp.l (by simp),ih _ (by rw[hn,Qj];simp only[List.length_singleton,List.length_nil];omega) _ _ hp ⟨by simp,by simp,by simp,by simp⟩ (fun _=>rfl) rfl⟩
   simp(disch:=omega)only[go_sem]
   refine QQ r1 ?_
   by_cases hw:0≤gt s.a.n (N.length:Int)∧gt s.a.n (N.length:Int)≠k
   ·obtain⟨w1,w2⟩:=hw
    simp(disch:=omega)only[go_sem,axS,e1,e2,Int.toNat_of_nonneg]
    exact⟨(k+1,xs),by simp,⟨by simp only;omega,h1,htk⟩,by simp only;omega⟩
   ·have hw2:0≤gt s.a.n (N.length:Int)→gt s.a.n (N.length:Int)=k:=fun h0=>Classical.byContradiction fun h1=>hw ⟨h0,h1⟩
    rcases (show gt s.a.n (N.length:Int)<0∨gt s.a.n (N.length:Int)=k by omega) with hw|hw<;>(
     simp(disch:=omega)only[go_sem,axS,e1,e2,Int.toNat_of_nonneg]
     cases c3:Xh s.t (gt s.g.n (k:Int)) (gt s.p.n (N.length:Int))
     ·simp(disch:=omega)only[go_sem,c3]
      exact⟨(k+1,xs),by simp,⟨by simp only;omega,h1,htk⟩,by simp only;omega⟩
     ·simp(disch:=omega)only[go_sem,c3]
      rcases hxs with⟨rfl,hx1⟩|hx1
      ·cases c4:s.j
       ·obtain⟨g1,g2⟩:=hg c3 hw2 (fun e=>by rw[c4] at e;cases e)
        simp only[fxR,fxB,c4] at g1 g2
        simp(disch:=omega)only[go_sem]
        refine QQ g1 ?_
        cases d:QaR s (xs++[(k:Int)])
        ·simp(disch:=omega)only[go_sem,Nat.sub_zero]
         exact⟨(k+1,xs++[(k:Int)]),by simp,⟨by simp only;omega,by simp,by simp⟩,by simp only;omega⟩
        ·simp(disch:=omega)only[go_sem]
         refine QQ g2 ?_
         simp(disch:=omega)only[go_sem,Nat.sub_zero]
         exact⟨(k+1,xs++[(k:Int)]),by simp,⟨by simp only;omega,by simp,by simp⟩,by simp only;omega⟩
       ·simp(disch:=omega)only[go_sem]
        refine QQ r2 ?_
        cases c5:decide ((k:Int)∈xs)
        ·obtain⟨g1,g2⟩:=hg c3 hw2 (fun _=>of_decide_eq_false c5)
         simp only[fxR,fxB,c4] at g1 g2
         simp(disch:=omega)only[go_sem]
         refine QQ g1 ?_
         cases d:QaR s (xs++[(k:Int)])
         ·simp(disch:=omega)only[go_sem,Nat.sub_zero]
          exact⟨(k+1,xs++[(k:Int)]),by simp,⟨by simp only;omega,by simp,by simp⟩,by simp only;omega⟩
         ·simp(disch:=omega)only[go_sem]
          refine QQ g2 ?_
          simp(disch:=omega)only[go_sem,Nat.sub_zero]
          exact⟨(k+1,xs++[(k:Int)]),by simp,⟨by simp only;omega,by simp,by simp⟩,by simp only;omega⟩
        ·simp(disch:=omega)only[go_sem]
         exact⟨(k+1,xs),by simp,⟨by simp only;omega,h1,htk⟩,by simp only;omega⟩
      ·cases c4:s.j
       ·obtain⟨g1,g2⟩:=hg c3 hw2 (fun e=>by rw[c4] at e;cases e)
        simp only[fxR,fxB,c4] at g1 g2
        simp(disch:=omega)only[go_sem,axS,htk]
        refine QQ g1 ?_
        cases d:QaR s (N++[(k:Int)])
        ·simp(disch:=omega)only[go_sem,Nat.sub_zero]
         exact⟨(k+1,N++[(k:Int)]),by simp,⟨by simp only;omega,by simp,by simp⟩,by simp only;omega⟩
        ·simp(disch:=omega)only[go_sem]
         refine QQ g2 ?_
         simp(disch:=omega)only[go_sem,Nat.sub_zero]
         exact⟨(k+1,N++[(k:Int)]),by simp,⟨by simp only;omega,by simp,by simp⟩,by simp only;omega⟩
       ·simp(disch:=omega)only[go_sem,axS,htk]
        refine QQ r2 ?_
        cases c5:decide ((k:Int)∈N)
        ·obtain⟨g1,g2⟩:=hg c3 hw2 (fun _=>of_decide_eq_false c5)
         simp only[fxR,fxB,c4] at g1 g2
         simp(disch:=omega)only[go_sem,axS,htk]
         refine QQ g1 ?_
         cases d:QaR s (N++[(k:Int)])
         ·simp(disch:=omega)only[go_sem,Nat.sub_zero]
          exact⟨(k+1,N++[(k:Int)]),by simp,⟨by simp only;omega,by simp,by simp⟩,by simp only;omega⟩
         ·simp(disch:=omega)only[go_sem]
          refine QQ g2 ?_
          simp(disch:=omega)only[go_sem,Nat.sub_zero]
          exact⟨(k+1,N++[(k:Int)]),by simp,⟨by simp only;omega,by simp,by simp⟩,by simp only;omega⟩
        ·simp(disch:=omega)only[go_sem]
         exact⟨(k+1,xs),by simp,⟨by simp only;omega,h1,htk⟩,by simp only;omega⟩)
  ·rcases hxs with⟨rfl,hx1⟩|hx1
   ·simp(disch:=omega)only[go_sem]
   ·simp(disch:=omega)only[go_sem,axS,htk]
 ·have hNl:N.length=s.p.n.length:=by omega
  simp(disch:=omega)only[go_sem,axS]
  refine QT (fun c=>?_) (fun c=>?_)
  ·simp(disch:=omega)only[go_sem,axS]
   refine Yw (fun s:Nat×List Int=>[(164,.int .i64 s.1)]) (fun s=>[(2,.arr 1 (QR s.2))]) (fun x=>x.1≤s.g.e.length∧M.length≤x.2.length∧x.2.take M.length=M) (fun x=>s.g.e.length-x.1) (0,M) (by simp(disch:=omega)only[go_sem];rfl) ⟨Nat.zero_le _,Qg _,List.take_length⟩ ?_
   rintro⟨k,xs⟩ ⟨hk,h1,htk⟩
   simp only at hk h1 htk
   have hxs:(xs=M∧M.length=xs.length)∨M.length<xs.length:=by
    by_cases e:M.length=xs.length
    ·rw[e,List.take_length] at htk;exact .inl ⟨htk,e⟩
    ·exact .inr (by omega)
   simp(disch:=omega)only[go_sem]
   refine QT (fun c=>?_) (fun c=>?_)
   ·have r2:=Zw M k (by unfold QS;omega)
    have bb:=ZF h.p (i:=M.length) (by omega)
    have r1:=QkN h N M (by omega) (i:=M.length) (k:=k) (by omega) (by omega) (by omega) (by omega)
    have hg:Z7 s N (M.length:Int) (k:Int)=true→(s.j=true→¬(k:Int)∈M)→FC Tryz.prog 472 [fxB s N (M++[(k:Int)])] (.tup []) [(0,fxB s N (M++[(k:Int)]))]:=fun q1 q3=>
     have hp:PEd s N (M++[(k:Int)]):=hM.snoc (by omega) ⟨by omega,by omega⟩ (QkO q1).1 (QkO q1).2 q3
     ih _ (by rw[hn,Qj];simp only[List.length_singleton];omega) _ _ hN hp (fun e=>by omega) rfl
    simp only[fxR] at r1
    rcases hxs with⟨rfl,hx1⟩|hx1
    ·simp(disch:=omega)only[go_sem]
     refine QQ r1 ?_
     cases c3:Z7 s N (xs.length:Int) (k:Int)
     ·simp(disch:=omega)only[go_sem]
      exact⟨(k+1,xs),by simp,⟨by simp only;omega,h1,htk⟩,by simp only;omega⟩
     ·cases c4:s.j
      ·have g2:=hg c3 (fun e=>by rw[c4] at e;cases e)
       simp only[fxB,c4] at g2
       simp(disch:=omega)only[go_sem]
       refine QQ g2 ?_
       simp(disch:=omega)only[go_sem,Nat.sub_zero]
       exact⟨(k+1,xs++[(k:Int)]),by simp,⟨by simp only;omega,by simp,by simp⟩,by simp only;omega⟩
      ·simp(disch:=omega)only[go_sem]
       refine QQ r2 ?_
       cases c5:decide ((k:Int)∈xs)
       ·have g2:=hg c3 (fun _=>of_decide_eq_false c5)
        simp only[fxB,c4] at g2
        simp(disch:=omega)only[go_sem]
        refine QQ g2 ?_
        simp(disch:=omega)only[go_sem,Nat.sub_zero]
        exact⟨(k+1,xs++[(k:Int)]),by simp,⟨by simp only;omega,by simp,by simp⟩,by simp only;omega⟩
       ·simp(disch:=omega)only[go_sem]
        exact⟨(k+1,xs),by simp,⟨by simp only;omega,h1,htk⟩,by simp only;omega⟩
    ·simp(disch:=omega)only[go_sem,axS,htk]
     refine QQ r1 ?_
     cases c3:Z7 s N (M.length:Int) (k:Int)
     ·simp(disch:=omega)only[go_sem]
      exact⟨(k+1,xs),by simp,⟨by simp only;omega,h1,htk⟩,by simp only;omega⟩
     ·cases c4:s.j
      ·have g2:=hg c3 (fun e=>by rw[c4] at e;cases e)
       simp only[fxB,c4] at g2
       simp(disch:=omega)only[go_sem,axS,htk]
       refine QQ g2 ?_
       simp(disch:=omega)only[go_sem,Nat.sub_zero]
       exact⟨(k+1,M++[(k:Int)]),by simp,⟨by simp only;omega,by simp,by simp⟩,by simp only;omega⟩
      ·simp(disch:=omega)only[go_sem,axS,htk]
       refine QQ r2 ?_
       cases c5:decide ((k:Int)∈M)
       ·have g2:=hg c3 (fun _=>of_decide_eq_false c5)
        simp only[fxB,c4] at g2
        simp(disch:=omega)only[go_sem,axS,htk]
        refine QQ g2 ?_
        simp(disch:=omega)only[go_sem,Nat.sub_zero]
        exact⟨(k+1,M++[(k:Int)]),by simp,⟨by simp only;omega,by simp,by simp⟩,by simp only;omega⟩
       ·simp(disch:=omega)only[go_sem]
        exact⟨(k+1,xs),by simp,⟨by simp only;omega,h1,htk⟩,by simp only;omega⟩
   ·rcases hxs with⟨rfl,hx1⟩|hx1
    ·simp(disch:=omega)only[go_sem]
    ·simp(disch:=omega)only[go_sem,axS,htk]
  ·exact absurd (hx N M hN hNl hM (by omega)) id
def skB(l:List Int)(i:Int)(k:Int):Bool:=decide (0≤gt l i)&&!decide (gt l i=k)
def oqN(s:Sx)(N:List Int)(k:Int):Bool:=!skB s.a.n N.length k&&(!(s.j&&decide (k∈N))&&Xh s.t (gt s.g.n k) (gt s.p.n (N.length:Int)))
def mtE(s:Sx)(N:List Int)(i k:Int):Bool:=decide ((gt s.p.e i).t=(gt s.g.e k).t)&&(decide ((gt s.g.e k).f=gt N (gt s.p.e i).f)&&decide ((gt s.g.e k).o=gt N (gt s.p.e i).o))
def oqE(s:Sx)(N M:List Int)(k:Int):Bool:=!skB s.a.e M.length k&&(!(s.j&&decide (k∈M))&&mtE s N M.length k)
def Qan(s:Sx)(N:List Int):Bool:=(List.range s.p.e.length).all fun i:Nat=>(decide ((N.length:Int)≤(gt s.p.e (i:Int)).f)||decide ((N.length:Int)≤(gt s.p.e (i:Int)).o))||(List.range s.g.e.length).any fun k:Nat=>mtE s N i k
def rE(s:Sx)(N:List Int):Nat→List Int→List Mo→List Mo
 |0,M,F=>if 5000<F.length then F else F++[⟨N,M⟩]
 |n+1,M,F=>if 5000<F.length then F else (List.range s.g.e.length).foldl (fun F (k:Nat)=>if oqE s N M k=true then rE s N n (M++[(k:Int)]) F else F) F
def rN(s:Sx):Nat→List Int→List Mo→List Mo
 |0,N,F=>if 5000<F.length∨Qan s N=false then F else rE s N s.p.e.length [] F
 |n+1,N,F=>if 5000<F.length∨Qan s N=false then F else (List.range s.g.n.length).foldl (fun F (k:Nat)=>if oqN s N k=true then rN s n (N++[(k:Int)]) F else F) F
structure Fnd(s:Sx)(x:Mo):Prop where
 n:PNd s x.n
 ln:x.n.length=s.p.n.length
 e:PEd s x.n x.e
 le:x.e.length=s.p.e.length
theorem Qcp{α:Type}{P:List Mo→Prop}{f:List Mo→α→List Mo}(h:∀F a,P F→P (f F a)):∀(l:List α)(F:List Mo),P F→P (l.foldl f F)
 |[],_,h0=>h0
 |a::l,F,h0=>Qcp h l _ (h F a h0)
theorem Qgq{α:Type}{P:List Mo→Prop}{f:List Mo→α→List Mo}:∀(l:List α)(F:List Mo),(∀F,∀a∈l,P F→P (f F a))→P F→P (l.foldl f F)
 |[],_,_,h0=>h0
 |a::l,F,h,h0=>Qgq l _ (fun F b hb=>h F b (Qu _ hb)) (h F a (List.mem_cons_self ..) h0)
theorem Qcq{α:Type}{f:List Mo→α→List Mo}(h:∀F a,f F a=[]→F=[]):∀(l:List α)(F:List Mo),l.foldl f F=[]→F=[]∧∀a∈l,f [] a=[]
 |[],F,h0=>⟨h0,by simp⟩
 |a::l,F,h0=>by
  obtain⟨h1,h2⟩:=Qcq h l _ h0
  have h3:=h _ _ h1
  subst h3
  exact⟨rfl,fun b hb=>by rcases Qh.1 hb with rfl|hb;exact h1;exact h2 b hb⟩
theorem QkP{l:List Int}{i k:Int}(h:skB l i k=false):0≤gt l i→gt l i=k:=fun h0=>by
 simp [skB,h0] at h;exact h
theorem Qgr(s:Sx)(N:List Int):∀(n:Nat)(M:List Int)(F:List Mo),F.length≤5001→(rE s N n M F).length≤5001
 |0,M,F,h=>by
  unfold rE;split
  ·exact h
  ·simp;omega
 |n+1,M,F,h=>by
  unfold rE;split
  ·exact h
  ·exact Qcp (P:=fun F=>F.length≤5001) (fun F k hF=>by split;exact Qgr s N n _ F hF;exact hF) _ _ h
theorem JK(s:Sx):∀(n:Nat)(N:List Int)(F:List Mo),F.length≤5001→(rN s n N F).length≤5001
 |0,N,F,h=>by
  unfold rN;split
  ·exact h
  ·exact Qgr s N _ _ F h
 |n+1,N,F,h=>by
  unfold rN;split
  ·exact h
  ·exact Qcp (P:=fun F=>F.length≤5001) (fun F k hF=>by split;exact JK s n _ F hF;exact hF) _ _ h
theorem QkQ{s:Sx}{N:List Int}(hN:PNd s N)(hl:N.length=s.p.n.length):∀(n:Nat)(M:List Int)(F:List Mo),PEd s N M→M.length+n=s.p.e.length→(∀x∈F,Fnd s x)→∀x∈rE s N n M F,Fnd s x
 |0,M,F,hM,h1,hF=>by
  unfold rE;split
  ·exact hF
  ·intro x hx
   rcases Qd.1 hx with hx|hx
   ·exact hF x hx
   ·rw[Qm.1 hx];exact⟨hN,hl,hM,by simpa using h1⟩
 |n+1,M,F,hM,h1,hF=>by
  unfold rE;split
  ·exact hF
  ·refine Qgq (P:=fun F=>∀x∈F,Fnd s x) _ _ (fun F k hk hF=>?_) hF
   have hk:=List.mem_range.1 hk
   split
   ·rename_i ho
    simp only[oqE,mtE,Qk,Bool.not_eq_true',Ql] at ho
    obtain⟨o1,o2,o3,o4,o5⟩:=ho
    exact QkQ hN hl n _ F (hM.snoc (by omega) ⟨by omega,by omega⟩ ⟨o3,o4.symm,o5.symm⟩ (QkP o1) (fun e=>by simp [e] at o2;exact o2)) (by simp;omega) hF
   ·exact hF
theorem QkR{s:Sx}:∀(n:Nat)(N:List Int)(F:List Mo),PNd s N→N.length+n=s.p.n.length→(∀x∈F,Fnd s x)→∀x∈rN s n N F,Fnd s x
 |0,N,F,hN,h1,hF=>by
  unfold rN;split
  ·exact hF
  ·exact QkQ hN (by simpa using h1) _ _ F ⟨by simp,by simp,by simp,by simp⟩ (by simp) hF
 |n+1,N,F,hN,h1,hF=>by
  unfold rN;split
  ·exact hF
  ·refine Qgq (P:=fun F=>∀x∈F,Fnd s x) _ _ (fun F k hk hF=>?_) hF
   have hk:=List.mem_range.1 hk
   split
   ·rename_i ho
    simp only[oqN,Qk,Bool.not_eq_true'] at ho
    obtain⟨o1,o2,o3⟩:=ho
    exact QkR n _ F (hN.snoc (by omega) ⟨by omega,by omega⟩ o3 (QkP o1) (fun e=>by simp [e] at o2;exact o2)) (by simp;omega) hF
   ·exact hF
theorem Qcr(s:Sx)(N:List Int):∀(n:Nat)(M:List Int)(F:List Mo),rE s N n M F=[]→F=[]
 |0,M,F,h=>by
  unfold rE at h;split at h
  ·exact h
  ·simp at h
 |n+1,M,F,h=>by
  unfold rE at h;split at h
  ·exact h
  ·exact (Qcq (fun F k h=>by split at h;exact Qcr s N n _ F h;exact h) _ _ h).1
theorem QdY(s:Sx):∀(n:Nat)(N:List Int)(F:List Mo),rN s n N F=[]→F=[]
 |0,N,F,h=>by
  unfold rN at h;split at h
  ·exact h
  ·exact Qcr s N _ _ F h
 |n+1,N,F,h=>by
  unfold rN at h;split at h
  ·exact h
  ·exact (Qcq (fun F k h=>by split at h;exact QdY s n _ F h;exact h) _ _ h).1
theorem QkS{l m:List Int}(h:l.take m.length=m)(hl:m.length<l.length):l.take (m++[gt l (m.length:Int)]).length=m++[gt l (m.length:Int)]:=by
 rw[Qj,List.length_singleton,Xm hl,h]
theorem QkT{l m:List Int}(hn:l.Nodup)(h:l.take m.length=m)(hl:m.length<l.length):¬gt l (m.length:Int)∈m:=fun hm=>by
 rw[←h] at hm
 obtain⟨i,hi,e⟩:=Xk hm
 have hi2:i<m.length:=by rw[h] at hi;exact hi
 rw[h] at e
 have h3:gt m (i:Int)=gt l (i:Int):=by
  have:=Qci (l:=l) hi2 (by omega)
  rw[h] at this;exact this
 rw[h3] at e
 have:=Zi hn (by omega) hl e
 omega
theorem QkU{s:Sx}{N:List Int}:∀(n:Nat)(M:List Int)(F:List Mo),M.length+n=s.p.e.length→rE s N n M F=[]→∀M',PEd s N M'→M'.length=s.p.e.length→M'.take M.length=M→False
 |0,M,F,_,h,M',_,_,_=>by
  have h0:=Qcr s N 0 M F h
  subst h0
  simp [rE] at h
 |n+1,M,F,h1,h,M',hM,hl,ht=>by
  have h0:=Qcr s N (n+1) M F h
  subst h0
  unfold rE at h
  rw[if_neg (by simp)] at h
  obtain⟨_,h2⟩:=Qcq (fun F k h=>by split at h;exact Qcr s N n _ F h;exact h) _ _ h
  obtain⟨b1,b2,b3,b4⟩:=hM.b M.length (by omega)
  have ha:=hM.a M.length (by omega)
  obtain⟨k,hk,ek⟩:=gtI b1
  have h3:=h2 k (List.mem_range.2 hk)
  have hnd:s.j=true→¬(k:Int)∈M:=fun hj=>by rw[←ek];exact QkT (hM.j hj) ht (by omega)
  have tx:=QkS ht (by omega)
  rw[ek] at b2 b3 b4 ha tx
  have hs:skB s.a.e M.length k=false:=by
   unfold skB
   by_cases c:0≤gt s.a.e (M.length:Int)
   ·simp [ha c]
   ·simp [c]
  have ho:oqE s N M k=true:=by
   simp only[oqE,hs,mtE,b2,b3,b4,Bool.not_false,Bool.true_and,decide_true,Bool.and_true]
   cases hj:s.j
   ·rfl
   ·simp [hnd hj]
  rw[if_pos ho] at h3
  exact QkU n _ _ (by simp;omega) h3 M' hM hl tx
theorem QkV{s:Sx}(hv:QZ s.p=0){N N' M':List Int}(hM:PEd s N' M')(hl:M'.length=s.p.e.length)(ht:N'.take N.length=N)(hn:N.length≤N'.length):Qan s N=true:=by
 unfold Qan
 rw[Qs]
 intro i hi
 have hi:=List.mem_range.1 hi
 by_cases c:(N.length:Int)≤(gt s.p.e (i:Int)).f∨(N.length:Int)≤(gt s.p.e (i:Int)).o
 ·rcases c with c|c<;>simp [c]
 ·obtain⟨b1,b2,b3,b4⟩:=hM.b i (by omega)
  obtain⟨v1,v2⟩:=ZF hv hi
  obtain⟨k,hk,ek⟩:=gtI b1
  have e:∀x:Int,0≤x→x<N.length→gt N x=gt N' x:=fun x h0 h1=>by
   obtain⟨y,rfl⟩:∃y:Nat,x=y:=⟨x.toNat,by omega⟩
   have:=Qci (l:=N') (i:=N.length) (k:=y) (by omega) hn
   rw[ht] at this;exact this
  rw[QG]
  refine .inr (List.any_eq_true.2 ⟨k,List.mem_range.2 hk,?_⟩)
  simp only[mtE,←ek,b2,←b3,←b4,e _ v1.1 (by omega),e _ v2.1 (by omega),decide_true,Bool.and_true]
theorem QkW{s:Sx}(hv:QZ s.p=0):∀(n:Nat)(N:List Int)(F:List Mo),N.length+n=s.p.n.length→rN s n N F=[]→∀x,Fnd s x→x.n.take N.length=N→False
 |0,N,F,h1,h,x,hx,ht=>by
  have h0:=QdY s 0 N F h
  subst h0
  unfold rN at h
  have hN:x.n=N:=by rw[←ht,Qq (by have:=hx.ln;omega)]
  rw[if_neg (by simp [QkV hv hx.e hx.le ht (by have:=hx.ln;omega)])] at h
  exact QkU _ _ _ (by simp) h x.e (by rw[←hN];exact hx.e) hx.le rfl
 |n+1,N,F,h1,h,x,hx,ht=>by
  have h0:=QdY s (n+1) N F h
  subst h0
  have hln:=hx.ln
  unfold rN at h
  rw[if_neg (by simp [QkV hv hx.e hx.le ht (by omega)])] at h
  obtain⟨_,h2⟩:=Qcq (fun F k h=>by split at h;exact QdY s n _ F h;exact h) _ _ h
  obtain⟨b1,b2⟩:=hx.n.b N.length (by omega)
  have ha:=hx.n.a N.length (by omega)
  obtain⟨k,hk,ek⟩:=gtI b1
  have h3:=h2 k (List.mem_range.2 hk)
  have hnd:s.j=true→¬(k:Int)∈N:=fun hj=>by rw[←ek];exact QkT (hx.n.j hj) ht (by omega)
  have tx:=QkS ht (by omega)
  rw[ek] at b2 ha tx
  have hs:skB s.a.n N.length k=false:=by
   unfold skB
   by_cases c:0≤gt s.a.n (N.length:Int)
   ·simp [ha c]
   ·simp [c]
  have ho:oqN s N k=true:=by
   simp only[oqN,hs,b2,Bool.not_false,Bool.true_and,Bool.and_true]
   cases hj:s.j
   ·rfl
   ·simp [hnd hj]
  rw[if_pos ho] at h3
  exact QkW hv n _ _ (by simp;omega) h3 x hx tx
def sxR(s:Sx)(F:List Mo):D:=.ref [.lst 4 (Y0 s.t.n),.lst 7 (Y1 s.t.e),.lst 1 (QR s.p.n),.lst 3 (eds s.p.e),.lst 1 (QR s.g.n),.lst 3 (eds s.g.e),.lst 1 (QR s.a.n),.lst 1 (QR s.a.e),.bool s.j,.int .i64 5000,.lst 2 (pts F)]
def sxB(s:Sx)(F:List Mo):D:=.box [.lst 4 (Y0 s.t.n),.lst 7 (Y1 s.t.e),.lst 1 (QR s.p.n),.lst 3 (eds s.p.e),.lst 1 (QR s.g.n),.lst 3 (eds s.g.e),.lst 1 (QR s.a.n),.lst 1 (QR s.a.e),.bool s.j,.int .i64 5000,.arr 2 (pts F)]
theorem QkX(s:Sx)(F:List Mo)(l:List Int)(hl:l.length≤1000)(x:Int):FT 404 [sxR s F,.lst 1 (QR l),.int .i64 x] (.bool (s.j&&decide (x∈l))):=by
 refine fo [] ?_
 conv in fnC ..=>reduce
 simp(disch:=omega)only[go_sem,sxR]
 refine Q8 7 l.length (fun _=>[]) (fun _=>[]) (fun i=>¬x∈l.take i) rfl (by simp) fun i hi hn=>?_
 by_cases c:i<l.length
 ·have hm:=Qf4 (l:=l) (n:=x) (i:=i) (by omega)
  cases hj:s.j
  ·simp(disch:=omega)only[go_sem,axS]
  ·by_cases d:gt l (i:Int)=x
   ·have:x∈l:=by rw[←d];exact gt_mem (by omega) (by omega)
    simp(disch:=omega)only[go_sem,axS,d,this]
   ·simp(disch:=omega)only[go_sem,axS,dcF d]
    exact⟨i+1,by simp,⟨by omega,fun h=>by rcases hm.1 h with h|h;exact hn h;exact d h⟩,by omega⟩
 ·obtain rfl:i=l.length:=by omega
  rw[List.take_length] at hn
  simp(disch:=omega)only[go_sem,axS]
  simp [hn]
theorem QkY{s:Sx}(h:SxOk s)(F:List Mo)(N:List Int)(hN:N.length≤s.p.n.length):FT 402 [sxR s F,.lst 1 (QR N)] (.bool (Qan s N)):=by
 refine fo [[]] ?_
 conv in fnC ..=>reduce
 have lp:=QX h.p
 have lg:=QX h.g
 simp(disch:=omega)only[go_sem,sxR]
 unfold Qan
 generalize hP:(fun i:Nat=>(decide ((N.length:Int)≤(gt s.p.e (i:Int)).f)||decide ((N.length:Int)≤(gt s.p.e (i:Int)).o))||(List.range s.g.e.length).any fun k:Nat=>mtE s N i k)=P
 refine Q8 5 s.p.e.length (fun _=>[]) (fun _=>[]) (fun i=>(List.range s.p.e.length).all P=((List.range s.p.e.length).drop i).all P) rfl rfl fun i hi hI=>?_
 simp(disch:=omega)only[go_sem]
 refine QT (fun c=>?_) (fun c=>?_)
 ·have b:=ZF h.p (i:=i) (by omega)
  rw[Qgp (by omega),List.all_cons] at hI
  have hPi:=congrFun hP i
  simp(disch:=omega)only[go_sem,edD]
  by_cases c1:(N.length:Int)≤(gt s.p.e (i:Int)).f∨(N.length:Int)≤(gt s.p.e (i:Int)).o
  ·have hT:P i=true:=by
    rw[←hPi];rcases c1 with c1|c1<;>simp [c1]
   rw[hT,Bool.true_and] at hI
   rcases c1 with c1|c1
   ·simp(disch:=omega)only[go_sem,axS]
    exact⟨i+1,by simp,⟨by omega,hI⟩,by omega⟩
   ·cases c2:decide ((N.length:Int)≤(gt s.p.e (i:Int)).f)<;>simp(disch:=omega)only[go_sem,axS,c2]<;>exact⟨i+1,by simp,⟨by omega,hI⟩,by omega⟩
  ·have f1:¬(N.length:Int)≤(gt s.p.e (i:Int)).f:=fun e=>c1 (.inl e)
   have f2:¬(N.length:Int)≤(gt s.p.e (i:Int)).o:=fun e=>c1 (.inr e)
   rw[Qf f1,Qf f2,Bool.false_or,Bool.false_or] at hPi
   simp(disch:=omega)only[go_sem,axS]
   refine Q8 8 s.g.e.length (fun k=>[(7,.bool ((List.range k).any fun k:Nat=>mtE s N i k))]) (fun _=>[]) (fun _=>True) rfl trivial fun k hk _=>?_
   have hs:(List.range (k+1)).any (fun k:Nat=>mtE s N i k)=((List.range k).any (fun k:Nat=>mtE s N i k)||mtE s N i k):=by rw[List.range_succ,List.any_append];simp
   simp(disch:=omega)only[go_sem]
   refine QT (fun c=>?_) (fun c=>?_)
   ·cases hb:(List.range k).any fun k:Nat=>mtE s N i k
    ·cases d1:decide ((gt s.p.e (i:Int)).t=(gt s.g.e (k:Int)).t)
     ·simp(disch:=omega)only[go_sem,edD,d1]
      exact⟨k+1,by rw[hs,hb];simp only[mtE,d1,Bool.true_and,Bool.false_and,Bool.false_or,Bool.and_false];simp,by omega,by omega⟩
     ·cases d2:decide ((gt s.g.e (k:Int)).f=gt N (gt s.p.e (i:Int)).f)<;>simp(disch:=omega)only[go_sem,edD,d1,d2]
      ·exact⟨k+1,by rw[hs,hb];simp only[mtE,d1,d2,Bool.true_and,Bool.false_and,Bool.false_or,Bool.and_false];simp,by omega,by omega⟩
      ·exact⟨k+1,by rw[hs,hb];simp only[mtE,d1,d2,Bool.true_and,Bool.false_and,Bool.false_or,Bool.and_false];simp,by omega,by omega⟩
    ·simp(disch:=omega)only[go_sem]
     exact⟨k+1,by rw[hs,hb];simp,by omega,by omega⟩
   ·obtain rfl:k=s.g.e.length:=by omega
    rw[hPi]
    cases d:P i
    ·simp(disch:=omega)only[go_sem]
     rw[hI,d];rfl
    ·rw[d,Bool.true_and] at hI
     simp(disch:=omega)only[go_sem]
     exact⟨i+1,by simp,⟨by omega,hI⟩,by omega⟩
 ·obtain rfl:i=s.p.e.length:=by omega
  rw[QD (by simp)] at hI
  simp(disch:=omega)only[go_sem]
  rw[hI];rfl
theorem Qtj{s:Sx}{N M:List Int}{F:List Mo}(c:¬5000<F.length):rE s N 0 M F=F++[⟨N,M⟩]:=by unfold rE;exact if_neg c
set_option maxHeartbeats 4000000 in
theorem Qtk{s:Sx}(h:SxOk s)(N:List Int)(hN:N.length=s.p.n.length):∀(n:Nat)(M:List Int)(F:List Mo),M.length+n=s.p.e.length→F.length≤5001→FC Tryz.prog 403 [sxB s F,.lst 1 (QR N),.lst 1 (QR M)] (.tup []) [(0,sxB s (rE s N n M F))]:=by
 intro n
 induction n with
 |zero=>
  intro M F h1 hF
  refine fo [[],[(4,none,[],true),(7,none,[4],false),(10,none,[4],false),(12,none,[4],false)],[]] ?_
  conv in fnC ..=>reduce
  have lp:=QX h.p
  by_cases c:5000<F.length
  ·rw[show rE s N 0 M F=F by unfold rE;exact if_pos c]
   simp(disch:=omega)only[go_sem,axS,sxB]
  ·rw[Qtj c]
   simp(disch:=omega)only[go_sem,axS,sxB]
 |succ n ih=>
  intro M F h1 hF
  refine fo [[],[(4,none,[],true),(7,none,[4],false),(10,none,[4],false),(12,none,[4],false)],[]] ?_
  conv in fnC ..=>reduce
  have lp:=QX h.p
  have lg:=QX h.g
  have l2:=h.ae
  by_cases c:5000<F.length
  ·rw[show rE s N (n+1) M F=F by unfold rE;exact if_pos c]
   simp(disch:=omega)only[go_sem,axS,sxB]
  ·rw[show rE s N (n+1) M F=(List.range s.g.e.length).foldl (fun F (k:Nat)=>if oqE s N M k=true then rE s N n (M++[(k:Int)]) F else F) F by rw[rE,if_neg c]]
   generalize hstep:(fun (F:List Mo) (k:Nat)=>if oqE s N M k=true then rE s N n (M++[(k:Int)]) F else F)=step
   have hlen:∀i,((List.range i).foldl step F).length≤5001:=fun i=>Qcp (P:=fun F=>F.length≤5001) (fun F k hF=>by rw[←hstep];simp only;split;exact Qgr s N n _ F hF;exact hF) _ _ hF
   have hsucc:∀i:Nat,(List.range (i+1)).foldl step F=if oqE s N M i=true then rE s N n (M++[(i:Int)]) ((List.range i).foldl step F) else (List.range i).foldl step F:=fun i=>by rw[List.range_succ,List.foldl_append,←hstep];rfl
   generalize hacc:(fun i:Nat=>(List.range i).foldl step F)=acc
   have hacc':∀i,(List.range i).foldl step F=acc i:=fun i=>by rw[←hacc]
   have hacc0:acc 0=F:=by rw[←hacc];rfl
   simp only[hacc'] at hlen hsucc ⊢
   clear hstep hacc hacc'
   have bb:=ZF h.p (i:=M.length) (by omega)
   simp(disch:=omega)only[go_sem,axS,sxB,edD]
   refine Q8 8 s.g.e.length (fun _=>[]) (fun i=>[(0,.arr 2 (pts (acc i))),(1,.box [.lst 4 (Y0 s.t.n),.lst 7 (Y1 s.t.e),.lst 1 (QR s.p.n),.lst 3 (eds s.p.e),.lst 1 (QR s.g.n),.lst 3 (eds s.g.e),.lst 1 (QR s.a.n),.lst 1 (QR s.a.e),.bool s.j,.int .i64 5000,.sl 0 0 (acc i).length])]) (fun _=>True) (by simp(disch:=omega)only[go_sem,hacc0]) trivial fun k hk _=>?_
   have hl:=hlen k
   have hs:=hsucc k
   have ru:=QkX s (acc k) M (by omega) k
   have rr:=fun hq=>ih (M++[(k:Int)]) (acc k) (by simp;omega) hq
   simp only[sxR,sxB] at ru rr
   simp(disch:=omega)only[go_sem]
   refine QT (fun c=>?_) (fun c=>?_)
   ·by_cases hw:0≤gt s.a.e (M.length:Int)∧gt s.a.e (M.length:Int)≠k
    ·obtain⟨w1,w2⟩:=hw
     have ho:¬oqE s N M k=true:=by simp [oqE,skB,w1,w2]
     rw[if_neg ho] at hs
     simp(disch:=omega)only[go_sem,axS,edD]
     exact⟨k+1,by rw[hs];simp,by omega,by omega⟩
    ·have hk0:skB s.a.e M.length k=false:=by
      unfold skB
      by_cases c:0≤gt s.a.e (M.length:Int)
      ·simp [Classical.byContradiction fun e=>hw ⟨c,e⟩]
      ·simp [c]
     rcases (show gt s.a.e (M.length:Int)<0∨gt s.a.e (M.length:Int)=k by omega) with hw|hw<;>(
      simp(disch:=omega)only[go_sem,axS,edD]
      refine QQ ru ?_
      cases hu:(s.j&&decide ((k:Int)∈M))
      ·cases d1:decide ((gt s.p.e (M.length:Int)).t=(gt s.g.e (k:Int)).t)
       ·have ho:¬oqE s N M k=true:=by simp only[oqE,mtE,d1,Bool.false_and,Bool.and_false];simp
        rw[if_neg ho] at hs
        simp(disch:=omega)only[go_sem,d1]
        exact⟨k+1,by rw[hs];simp,by omega,by omega⟩
       ·cases d2:decide ((gt s.g.e (k:Int)).f=gt N (gt s.p.e (M.length:Int)).f)
        ·have ho:¬oqE s N M k=true:=by simp only[oqE,mtE,d2,Bool.false_and,Bool.and_false];simp
         rw[if_neg ho] at hs
         simp(disch:=omega)only[go_sem,d1,d2]
         exact⟨k+1,by rw[hs];simp,by omega,by omega⟩
        ·cases d3:decide ((gt s.g.e (k:Int)).o=gt N (gt s.p.e (M.length:Int)).o)
         ·have ho:¬oqE s N M k=true:=by simp only[oqE,mtE,d3,Bool.false_and,Bool.and_false];simp
          rw[if_neg ho] at hs
          simp(disch:=omega)only[go_sem,d1,d2,d3]
          exact⟨k+1,by rw[hs];simp,by omega,by omega⟩
         ·have ho:oqE s N M k=true:=by simp only[oqE,mtE,d1,d2,d3,hu,hk0];rfl
          rw[if_pos ho] at hs
          rw[←hs] at rr
          simp(disch:=omega)only[go_sem,d1,d2,d3]
          refine QQ (rr hl) ?_
          simp(disch:=omega)only[go_sem]
          exact⟨k+1,by simp,by omega,by omega⟩
      ·have ho:¬oqE s N M k=true:=by simp only[oqE,hu];simp
       rw[if_neg ho] at hs
       simp(disch:=omega)only[go_sem]
       exact⟨k+1,by rw[hs];simp,by omega,by omega⟩)
   ·obtain rfl:k=s.g.e.length:=by omega
    simp(disch:=omega)only[go_sem]
set_option maxHeartbeats 4000000 in
theorem Qtl{s:Sx}(h:SxOk s):∀(n:Nat)(N:List Int)(F:List Mo),N.length+n=s.p.n.length→F.length≤5001→FC Tryz.prog 351 [sxB s F,.lst 1 (QR N)] (.tup []) [(0,sxB s (rN s n N F))]:=by
 intro n
 induction n with
 |zero=>
  intro N F h1 hF
  refine fo [[],[]] ?_
  conv in fnC ..=>reduce
  have lp:=QX h.p
  have rf:=QkY h F N (by omega)
  have re:=Qtk h N (by simpa using h1) s.p.e.length [] F (by simp) hF
  simp only[sxR,sxB] at rf re
  by_cases c:5000<F.length
  ·rw[show rN s 0 N F=F by rw[rN,if_pos (.inl c)]]
   simp(disch:=omega)only[go_sem,axS,sxB]
  ·cases hf:Qan s N
   ·rw[show rN s 0 N F=F by rw[rN,if_pos (.inr hf)]]
    rw[hf] at rf
    simp(disch:=omega)only[go_sem,axS,sxB]
    refine QQ rf ?_
    simp(disch:=omega)only[go_sem]
   ·rw[show rN s 0 N F=rE s N s.p.e.length [] F by rw[rN,if_neg (by simp [hf];omega)]]
    rw[hf] at rf
    simp(disch:=omega)only[go_sem,axS,sxB]
    refine QQ rf ?_
    simp(disch:=omega)only[go_sem,axS]
    refine QQ (FC.nils re (by simp [Qb1,QR])) ?_
    simp(disch:=omega)only[go_sem]
 |succ n ih=>
  intro N F h1 hF
  refine fo [[],[]] ?_
  conv in fnC ..=>reduce
  have lp:=QX h.p
  have lg:=QX h.g
  have l2:=h.an
  have rf:=QkY h F N (by omega)
  simp only[sxR] at rf
  by_cases c:5000<F.length
  ·rw[show rN s (n+1) N F=F by rw[rN,if_pos (.inl c)]]
   simp(disch:=omega)only[go_sem,axS,sxB]
  ·cases hf:Qan s N
   ·rw[show rN s (n+1) N F=F by rw[rN,if_pos (.inr hf)]]
    rw[hf] at rf
    simp(disch:=omega)only[go_sem,axS,sxB]
    refine QQ rf ?_
    simp(disch:=omega)only[go_sem]
   ·rw[show rN s (n+1) N F=(List.range s.g.n.length).foldl (fun F (k:Nat)=>if oqN s N k=true then rN s n (N++[(k:Int)]) F else F) F by rw[rN,if_neg (by simp [hf];omega)]]
    rw[hf] at rf
    generalize hstep:(fun (F:List Mo) (k:Nat)=>if oqN s N k=true then rN s n (N++[(k:Int)]) F else F)=step
    have hlen:∀i,((List.range i).foldl step F).length≤5001:=fun i=>Qcp (P:=fun F=>F.length≤5001) (fun F k hF=>by rw[←hstep];simp only;split;exact JK s n _ F hF;exact hF) _ _ hF
    have hsucc:∀i:Nat,(List.range (i+1)).foldl step F=if oqN s N i=true then rN s n (N++[(i:Int)]) ((List.range i).foldl step F) else (List.range i).foldl step F:=fun i=>by rw[List.range_succ,List.foldl_append,←hstep];rfl
    generalize hacc:(fun i:Nat=>(List.range i).foldl step F)=acc
    have hacc':∀i,(List.range i).foldl step F=acc i:=fun i=>by rw[←hacc]
    have hacc0:acc 0=F:=by rw[←hacc];rfl
    simp only[hacc'] at hlen hsucc ⊢
    clear hstep hacc hacc'
    simp(disch:=omega)only[go_sem,axS,sxB]
    refine QQ rf ?_
    simp(disch:=omega)only[go_sem,axS]
    refine Q8 5 s.g.n.length (fun _=>[]) (fun i=>[(0,.arr 2 (pts (acc i))),(1,.box [.lst 4 (Y0 s.t.n),.lst 7 (Y1 s.t.e),.lst 1 (QR s.p.n),.lst 3 (eds s.p.e),.lst 1 (QR s.g.n),.lst 3 (eds s.g.e),.lst 1 (QR s.a.n),.lst 1 (QR s.a.e),.bool s.j,.int .i64 5000,.sl 0 0 (acc i).length])]) (fun _=>True) (by simp(disch:=omega)only[go_sem,hacc0]) trivial fun k hk _=>?_
    have hl:=hlen k
    have hs:=hsucc k
    have ru:=QkX s (acc k) N (by omega) k
    have rr:=fun hq=>ih (N++[(k:Int)]) (acc k) (by simp;omega) hq
    simp only[sxR,sxB] at ru rr
    simp(disch:=omega)only[go_sem]
    refine QT (fun c=>?_) (fun c=>?_)
    ·have b1:=h.tp.nat (i:=N.length) (by omega)
     have b2:=h.tg.nat (i:=k) (by omega)
     have rb:=Qcb h.t (gt s.g.n (k:Int)) b2.2 (gt s.p.n (N.length:Int)) (by omega) b1.1
     by_cases hw:0≤gt s.a.n (N.length:Int)∧gt s.a.n (N.length:Int)≠k
     ·obtain⟨w1,w2⟩:=hw
      have ho:¬oqN s N k=true:=by simp [oqN,skB,w1,w2]
      rw[if_neg ho] at hs
      simp(disch:=omega)only[go_sem,axS]
      exact⟨k+1,by rw[hs];simp,by omega,by omega⟩
     ·have hk0:skB s.a.n N.length k=false:=by
       unfold skB
       by_cases c:0≤gt s.a.n (N.length:Int)
       ·simp [Classical.byContradiction fun e=>hw ⟨c,e⟩]
       ·simp [c]
      rcases (show gt s.a.n (N.length:Int)<0∨gt s.a.n (N.length:Int)=k by omega) with hw|hw<;>(
       simp(disch:=omega)only[go_sem,axS]
       refine QQ ru ?_
       cases hu:(s.j&&decide ((k:Int)∈N))
       ·simp(disch:=omega)only[go_sem]
        refine QQ rb ?_
        cases d1:Xh s.t (gt s.g.n (k:Int)) (gt s.p.n (N.length:Int))
        ·have ho:¬oqN s N k=true:=by simp only[oqN,d1,Bool.and_false];simp
         rw[if_neg ho] at hs
         simp(disch:=omega)only[go_sem]
         exact⟨k+1,by rw[hs];simp,by omega,by omega⟩
        ·have ho:oqN s N k=true:=by simp only[oqN,d1,hu,hk0];rfl
         rw[if_pos ho] at hs
         rw[←hs] at rr
         simp(disch:=omega)only[go_sem]
         refine QQ (rr hl) ?_
         simp(disch:=omega)only[go_sem]
         exact⟨k+1,by simp,by omega,by omega⟩
       ·have ho:¬oqN s N k=true:=by simp only[oqN,hu];simp
        rw[if_neg ho] at hs
        simp(disch:=omega)only[go_sem]
        exact⟨k+1,by rw[hs];simp,by omega,by omega⟩)
    ·obtain rfl:k=s.g.n.length:=by omega
     simp(disch:=omega)only[go_sem]
def Xu(s:Sx):List Mo:=rN s s.p.n.length [] []
theorem QkZ{s:Sx}(h:SxOk s):FT 288 [tyD s.t,gD s.p,gD s.g,mD s.a,.bool s.j,.int .i64 5000] (.arr 2 (pts (Xu s))):=by
 refine fo [] ?_
 conv in fnC ..=>reduce
 have r:=Qtl h s.p.n.length [] [] (by simp) (by simp)
 have hl:(Xu s).length≤5001:=JK s _ _ _ (by simp)
 unfold Xu at*
 simp only[sxB] at r
 simp(disch:=omega)only[go_sem,tyD,gD,mD]
 refine QQ (FC.nils r (by simp [Qb1,QR,pts])) ?_
 simp(disch:=omega)only[go_sem]
def opM(p:G):Mo:=⟨List.replicate p.n.length (-1),List.replicate p.e.length (-1)⟩
theorem Qk0{i n:Nat}(h:i<n):(List.replicate i (-1:Int)++List.replicate (n-i) 0).set i (-1)=List.replicate (i+1) (-1)++List.replicate (n-(i+1)) 0:=by
 obtain⟨m,rfl⟩:∃m,n=i+1+m:=⟨n-(i+1),by omega⟩
 rw[show i+1+m-i=m+1 by omega,show i+1+m-(i+1)=m by omega,List.set_append_right (h:=by simp)]
 rw[List.length_replicate,Nat.sub_self,List.replicate_succ (n:=m),List.set_cons_zero,List.replicate_succ' (n:=i),Qx]
 rfl
theorem Qtm{p:G}(hv:QZ p=0):FT 289 [gD p] (mA (opM p)):=by
 refine fo [[(5,(some 16),[],false)]] ?_
 conv in fnC ..=>reduce
 have lp:=QX hv
 simp(disch:=omega)only[go_sem,gD]
 refine Q8 4 p.n.length (fun _=>[]) (fun i=>[(3,.arr 1 (QR (List.replicate i (-1)++List.replicate (p.n.length-i) 0)))]) (fun _=>True) (by simp(disch:=omega)only[go_sem];simp) trivial fun i hi _=>?_
 have hl:(List.replicate i (-1:Int)++List.replicate (p.n.length-i) 0).length=p.n.length:=by simp;omega
 simp(disch:=omega)only[go_sem,hl]
 refine QT (fun c=>?_) (fun c=>?_)
 ·simp(disch:=omega)only[go_sem,axS,hl]
  exact⟨i+1,by rw[Qk0 (by omega)];simp,by omega,by omega⟩
 ·obtain rfl:i=p.n.length:=by omega
  rw[Nat.sub_self,List.replicate_zero,List.append_nil]
  simp(disch:=omega)only[go_sem]
  refine Q8 5 p.e.length (fun _=>[]) (fun i=>[(4,.arr 1 (QR (List.replicate i (-1)++List.replicate (p.e.length-i) 0)))]) (fun _=>True) (by simp(disch:=omega)only[go_sem];simp) trivial fun i hi _=>?_
  have hl:(List.replicate i (-1:Int)++List.replicate (p.e.length-i) 0).length=p.e.length:=by simp;omega
  simp(disch:=omega)only[go_sem,hl]
  refine QT (fun c=>?_) (fun c=>?_)
  ·simp(disch:=omega)only[go_sem,axS,hl]
   exact⟨i+1,by rw[Qk0 (by omega)];simp,by omega,by omega⟩
  ·obtain rfl:i=p.e.length:=by omega
   rw[Nat.sub_self,List.replicate_zero,List.append_nil]
   simp(disch:=omega)only[go_sem,mA,opM]
theorem Qtn{s:Sx}(h:SxOk s)(ho:s.a=opM s.p):FT 204 [tyD s.t,gD s.p,gD s.g,.bool s.j] (if 5000<(Xu s).length then .tup [.arr 2 [],.int .i64 3] else .tup [.arr 2 (pts (Xu s)),.int .i64 0]):=by
 refine fo [[(0,none,[],true),(1,none,[],true),(2,none,[],true),(4,none,[0,1,2],false)]] ?_
 conv in fnC ..=>reduce
 have r:=QkZ h
 have rg:=QdP h.t h.p h.g h.tp h.tg
 have rp:=Qtm h.p
 have hl:(Xu s).length≤5001:=JK s _ _ _ (by simp)
 rw[←ho] at rp
 by_cases c:5000<(Xu s).length
 ·rw[if_pos c]
  simp(disch:=omega)only[go_sem,tyD,gD]
  refine QQ rg ?_
  simp(disch:=omega)only[go_sem,axS]
  refine QQ rp ?_
  simp(disch:=omega)only[go_sem,mA]
  refine QQ r ?_
  cases hfl:(pts (Xu s)).all D.flatE<;>simp(disch:=omega)only[go_sem,axS,hfl]
 ·rw[if_neg c]
  simp(disch:=omega)only[go_sem,tyD,gD]
  refine QQ rg ?_
  simp(disch:=omega)only[go_sem,axS]
  refine QQ rp ?_
  simp(disch:=omega)only[go_sem,mA]
  refine QQ r ?_
  cases hfl:(pts (Xu s)).all D.flatE<;>simp(disch:=omega)only[go_sem,axS,hfl]
theorem Qto{s:Sx}(h:SxOk s):FT 406 [tyD s.t,gD s.p,gD s.g,mD s.a,.bool s.j] (.tup [.arr 2 (if 5000<(Xu s).length then [] else pts (Xu s)),.int .i64 (if 5000<(Xu s).length then 3 else 0)]):=by
 refine fo [] ?_
 conv in fnC ..=>reduce
 have r:=QkZ h
 have rg:=QdP h.t h.p h.g h.tp h.tg
 have lp:=QX h.p
 have l1:=h.an
 have l2:=h.ae
 have r1:=Qkr s.a.n (by omega) s.g.n.length fun i hi=>h.bn _ (gt_mem (by omega) (by omega))
 have r2:=Qkr s.a.e (by omega) s.g.e.length fun i hi=>h.be _ (gt_mem (by omega) (by omega))
 rw[l1] at r1
 rw[l2] at r2
 have hl:(Xu s).length≤5001:=JK s _ _ _ (by simp)
 simp(disch:=omega)only[go_sem,axS,tyD,gD,mD]
 refine QQ rg ?_
 simp(disch:=omega)only[go_sem,axS]
 refine QQ r1 ?_
 simp(disch:=omega)only[go_sem,axS]
 refine QQ r2 ?_
 simp(disch:=omega)only[go_sem,axS]
 refine QQ r ?_
 by_cases c:5000<(Xu s).length
 ·rw[if_pos c,if_pos c]
  cases hfl:(pts (Xu s)).all D.flatE<;>simp(disch:=omega)only[go_sem,axS,hfl]
 ·rw[if_neg c,if_neg c]
  cases hfl:(pts (Xu s)).all D.flatE<;>simp(disch:=omega)only[go_sem,axS,hfl]
theorem Qk1{s:Sx}:∀x∈Xu s,Fnd s x:=QkR _ _ _ ⟨by simp,by simp,by simp,by simp⟩ (by simp) (by simp)
theorem Qtp{s:Sx}(h:SxOk s)(hr:Xu s=[]):NoX s:=fun N M h1 h2 h3 h4=>
 QkW h.p _ _ _ (by simp) hr ⟨N,M⟩ ⟨h1,h2,h3,h4⟩ rfl
end Go.Am
