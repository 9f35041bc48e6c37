/- Contracts and what they rest on: Cf. -/
import Derived.Test.YtgllpjliaepbdaaGreatCe
import Derived.Test.YtgllpjliaepbdaaGreatCa
import Derived.Test.YtgllpjliaepbdaaGreatCb
import Derived.Test.YtgllpjliaepbdaaGreatCc
set_option linter.unusedVariables false
set_option linter.unusedSimpArgs false
set_option linter.unnecessarySimpa false
open Go Go.Proofs
namespace Go.Am
set_option maxRecDepth 100000
attribute [local irreducible] W
section
variable {t:Ty}
set_option maxHeartbeats 4000000 in
theorem Qll(h:TyOk t):FT 58 [tyD t] (.bool true):=by
 have ln:=h.ln
 have le:=h.le
 refine fo [] ?_
 conv in fnC ..=>reduce
 simp(disch:=omega)only[go_sem,ayS,tyD]
 refine Yw (fun a:Nat×Nat=>[(3,.int .i64 a.2),(4,.int .i64 a.1)]) (fun _=>[]) (fun a=>a.1≤t.n.length∧a.2≤a.1) (fun a=>t.n.length-a.1) (0,0) (by simp(disch:=omega)only[go_sem];rfl) (by simp) ?_
 rintro⟨i,n⟩ ⟨hi,hn⟩
 simp only at hi hn
 simp(disch:=omega)only[go_sem]
 refine QT (fun c=>?_) (fun c=>?_)
 ·have hN:=h.n i (by omega)
  have l1:=hN.len
  have nl:(gt t.n (i:Int)).nm.size=1:=by rw[hN.nm];rfl
  have ha:=hN.ats
  simp(disch:=omega)only[go_sem,ayS,ntD,nl]
  refine Xb 5 (gt t.n (i:Int)).ats.length 0 rfl (by omega) fun k _ hk=>?_
  simp(disch:=omega)only[go_sem,ntD]
  refine QT (fun c=>?_) (fun c=>?_)
  ·have hA:=ha _ (gt_mem (l:=(gt t.n (i:Int)).ats) (j:=(k:Int)) (by omega) (by omega))
   have al:(gt (gt t.n (i:Int)).ats (k:Int)).nm.size=1:=by rw[hA.nm];rfl
   have hns:(gt (gt t.n (i:Int)).ats (k:Int)).ns.length≤2∧∀x∈(gt (gt t.n (i:Int)).ats (k:Int)).ns,x.size≤3:=by
    rcases hA.ns with⟨e,_⟩|⟨e,_⟩<;>rw[e]
    ·exact⟨by simp,fun x hx=>absurd hx List.not_mem_nil⟩
    ·refine⟨by simp,fun x hx=>?_⟩
     simp only[Qh,List.not_mem_nil,or_false] at hx
     rcases hx with rfl|rfl<;>decide
   simp(disch:=omega)only[go_sem,ayS,ntD,atD,al]
   generalize (gt (gt t.n (i:Int)).ats (k:Int)).ns=N at*
   refine Xb 7 N.length 0 rfl (by omega) fun j _ hj=>?_
   simp(disch:=omega)only[go_sem]
   refine QT (fun c=>?_) (fun c=>?_)
   ·have:=hns.2 _ (gt_mem (l:=N) (j:=(j:Int)) (by omega) (by omega))
    simp(disch:=omega)only[go_sem,ayS]
    exact⟨j+1,by simp,by omega,by omega⟩
   ·simp(disch:=omega)only[go_sem,ayS]
    exact⟨k+1,by simp,by omega,by omega⟩
  ·simp(disch:=omega)only[go_sem,ayS]
   exact⟨(i+1,n+(gt t.n (i:Int)).ats.length),by simp,by simp only;omega,by simp only;omega⟩
 ·simp(disch:=omega)only[go_sem,ayS]
  refine Xb 8 t.e.length 0 rfl (by omega) fun k _ hk=>?_
  simp(disch:=omega)only[go_sem]
  refine QT (fun c=>?_) (fun c=>?_)
  ·have hE:=h.e k (by omega)
   have nl:(gt t.e (k:Int)).nm.size=1:=by rw[hE.nm];rfl
   simp(disch:=omega)only[go_sem,ayS,etD,nl]
   exact⟨k+1,by simp,by omega,by omega⟩
  ·simp(disch:=omega)only[go_sem,ayS]
theorem Qd4{g:G}(h:QZ g=0):few g=true:=by
 have:=QX h
 unfold few
 rw[Qe (by omega),Qe (by omega)];rfl
theorem Qlm(h:TyOk t){x:Hs}(hx:HsOk t x):FT 122 [hsD x] (.bool true):=by
 have l:=QX hx.g
 have lv:=hx.ln
 have r:=QdB x.g
 rw[Qd4 hx.g] at r
 simp only[gD] at r
 refine fo [] ?_
 conv in fnC ..=>reduce
 simp(disch:=omega)only[go_sem,ayS,hsD,hsL]
 refine QQ r ?_
 simp(disch:=omega)only[go_sem,ayS]
 refine Xb 3 x.v.length 0 rfl (by omega) fun i _ hi=>?_
 simp(disch:=omega)only[go_sem]
 refine QT (fun c=>?_) (fun c=>?_)
 ·have h1:=hx.vl i (by omega)
  have h2:=X7 h (hx.ty.n _ (gt_mem (l:=x.g.n) (j:=(i:Int)) (by omega) (by omega))).2
  simp(disch:=omega)only[go_sem,ayS]
  exact⟨i+1,by simp,by omega,by omega⟩
 ·simp(disch:=omega)only[go_sem,ayS]
theorem QaS{p:Pa}(hg:QZ p.g=0)(hs:p.s.length≤10)(ht:p.t.length≤10):FT 118 [paD p] (.bool true):=by
 have r:=QdB p.g
 rw[Qd4 hg] at r
 simp only[gD] at r
 refine fo [] ?_
 conv in fnC ..=>reduce
 simp(disch:=omega)only[go_sem,ayS,paD,paL]
 refine QQ r ?_
 simp(disch:=omega)only[go_sem,ayS]
theorem Qln:QZ g0=0:=by decide
theorem Qlo{n:Int}(hn:0≤n∧n≤100):FT 196 [.agg ttL,.int .i64 n] (.int .i64 (n-1)):=by
 have r1:=QaS (p:=⟨g0,[],0,[]⟩) Qln (by simp) (by simp)
 have r2:=QdN m0 140 (by simp [m0,QS]) (by simp [m0,QS])
 rw[show JD m0 140=true from rfl] at r2
 simp only[paD,paL,mD,XI,Ye,List.map_nil] at r1 r2
 refine fo [] ?_
 conv in fnC ..=>reduce
 simp(disch:=omega)only[go_sem,ayS,ttL,cyL]
 refine QQ r1 ?_
 simp(disch:=omega)only[go_sem,ayS]
 refine QQ r2 ?_
 simp(disch:=omega)only[go_sem,ayS]
 refine Xb 5 0 0 rfl (by omega) fun i _ hi=>?_
 obtain rfl:i=0:=by omega
 simp(disch:=omega)only[go_sem,ayS]
theorem Qur{m:Mo}{q:G}{v:Int}(hq:QZ q=0)(hm:m.n.length+m.e.length≤140){n:Int}(hn:1≤n∧n≤100):FT 196 [.agg (XB m q v),.int .i64 n] (.int .i64 (n-2)):=by
 have r1:=QaS (p:=paQ q v) hq (by simp [paQ]) (by simp [paQ])
 have r2:=QdN m 140 (by unfold QS;omega) (by unfold QS;omega)
 rw[show JD m 140=true from Qe (by omega)] at r2
 have r3:=Qlo (n:=n-1) (by omega)
 simp only[paD,paL,paQ,mD,XI,Ye,List.map_nil] at r1 r2
 refine fo [] ?_
 conv in fnC ..=>reduce
 simp(disch:=omega)only[go_sem,ayS,XB,cyL,ttL]
 refine QQ r1 ?_
 simp(disch:=omega)only[go_sem,ayS]
 refine QQ r2 ?_
 simp(disch:=omega)only[go_sem,ayS]
 refine Q8 5 1 (fun i=>[(1,.int .i64 (if i=0 then n-1 else n-2))]) (fun _=>[]) (fun _=>True) (by simp(disch:=omega)only[go_sem]) trivial fun i hi _=>?_
 obtain rfl|rfl:i=0∨i=1:=by omega
 ·simp(disch:=omega)only[go_sem,ayS]
  refine QQ r3 ?_
  simp(disch:=omega)only[go_sem,ayS]
  exact⟨1,by simp;try omega,by omega,by omega⟩
 ·simp(disch:=omega)only[go_sem,ayS]
  try (simp;omega)
theorem Qus{m:Mo}{q:G}{v:Int}(hq:QZ q=0)(hm:m.n.length+m.e.length≤140){n:Int}(hn:2≤n∧n≤100):FT 196 [fbD (.no m q v),.int .i64 n] (.int .i64 (n-3)):=by
 have r1:=QaS (p:=⟨g0,[],0,[]⟩) Qln (by simp) (by simp)
 have r2:=QdN m0 140 (by simp [m0,QS]) (by simp [m0,QS])
 rw[show JD m0 140=true from rfl] at r2
 simp only[paD,paL,mD,XI,Ye,List.map_nil] at r1 r2
 have r3:=Qur (v:=v) hq hm (n:=n-1) (by omega)
 refine fo [] ?_
 conv in fnC ..=>reduce
 simp(disch:=omega)only[go_sem,ayS,fbD,fbL,cyL,XB,ttL]
 refine QQ r1 ?_
 simp(disch:=omega)only[go_sem,ayS]
 refine QQ r2 ?_
 simp(disch:=omega)only[go_sem,ayS]
 refine Q8 5 1 (fun i=>[(1,.int .i64 (if i=0 then n-1 else n-3))]) (fun _=>[]) (fun _=>True) (by simp(disch:=omega)only[go_sem]) trivial fun i hi _=>?_
 obtain rfl|rfl:i=0∨i=1:=by omega
 ·simp(disch:=omega)only[go_sem,ayS]
  refine QQ r3 ?_
  simp(disch:=omega)only[go_sem,ayS]
  exact⟨1,by simp;try omega,by omega,by omega⟩
 ·simp(disch:=omega)only[go_sem,ayS]
  try (simp;omega)
def FbS(p:G):Fb→Prop
 | .tt=>True
 | .no m q _=>QZ q=0∧m.n.length+m.e.length≤140∧q.n.length+q.e.length≤6∧(p.n.length≤q.n.length∧q.n.length≤p.n.length+1)∧p.e.length≤q.e.length∧q.e.length≤p.e.length+1
theorem Qlp{p:G}{c:Fb}(hc:FbS p c):FT 121 [fbD c] (.bool true):=by
 cases c with
 |tt=>
  have r:=Qlo (n:=40) (by omega)
  refine fo [] ?_
  conv in fnC ..=>reduce
  simp(disch:=omega)only[go_sem,ayS,fbD,fbL,ttL,cyL]
  refine QQ r ?_
  simp(disch:=omega)only[go_sem,ayS]
 |no m q v=>
  have r:=Qus (v:=v) hc.1 hc.2.1 (n:=40) (by omega)
  refine fo [] ?_
  conv in fnC ..=>reduce
  simp(disch:=omega)only[go_sem,ayS,fbD,fbL,cyL,XB,ttL]
  refine QQ r ?_
  simp(disch:=omega)only[go_sem,ayS]
theorem Qlq:FT 125 [.agg ttL] (.bool true):=Qad (m:=100) (by kernel_rfl)
theorem Qut{m:Mo}{q:G}{v:Int}(h6:q.n.length+q.e.length≤6):FT 125 [.agg (XB m q v)] (.bool true):=by
 have r:=Qlq
 refine fo [] ?_
 conv in fnC ..=>reduce
 simp(disch:=omega)only[go_sem,ayS,XB,cyL,ttL]
 refine Xb 3 1 0 rfl (by omega) fun i _ hi=>?_
 obtain rfl|rfl:i=0∨i=1:=by omega
 ·simp(disch:=omega)only[go_sem,ayS]
  refine QQ r ?_
  simp(disch:=omega)only[go_sem,ayS]
  exact⟨1,by simp,by omega,by omega⟩
 ·simp(disch:=omega)only[go_sem,ayS]
theorem Quu{p:G}{c:Fb}(hc:FbS p c):FT 125 [fbD c] (.bool true):=by
 cases c with
 |tt=>exact Qlq
 |no m q v=>
  have r:=Qut (m:=m) (v:=v) hc.2.2.1
  refine fo [] ?_
  conv in fnC ..=>reduce
  simp(disch:=omega)only[go_sem,ayS,fbD,fbL,cyL,XB,ttL]
  refine Xb 3 1 0 rfl (by omega) fun i _ hi=>?_
  obtain rfl|rfl:i=0∨i=1:=by omega
  ·simp(disch:=omega)only[go_sem,ayS]
   refine QQ r ?_
   simp(disch:=omega)only[go_sem,ayS]
   exact⟨1,by simp,by omega,by omega⟩
  ·simp(disch:=omega)only[go_sem,ayS,g0,List.length_nil]
theorem Qlr(p:Pa)(h1:p.g.n.length≤1000)(h2:p.g.e.length≤1000):FT 126 [paD p,.agg ttL,.int .i64 14,.int .i64 18] (.bool true):=by
 refine fo [[]] ?_
 conv in fnC ..=>reduce
 simp(disch:=omega)only[go_sem,ayS,paD,paL,ttL,cyL]
 refine Yw (fun _:Unit=>[]) (fun _=>[]) (fun _=>True) (fun _=>0) () (by simp(disch:=omega)only[go_sem]) trivial fun _ _=>?_
 simp(disch:=omega)only[go_sem,ayS]
 refine Yw (fun _:Unit=>[]) (fun _=>[]) (fun _=>True) (fun _=>0) () (by simp(disch:=omega)only[go_sem]) trivial fun _ _=>?_
 simp(disch:=omega)only[go_sem,ayS]
 refine Xb 13 0 0 rfl (by omega) fun i _ hi=>?_
 obtain rfl:i=0:=by omega
 simp(disch:=omega)only[go_sem,ayS]
theorem Quv(p:Pa){m:Mo}{q:G}{v:Int}(h1:p.g.n.length≤100)(h2:p.g.e.length≤100)(hn:p.g.n.length≤q.n.length∧q.n.length≤p.g.n.length+1)(he:p.g.e.length≤q.e.length∧q.e.length≤p.g.e.length+1):FT 126 [paD p,.agg (XB m q v),.int .i64 14,.int .i64 18] (.bool true):=by
 have r:=Qlr (paQ q v) (by simp only[paQ];omega) (by simp only[paQ];omega)
 simp only[paD,paL,paQ,XI,Ye,List.map_nil,ttL,cyL] at r
 refine fo [[]] ?_
 conv in fnC ..=>reduce
 simp(disch:=omega)only[go_sem,ayS,paD,paL,XB,cyL,ttL]
 refine Yw (fun a:Nat×Int=>[(10,.int .i64 a.2),(11,.int .i64 a.1)]) (fun _=>[]) (fun a=>(a.1=p.g.n.length∧a.2=1)∨(a.1=p.g.n.length+1∧a.2=14)) (fun a=>p.g.n.length+1-a.1) (p.g.n.length,1) (by simp(disch:=omega)only[go_sem];try rfl) (by simp) ?_
 rintro⟨i,w⟩ hI
 simp only at hI
 have hw:1≤w∧w≤14:=by omega
 simp(disch:=omega)only[go_sem]
 refine QT (fun c=>?_) (fun c=>?_)
 ·obtain⟨rfl,rfl⟩:i=p.g.n.length∧w=1:=by omega
  simp(disch:=omega)only[go_sem,ayS]
  exact⟨(p.g.n.length+1,14),by simp,by simp,by simp⟩
 ·clear hI
  simp(disch:=omega)only[go_sem,ayS]
  refine Yw (fun a:Nat×Int=>[(10,.int .i64 a.2),(12,.int .i64 a.1)]) (fun _=>[]) (fun a=>(a.1=p.g.e.length∧a.2=w)∨(a.1=p.g.e.length+1∧a.2=w*18)) (fun a=>p.g.e.length+1-a.1) (p.g.e.length,w) (by simp(disch:=omega)only[go_sem];try rfl) (by simp) ?_
  rintro⟨j,u⟩ hJ
  simp only at hJ
  have hu:1≤u∧u≤252:=by omega
  simp(disch:=omega)only[go_sem]
  refine QT (fun c=>?_) (fun c=>?_)
  ·obtain⟨rfl,rfl⟩:j=p.g.e.length∧u=w:=by omega
   simp(disch:=omega)only[go_sem,ayS]
   exact⟨(p.g.e.length+1,u*18),by simp,by simp,by simp⟩
  ·clear hJ
   simp(disch:=omega)only[go_sem,ayS]
   refine Xb 13 1 0 rfl (by omega) fun k _ hk=>?_
   obtain rfl|rfl:k=0∨k=1:=by omega
   ·simp(disch:=omega)only[go_sem,ayS]
    refine QQ r ?_
    simp(disch:=omega)only[go_sem,ayS]
    exact⟨1,by simp,by omega,by omega⟩
   ·simp(disch:=omega)only[go_sem,ayS]
theorem Quw(p:Pa){c:Fb}(hc:FbS p.g c)(h1:p.g.n.length≤100)(h2:p.g.e.length≤100):FT 126 [paD p,fbD c,.int .i64 14,.int .i64 18] (.bool true):=by
 cases c with
 |tt=>exact Qlr p (by omega) (by omega)
 |no m q v=>
  have r:=Quv p (m:=m) (v:=v) h1 h2 hc.2.2.2.1 hc.2.2.2.2
  simp only[paD,paL] at r
  refine fo [[]] ?_
  conv in fnC ..=>reduce
  simp(disch:=omega)only[go_sem,ayS,paD,paL,fbD,fbL,cyL,XB,ttL]
  refine Yw (fun _:Unit=>[]) (fun _=>[]) (fun _=>True) (fun _=>0) () (by simp(disch:=omega)only[go_sem]) trivial fun _ _=>?_
  simp(disch:=omega)only[go_sem,ayS]
  refine Yw (fun _:Unit=>[]) (fun _=>[]) (fun _=>True) (fun _=>0) () (by simp(disch:=omega)only[go_sem]) trivial fun _ _=>?_
  simp(disch:=omega)only[go_sem,ayS]
  refine Xb 13 1 0 rfl (by omega) fun k _ hk=>?_
  obtain rfl|rfl:k=0∨k=1:=by omega
  ·simp(disch:=omega)only[go_sem,ayS]
   simp only[XB,cyL,ttL] at r
   refine QQ r ?_
   simp(disch:=omega)only[go_sem,ayS]
   exact⟨1,by simp,by omega,by omega⟩
  ·simp(disch:=omega)only[go_sem,ayS]
theorem Qux(h:TyOk t){p g:G}(hp:QZ p=0)(hg:QZ g=0)(tp:Typ t p)(tg:Typ t g)(h1:p.n.length+p.e.length≤6)(h2:g.n.length≤8)(h3:g.e.length≤12):FT 200 [tyD t,gD p,gD g] (.bool true):=by
 have r0:=Qll h
 have r1:=QdB p
 have r2:=QdB g
 rw[Qd4 hp] at r1
 rw[Qd4 hg] at r2
 have r3:=QdP h hp hg tp tg
 simp only[tyD,gD] at r0 r1 r2 r3
 refine fo [] ?_
 conv in fnC ..=>reduce
 simp(disch:=omega)only[go_sem,ayS,tyD,gD]
 refine QQ r0 ?_
 simp(disch:=omega)only[go_sem,ayS]
 refine QQ r1 ?_
 simp(disch:=omega)only[go_sem,ayS]
 refine QQ r2 ?_
 simp(disch:=omega)only[go_sem,ayS]
 refine QQ r3 ?_
 simp(disch:=omega)only[go_sem,ayS]
theorem Quy(h:TyOk t){p:Pa}(hp:PaOk t p){x:Hs}(hx:HsOk t x)(h1:p.g.n.length+p.g.e.length≤6)(h2:x.g.n.length≤8)(h3:x.g.e.length≤12):FT 124 [tyD t,paD p,hsD x] (.bool true):=by
 have r1:=QaS hp.g hp.sl hp.tl
 have r2:=Qlm h hx
 have r3:=Qux h hp.g hx.g hp.ty hx.ty h1 h2 h3
 simp only[tyD,paD,paL,hsD,hsL,gD] at r1 r2 r3
 refine fo [] ?_
 conv in fnC ..=>reduce
 simp(disch:=omega)only[go_sem,ayS,tyD,paD,paL,hsD,hsL]
 refine QQ r1 ?_
 simp(disch:=omega)only[go_sem,ayS]
 refine QQ r2 ?_
 simp(disch:=omega)only[go_sem,ayS]
 refine QQ r3 ?_
 simp(disch:=omega)only[go_sem,ayS]
theorem Quz(h:TyOk t){p:Pa}(hp:PaOk t p){c:Fb}(hc:FbOk t p c)(hs:FbS p.g c){x:Hs}(hx:HsOk t x)(h1:p.g.n.length+p.g.e.length≤6)(h2:x.g.n.length≤6)(h3:x.g.e.length≤8):FT 60 [tyD t,paD p,fbD c,hsD x] (.bool true):=by
 have l:=QX hp.g
 have r1:=Qlp hs
 have r2:=QaS hp.g hp.sl hp.tl
 have r3:=Qlm h hx
 have r4:=Qld h hp (c:=c) fun m q v e=>by subst e;exact⟨hc.1,hc.2.1,hc.2.2.1⟩
 have r5:=Quy h hp hx h1 (by omega) (by omega)
 have r6:=Quu hs
 have r7:=Quw p hs (by omega) (by omega)
 simp only[tyD,paD,paL,fbD,fbE,cyL,hsD,hsL] at r1 r2 r3 r4 r5 r6 r7 ⊢
 refine fo [] ?_
 conv in fnC ..=>reduce
 simp(disch:=omega)only[go_sem,ayS]
 refine QQ r1 ?_
 simp(disch:=omega)only[go_sem,ayS]
 refine QQ r2 ?_
 simp(disch:=omega)only[go_sem,ayS]
 refine QQ r3 ?_
 simp(disch:=omega)only[go_sem,ayS]
 refine QQ r4 ?_
 simp(disch:=omega)only[go_sem,ayS]
 refine QQ r5 ?_
 simp(disch:=omega)only[go_sem,ayS]
 refine QQ r6 ?_
 simp(disch:=omega)only[go_sem,ayS]
 refine QQ r7 ?_
 simp(disch:=omega)only[go_sem,ayS]
theorem QuA(h:TyOk t){r:Ru}(hr:RuOk t r)(hs:FbS r.l.g r.c):FT 59 [Q6 r] (.bool true):=by
 have la:=QX hr.l.g
 have lb:=QX hr.rg
 have ln:=hr.i.ok.ln
 have le:=hr.i.ok.le
 have lk:=hr.k.len
 have lp:=QX hr.i.ok.va
 have nl:r.nm.size=1:=by rw[hr.nm];rfl
 have r1:=QaS hr.l.g hr.l.sl hr.l.tl
 have r2:=QaS (p:=r.r) hr.rg hr.rl (by rw[hr.re];exact Nat.zero_le _)
 have r3:=QsA r.k 140 (by unfold QS;omega) (by unfold QS;omega)
 have r4:=QdN r.i 140 (by unfold QS;omega) (by unfold QS;omega)
 rw[show JD r.k 140=true from Qe (by omega)] at r3
 rw[show JD r.i 140=true from Qe (by omega)] at r4
 have r5:=Qlp hs
 simp only[Q6,fbD,fbE,cyL,ruL,paD,paL,mD,List.cons_append,List.nil_append] at r1 r2 r3 r4 r5 ⊢
 refine fo [] ?_
 conv in fnC ..=>reduce
 simp(disch:=omega)only[go_sem,ayS,nl]
 refine QQ r1 ?_
 simp(disch:=omega)only[go_sem,ayS]
 refine QQ r2 ?_
 simp(disch:=omega)only[go_sem,ayS]
 refine QQ r3 ?_
 simp(disch:=omega)only[go_sem,ayS]
 refine QQ r4 ?_
 simp(disch:=omega)only[go_sem,ayS]
 refine QQ r5 ?_
 simp(disch:=omega)only[go_sem,ayS]
theorem QuB(h:TyOk t){r:Ru}(hr:RuOk t r)(hs:FbS r.l.g r.c){x:Hs}(hx:HsOk t x)(h1:r.l.g.n.length+r.l.g.e.length≤6)(h2:x.g.n.length≤6)(h3:x.g.e.length≤8):FT 21 [tyD t,Q6 r,hsD x] (.bool true):=by
 have r1:=Qll h
 have r2:=QuA h hr hs
 have r3:=Quz h hr.l hr.c hs hx h1 h2 h3
 simp only[tyD,Q6,fbD,fbE,cyL,ruL,paD,paL,hsD,hsL,List.cons_append,List.nil_append] at r1 r2 r3 ⊢
 refine fo [] ?_
 conv in fnC ..=>reduce
 simp(disch:=omega)only[go_sem,ayS]
 refine QQ r1 ?_
 simp(disch:=omega)only[go_sem,ayS]
 refine QQ r2 ?_
 simp(disch:=omega)only[go_sem,ayS]
 refine QQ r3 ?_
 simp(disch:=omega)only[go_sem,ayS]
theorem QuC(t:Ty){n:Int}(h:IsT t n):FT 363 [.int .i64 n,.ref (tyD t).cells] (.bool false):=by
 refine fo [] ?_
 conv in fnC ..=>reduce
 have:=h.2
 simp(disch:=omega)only[go_sem,axS,tyD]
theorem QuD(t:Ty){x:E}(h:x.t<t.e.length):FT 364 [edD x,.ref (tyD t).cells] (.bool false):=by
 refine fo [] ?_
 conv in fnC ..=>reduce
 simp(disch:=omega)only[go_sem,axS,tyD,edD]
theorem QuE{g:G}(hg:QZ g=0)(hy:Typ t g):FT 309 [tyD t,gD g] (.bool true):=by
 have l:=QX hg
 have c1:=JG g.n (by unfold QS;omega) 363 [.ref (tyD t).cells] rfl (fun _=>false) fun x hx=>QuC t (hy.n x hx)
 have c2:=Qcc g.e (by unfold QS;omega) 364 [.ref (tyD t).cells] rfl (fun _=>false) fun x hx=>QuD t (hy.e x hx).2
 rw[List.any_eq_false.2 fun _ _=>by simp] at c1 c2
 refine fo [] ?_
 conv in fnC ..=>reduce
 simp(disch:=omega)only[go_sem,tyD,gD]
 refine QQ c1 ?_
 simp(disch:=omega)only[go_sem]
 refine QQ c2 ?_
 simp(disch:=omega)only[go_sem]
theorem QuF{x y:Slo}(h:¬(y.nd=x.nd∧y.ak=x.ak)):FT 366 [slD y,.ref (slD x).cells] (.bool false):=by
 refine fo [] ?_
 conv in fnC ..=>reduce
 by_cases e:y.nd=x.nd
 ·have e2:¬y.ak=x.ak:=fun d=>h ⟨e,d⟩
  simp(disch:=omega)only[go_sem,ayS,slD,e,e2]
 ·simp(disch:=omega)only[go_sem,ayS,slD,e]
theorem QuG{α:Type}[Inhabited α]{l:List α}{i k:Nat}(h:k<i)(hl:k<l.length):gt (l.take i) (k:Int)=gt l (k:Int):=by
 rw[QV (by simp;omega),QV hl,List.getElem_take]
theorem QuH(h:TyOk t){r:Ru}(hr:RuOk t r){i:Nat}(hi:i<r.r.s.length):FT 310 [tyD t,Q6 r,.int .i64 i] (.int .i64 0):=by
 have l:=QX hr.rg
 have hx:=hr.rs _ (gt_mem (l:=r.r.s) (j:=(i:Int)) (by omega) (by omega))
 have hd:=fun k hk=>hr.rd k i hk hi
 have hsl:=hr.rl
 have hv:=hr.l.v
 have hrv:=hr.rv
 obtain⟨q1,q2⟩:=hx.vr
 obtain⟨n1,n2⟩:=hx.nd
 obtain⟨a1,a2⟩:=hx.ak
 obtain⟨d1,d2⟩:=hx.ad
 have g:=X7 h (hr.rt.of hx.nd).2
 have ra:=QbD h (hr.rt.of hx.nd)
 have c1:=Qsb (r.r.s.take i) (by simp;omega) 366 [.ref (slD (gt r.r.s (i:Int))).cells] rfl fun x hx=>QuF (x:=gt r.r.s (i:Int)) fun⟨e1,e2⟩=>by
  obtain⟨k,hk,rfl⟩:=Xk hx
  rw[Qo] at hk
  rw[QuG (by omega) (by omega)] at e1 e2
  have:=hd k (by omega) e1 e2
  omega
 generalize Q0 t (gt r.r.g.n (gt r.r.s (i:Int)).nd)=A at*
 simp only[tyD,slD,D.cells] at ra c1
 refine fo [[]] ?_
 conv in fnC ..=>reduce
 simp(disch:=omega)only[go_sem,ayS,Q6,ruL,tyD,paL,fbE,cyL,slD]
 refine QQ ra ?_
 simp(disch:=omega)only[go_sem,ayS,slD,Qj9]
 refine QQ c1 ?_
 simp(disch:=omega)only[go_sem,ayS]
theorem QuI(h:TyOk t){r:Ru}(hr:RuOk t r):FT 220 [tyD t,Q6 r] (.int .i64 0):=by
 have l:=QX hr.rg
 have r2:=JH r.r.g
 rw[hr.rg] at r2
 have r3:=QuE hr.rg hr.rt
 have r4:=fun i hi=>QuH h hr (i:=i) hi
 have hv:=hr.rv
 have he:=hr.re
 have hsl:=hr.rl
 simp only[gD,tyD,Q6,ruL,paL,fbE,cyL,List.cons_append,List.nil_append] at r2 r3 r4
 rw[he,hv] at r4
 refine fo [] ?_
 conv in fnC ..=>reduce
 simp(disch:=omega)only[go_sem,ayS,Q6,ruL,tyD,paL,fbE,cyL,he]
 refine QQ r2 ?_
 simp(disch:=omega)only[go_sem,ayS]
 refine QQ r3 ?_
 simp(disch:=omega)only[go_sem,ayS,hv,Ye]
 refine Xb 47 r.r.s.length 0 rfl (by omega) fun k _ hk=>?_
 simp(disch:=omega)only[go_sem]
 refine QT (fun c=>?_) (fun c=>?_)
 ·simp(disch:=omega)only[go_sem,ayS]
  refine QQ (r4 k (by omega)) ?_
  simp(disch:=omega)only[go_sem,ayS]
  exact⟨k+1,by simp,by omega,by omega⟩
 ·simp(disch:=omega)only[go_sem]
theorem Qls(n:Nat)(hn:n≤1000)(l:List Int)(hl:l.length≤1000):FT 311 [.lst 1 (QR l),.int .i64 n] (.arr 1 (QR (crL n l))):=by
 refine fo [] ?_
 conv in fnC ..=>reduce
 simp(disch:=omega)only[go_sem]
 refine Q8 8 n (fun i=>[(5,.sl 0 0 (crL i l).length)]) (fun i=>[(0,.arr 1 (QR (crL i l)))]) (fun _=>True) (by simp(disch:=omega)only[go_sem];rfl) trivial fun i hi _=>?_
 have hc:(crL i l).length≤i:=YM _ _
 have hs:=Qap i l
 simp(disch:=omega)only[go_sem]
 refine QT (fun c=>?_) (fun c=>?_)
 ·simp(disch:=omega)only[go_sem]
  refine QQ (Zw l i (by unfold QS;omega)) ?_
  cases d:decide ((i:Int)∈l)<;>rw[d] at hs
  ·simp(disch:=omega)only[go_sem,ayS]
   rw[if_neg (by simp)] at hs
   exact⟨i+1,by simp [hs],by omega,by omega⟩
  ·simp(disch:=omega)only[go_sem,ayS]
   rw[if_pos rfl] at hs
   exact⟨i+1,by simp [hs],by omega,by omega⟩
 ·obtain rfl:i=n:=by omega
  simp(disch:=omega)only[go_sem,ayS]
theorem RuOk.inj{r:Ru}(h:RuOk t r):ZA (ptG r.l.g r.k) r.r.g r.i=true:=by
 unfold ZA
 rw[mok.2 h.i.ok,Qd3 h.nd.1,Qd3 h.nd.2];rfl
theorem QuJ{r:Ru}(hr:RuOk t r):FT 221 [Q6 r] (.int .i64 0):=by
 have pl:=hr.k.len
 have r2:=Qsz r.l.g r.k hr.k.sm
 have e:exR r.l.g r.k=(ptG r.l.g r.k,r.k,0):=by unfold exR;rw[validP_ok.2 hr.k];rfl
 rw[e] at r2
 have r3:=QdM (ptG r.l.g r.k) r.r.g r.i
 rw[mok.2 hr.i.ok] at r3
 have r4:=Qko (ptG r.l.g r.k) r.r.g r.i
 rw[hr.inj] at r4
 have l:=QX hr.i.ok.va
 simp only[gD,mD,gA,mA] at r2 r3 r4
 generalize ptG r.l.g r.k=X at*
 refine fo [] ?_
 conv in fnC ..=>reduce
 simp(disch:=omega)only[go_sem,ayS,Q6,ruL,paL,fbE,cyL]
 refine QQ r2 ?_
 cases hfl:(eds X.e).all D.flatE<;>(
  simp(disch:=omega)only[go_sem,ayS,hfl]
  refine QQ r3 ?_
  simp(disch:=omega)only[go_sem,ayS]
  refine QQ r4 ?_
  simp(disch:=omega)only[go_sem,ayS])
theorem QuK{r:Ru}(hr:RuOk t r):FT 222 [Q6 r] (.tup [.arr 1 (QR (crL r.r.g.n.length r.i.n)),.arr 1 (QR (crL r.r.g.e.length r.i.e))]):=by
 have l:=QX hr.rg
 have l1:=hr.i.ok.ln
 have l2:=hr.i.ok.le
 have l3:=QX hr.i.ok.va
 have r1:=Qls r.r.g.n.length (by omega) r.i.n (by omega)
 have r2:=Qls r.r.g.e.length (by omega) r.i.e (by omega)
 refine fo [[(8,none,[],true),(11,(some 1536),[8],false),(15,(some 28672),[8],false)]] ?_
 conv in fnC ..=>reduce
 simp(disch:=omega)only[go_sem,ayS,Q6,ruL,paL,fbE,cyL]
 refine QQ r1 ?_
 simp(disch:=omega)only[go_sem,ayS]
 refine QQ r2 ?_
 simp(disch:=omega)only[go_sem,ayS]
theorem QuL{g:G}(hy:Typ t g){x:Int}(hx:0≤x∧x<g.n.length)(ha:(gt t.n (gt g.n x)).ab=false):FT 312 [.int .i64 x,.ref (tyD t).cells,.ref (gD g).cells] (.bool false):=by
 have hyy:=hy.of hx
 obtain⟨y1,y2⟩:=hyy
 obtain⟨x1,x2⟩:=hx
 refine fo [[]] ?_
 conv in fnC ..=>reduce
 simp(disch:=omega)only[go_sem,ayS,tyD,gD,ntD,ha]
theorem QuM(h:TyOk t){g:G}(hg:QZ g=0)(hy:Typ t g){x:Int}(hx:0≤x∧x<g.e.length)(ha:YF t (gt g.e x).t (gt g.n (gt g.e x).f) (gt g.n (gt g.e x).o)=true):FT 313 [.int .i64 x,.ref (gD g).cells,.ref (tyD t).cells] (.bool false):=by
 obtain⟨k,rfl⟩:∃k:Nat,x=k:=⟨_,(Int.toNat_of_nonneg hx.1).symm⟩
 obtain⟨⟨f1,f2⟩,o1,o2⟩:=ZF hg (i:=k) (by omega)
 have rf:=Qkd h (k:=(gt g.e (k:Int)).t) (hy.edg (by omega)) (hy.of ⟨f1,f2⟩) (hy.of ⟨o1,o2⟩)
 have x3':(Xh t (gt g.n (gt g.e (k:Int)).f) (gt t.e (gt g.e (k:Int)).t).f&&Xh t (gt g.n (gt g.e (k:Int)).o) (gt t.e (gt g.e (k:Int)).t).o)=true:=ha
 rw[x3'] at rf
 simp only[tyD] at rf
 refine fo [[]] ?_
 conv in fnC ..=>reduce
 simp(disch:=omega)only[go_sem,ayS,tyD,gD,edD]
 refine QQ rf ?_
 simp(disch:=omega)only[go_sem,ayS]
theorem QuN(h:TyOk t){p:Pa}(hp:RiOk t p){a b:List Int}(ha:∀x∈a,(0≤x∧x<p.g.n.length)∧(gt t.n (gt p.g.n x)).ab=false)(hb:∀x∈b,(0≤x∧x<p.g.e.length)∧YF t (gt p.g.e x).t (gt p.g.n (gt p.g.e x).f) (gt p.g.n (gt p.g.e x).o)=true)(la:a.length≤100)(lb:b.length≤100):
  FT 223 [tyD t,gD p.g,.lst 1 (QR a),.lst 1 (QR b)] (.bool true):=by
 have c1:=JG a (by unfold QS;omega) 312 [.ref (tyD t).cells,.ref (gD p.g).cells] rfl (fun _=>false) fun x hx=>QuL hp.ty (ha x hx).1 (ha x hx).2
 have c2:=JG b (by unfold QS;omega) 313 [.ref (gD p.g).cells,.ref (tyD t).cells] rfl (fun _=>false) fun x hx=>QuM h hp.g hp.ty (hb x hx).1 (hb x hx).2
 rw[List.any_eq_false.2 fun _ _=>by simp] at c1 c2
 refine fo [] ?_
 conv in fnC ..=>reduce
 simp(disch:=omega)only[go_sem,tyD,gD]
 refine QQ c1 ?_
 simp(disch:=omega)only[go_sem]
 refine QQ c2 ?_
 simp(disch:=omega)only[go_sem]
theorem QuO(h:TyOk t){r:Ru}(hr:RuOk t r):FT 137 [tyD t,Q6 r] (.int .i64 0):=by
 have l:=QX hr.rg
 have ll:=QX hr.l.g
 have l1:=hr.i.ok.ln
 have l2:=hr.i.ok.le
 have l3:=QX hr.i.ok.va
 have hk:=hr.k.len
 have hsl:=hr.rl
 have r0:=Qal h
 have r1:=Qdw r.nm (by rw[hr.nm];exact Qae (by omega))
 have r2:=Qgn h hr.l
 have r3:=QuI h hr
 have r4:=QuJ hr
 have r7:=QuK hr
 have c1:(crL r.r.g.n.length r.i.n).length≤_:=YM _ _
 have c2:(crL r.r.g.e.length r.i.e).length≤_:=YM _ _
 have r8:=QuN h hr.ri hr.crn hr.cre (by omega) (by omega)
 have r9:=Qlf h hr.l hr.c.all
 simp only[gD,mD,tyD,paD,Q6,ruL,paL,fbD,fbE,cyL,List.cons_append,List.nil_append] at r0 r2 r3 r4 r7 r8 r9
 refine fo [] ?_
 conv in fnC ..=>reduce
 simp(disch:=omega)only[go_sem,ayS,Q6,ruL,tyD,paL,fbE,cyL]
 refine QQ r0 ?_
 simp(disch:=omega)only[go_sem,ayS]
 refine QQ r1 ?_
 simp(disch:=omega)only[go_sem,ayS]
 refine QQ r2 ?_
 simp(disch:=omega)only[go_sem,ayS]
 refine QQ r3 ?_
 simp(disch:=omega)only[go_sem,ayS]
 refine QQ r4 ?_
 simp(disch:=omega)only[go_sem,ayS]
 refine QQ r7 ?_
 simp(disch:=omega)only[go_sem,ayS]
 refine QQ r8 ?_
 simp(disch:=omega)only[go_sem,ayS]
 refine QQ r9 ?_
 simp(disch:=omega)only[go_sem,ayS]
theorem Qlt(l:List Slo)(hl:l.length≤1000):FT 330 [.lst 4 (XI l),.lst 4 (XI l)] (.bool true):=by
 refine fo [[]] ?_
 conv in fnC ..=>reduce
 simp(disch:=omega)only[go_sem,ayS]
 refine Xb 13 l.length 0 rfl (by omega) fun i _ hi=>?_
 simp(disch:=omega)only[go_sem]
 refine QT (fun c=>?_) (fun c=>?_)
 ·simp(disch:=omega)only[go_sem,ayS,slD]
  exact⟨i+1,by simp,by omega,by omega⟩
 ·simp(disch:=omega)only[go_sem]
theorem Qlu(l:List Te)(hl:l.length≤1000):FT 331 [.lst 5 (Ye l),.lst 5 (Ye l)] (.bool true):=by
 refine fo [[]] ?_
 conv in fnC ..=>reduce
 simp(disch:=omega)only[go_sem,ayS]
 refine Xb 13 l.length 0 rfl (by omega) fun i _ hi=>?_
 simp(disch:=omega)only[go_sem]
 refine QT (fun c=>?_) (fun c=>?_)
 ·simp(disch:=omega)only[go_sem,ayS,teD]
  exact⟨i+1,by simp,by omega,by omega⟩
 ·simp(disch:=omega)only[go_sem]
theorem Qlv(p:Pa)(h1:p.g.n.length≤1000)(h2:p.g.e.length≤1000)(h3:p.s.length≤1000)(h4:p.t.length≤1000):FT 246 [paD p,paD p] (.bool true):=by
 have r1:=QrH p.g p.g (by unfold QS;omega) (by unfold QS;omega)
 rw[Qe rfl] at r1
 have r2:=Qlt p.s h3
 have r3:=Qlu p.t h4
 simp only[gD] at r1
 refine fo [] ?_
 conv in fnC ..=>reduce
 simp(disch:=omega)only[go_sem,ayS,paD,paL]
 refine QQ r1 ?_
 simp(disch:=omega)only[go_sem,ayS]
 refine QQ r2 ?_
 simp(disch:=omega)only[go_sem,ayS]
 refine QQ r3 ?_
 simp(disch:=omega)only[go_sem,ayS]
theorem QuP(g:Nat):FT 332 [.lst 9 [],.lst 9 [],.clo g []] (.bool true):=by
 refine fo [] ?_
 conv in fnC ..=>reduce
 simp(disch:=omega)only[go_sem,ayS]
 refine Xb 17 0 0 rfl (by omega) fun i _ hi=>?_
 obtain rfl:i=0:=by omega
 simp(disch:=omega)only[go_sem,ayS]
theorem Qgw(k:Int)(kids:List D)(m:Mo)(q:G)(v:Int)(ho:XK (.agg (cyL k kids m q v))=true)(h1:m.n.length≤1000)(h2:m.e.length≤1000)(h3:q.n.length≤1000)(h4:q.e.length≤1000)
  (r5:FT 332 [.lst 9 kids,.lst 9 kids,.clo 247 []] (.bool true)):FT 247 [.agg (cyL k kids m q v),.agg (cyL k kids m q v)] (.bool true):=by
 have r1:=Qck m m (by unfold QS;omega) (by unfold QS;omega)
 rw[Qe rfl] at r1
 have r2:=ZC q.n q.n (by unfold QS;omega)
 rw[Qe rfl] at r2
 have r3:=Qf0 q.e q.e (by unfold QS;omega)
 rw[Qe rfl] at r3
 have r4:=Qlt [] (by simp)
 have r6:=Qlu [] (by simp)
 simp only[mD,XI,Ye,List.map_nil] at r1 r4 r6
 refine fo [[(3,none,[],true),(6,none,[3],false)]] ?_ (hok:=(by simp only[List.all_cons,List.all_nil,ho,Bool.and_self]))
 conv in fnC ..=>reduce
 simp(disch:=omega)only[go_sem,ayS,cyL]
 refine QQ r1 ?_
 simp(disch:=omega)only[go_sem,ayS]
 refine QQ r2 ?_
 simp(disch:=omega)only[go_sem,ayS]
 refine QQ r3 ?_
 simp(disch:=omega)only[go_sem,ayS]
 refine QQ r4 ?_
 simp(disch:=omega)only[go_sem,ayS]
 refine QQ r6 ?_
 simp(disch:=omega)only[go_sem,ayS]
 refine QQ r5 ?_
 simp(disch:=omega)only[go_sem,ayS]
theorem Qlw(k:Int)(kids:List D)(m:Mo)(q:G)(v:Int)(ho':XK (.lst 9 [.agg (cyL k kids m q v)])=true)(r:FT 247 [.agg (cyL k kids m q v),.agg (cyL k kids m q v)] (.bool true)):FT 332 [.lst 9 [.agg (cyL k kids m q v)],.lst 9 [.agg (cyL k kids m q v)],.clo 247 []] (.bool true):=by
 refine fo [] ?_ (hok:=(by simp only[List.all_cons,List.all_nil,ho'];rfl))
 conv in fnC ..=>reduce
 simp(disch:=omega)only[go_sem,ayS,cyL]
 refine Xb 17 1 0 rfl (by omega) fun i _ hi=>?_
 simp(disch:=omega)only[go_sem]
 refine QT (fun c=>?_) (fun c=>?_)
 ·obtain rfl:i=0:=by omega
  simp(disch:=omega)only[go_sem,ayS,cyL]
  refine QQ r ?_
  simp(disch:=omega)only[go_sem,ayS]
  exact⟨1,by simp,by omega,by omega⟩
 ·simp(disch:=omega)only[go_sem]
theorem QuQ{p:Pa}{c:Fb}(hc:FbOk t p c):FT 247 [fbD c,fbD c] (.bool true):=by
 have h0:=Qgw 1 [] m0 g0 0 rfl (by simp [m0]) (by simp [m0]) (by simp [g0]) (by simp [g0]) (QuP 247)
 cases c with
 |tt=>exact h0
 |no m q v=>
  have h:=hc.ex
  have l:=QX h.em.ok.vb
  have l2:=h.inj
  have h1:=Qgw 5 [.agg ttL] m q v rfl (by omega) (by omega) (by omega) (by omega) (Qlw 1 [] m0 g0 0 rfl h0)
  exact Qgw 2 [.agg (XB m q v)] m0 g0 0 rfl (by simp [m0]) (by simp [m0]) (by simp [g0]) (by simp [g0]) (Qlw 5 [.agg ttL] m q v rfl h1)
theorem QuR{r:Ru}(hr:RuOk t r):FT 153 [Q6 r,Q6 r] (.bool true):=by
 have l:=QX hr.rg
 have ll:=QX hr.l.g
 have l1:=hr.i.ok.ln
 have l2:=hr.i.ok.le
 have l3:=QX hr.i.ok.va
 have hk:=hr.k.len
 have hsl:=hr.rl
 have hs2:=hr.l.sl
 have hs3:=hr.l.tl
 have he:=hr.re
 have r1:=Qlv r.l (by omega) (by omega) (by omega) (by omega)
 have r2:=Qlv r.r (by omega) (by omega) (by omega) (by rw[he];simp)
 have rq:=fun (l:List Int) (hl:l.length≤1000)=>(Qe (p:=l=l) rfl)▸ZC l l (by unfold QS;omega)
 have r31:=rq r.k.n (by omega)
 have r32:=rq r.k.e (by omega)
 have r33:=Qck r.i r.i (by unfold QS;omega) (by unfold QS;omega)
 rw[Qe rfl] at r33
 simp only[mD] at r33
 have r5:=QuQ hr.c
 have e1:decide (r.nm=r.nm)=true:=Qe rfl
 have e2:(r.inj==r.inj)=true:=beq_self_eq_true _
 simp only[paD,paL,fbD,fbE,cyL] at r1 r2 r5
 refine fo [] ?_
 conv in fnC ..=>reduce
 simp(disch:=omega)only[go_sem,ayS,Q6,ruL,paL,fbE,cyL,e1,e2]
 refine QQ r1 ?_
 simp(disch:=omega)only[go_sem,ayS]
 refine QQ r2 ?_
 simp(disch:=omega)only[go_sem,ayS]
 refine QQ r31 ?_
 simp(disch:=omega)only[go_sem,ayS]
 refine QQ r32 ?_
 simp(disch:=omega)only[go_sem,ayS]
 refine QQ r33 ?_
 simp(disch:=omega)only[go_sem,ayS]
 refine QQ r5 ?_
 simp(disch:=omega)only[go_sem,ayS]
end
theorem QuS(x:Cx)(hs:x.sm):FC Tryz.prog 95 [gD x.l,gD x.g,mD x.k,mD x.m] (.int .i64 (cxE x)) []:=by
 refine fo [] ?_
 conv in fnC ..=>reduce
 have r1:=Qcj x.l x.g x.m
 have r2:=Qgc x.l x.k hs.1 hs.2
 have hE:cxE x=if Yc x.l x.g x.m≠0 then Yc x.l x.g x.m else Yz x.l x.k:=rfl
 rw[hE]
 generalize Yc x.l x.g x.m=u at*
 generalize Yz x.l x.k=v at*
 simp only[gD,mD] at*
 simp(disch:=omega)only[go_sem]
 refine QQ r1 ?_
 simp(disch:=omega)only[go_sem]
 refine XY (fun c=>?_) (fun c=>?_)
 ·simp(disch:=omega)only[go_sem]
  try simp [c]
 ·subst c
  simp(disch:=omega)only[go_sem]
  refine QQ r2 ?_
  simp(disch:=omega)only[go_sem]
  try simp
theorem QbE(l:List Int)(n:Int)(hl:l.length≤QS):FC Tryz.prog 181 [.lst 1 (QR l),.int .i64 n] (.bool (decide (n∈l))) []:=by
 refine fo [] ?_
 conv in fnC ..=>reduce
 unfold QS at hl
 simp(disch:=omega)only[go_sem]
 refine Xj (fun i:Nat=>⟨[(0,.lst 1 (QR l)),(1,.int .i64 n),(5,.int .i64 i)],[],0⟩) (fun i=>i≤l.length∧n∉l.take i) (fun i=>l.length-i) 0 ?_ ?_ ?_
 ·simp(disch:=omega)only[go_sem]
  rfl
 ·simp
 ·rintro i ⟨hi,hn⟩
  simp(disch:=omega)only[go_sem]
  refine QT (fun c=>?_) (fun c=>?_)
  ·have hm:=Qf4 (n:=n) (l:=l) (i:=i) (by omega)
   simp(disch:=omega)only[go_sem]
   refine QT (fun d=>?_) (fun d=>?_)
   ·have:n∈l:=by rw[←d];exact gt_mem (by omega) (by omega)
    simp(disch:=omega)only[go_sem]
    simp [this]
   ·simp(disch:=omega)only[go_sem]
    exact⟨i+1,by simp,⟨by omega,fun h=>by rcases hm.1 h with h|h;exact hn h;exact d h⟩,by omega⟩
  ·obtain rfl:i=l.length:=by omega
   rw[List.take_length] at hn
   simp(disch:=omega)only[go_sem]
   simp [hn]
set_option maxHeartbeats 1000000 in
theorem Qlx(im kn:List Int)(h1:im.length≤1000)(h2:kn.length≤QS):FC Tryz.prog 96 [.lst 1 (QR im),.lst 1 (QR kn)] (.arr 2 (prs (idL im kn))) []:=by
 refine fo [[]] ?_
 conv in fnC ..=>reduce
 have hA:∀i:Nat,i≤im.length→(idA im kn i).length≤1000000:=fun i hi=>Qf6 h1 hi
 have hR:=QdE im kn
 have a0:idA im kn 0=[]:=rfl
 have aS:∀i,idA im kn (i+1)=idA im kn i++idR im kn i im.length:=fun i=>rfl
 have rS:∀i k,idR im kn i (k+1)=if i<k∧idP im kn i k=true then idR im kn i k++[⟨i,k⟩] else idR im kn i k:=fun i k=>rfl
 have r0:∀i,idR im kn i (i+1)=[]:=fun i=>Qf5 im kn i (i+1) (Qg _)
 have hP:∀i k,idP im kn i k=(decide (gt im i=gt im k)&&(!decide ((i:Int)∈kn)||!decide ((k:Int)∈kn))):=fun i k=>rfl
 have hL:idL im kn=idA im kn im.length:=rfl
 rw[hL]
 clear hL
 generalize idA im kn=A at*
 generalize idR im kn=R at*
 generalize idP im kn=Q at*
 simp(disch:=omega)only[go_sem]
 refine Xj (fun i:Nat=>⟨[(0,.lst 1 (QR im)),(1,.lst 1 (QR kn)),(5,.sl 0 0 (A i).length),(6,.int .i64 i)],[(0,.arr 2 (prs (A i)))],1⟩) (fun i=>i≤im.length) (fun i=>im.length-i) 0 ?_ ?_ ?_
 ·simp(disch:=omega)only[go_sem,a0,Qjw]
  rfl
 ·simp
 ·intro i hi
  have hAi:=hA i hi
  by_cases c:i<im.length
  ·have g1:decide ((i:Int)<im.length)=true:=Qe (by omega)
   simp(disch:=omega)only[go_sem,g1]
   refine Xj (fun k:Nat=>⟨[(0,.lst 1 (QR im)),(1,.lst 1 (QR kn)),(5,.sl 0 0 ((A i).length+(R i k).length)),(6,.int .i64 i),(7,.int .i64 k)],[(0,.arr 2 (prs (A i++R i k)))],1⟩) (fun k=>i<k∧k≤im.length) (fun k=>im.length-k) (i+1) ?_ ?_ ?_
   ·simp(disch:=omega)only[go_sem,r0]
    simp
   ·omega
   ·rintro k ⟨k1,k2⟩
    have hRi:=hR i k
    have al:(A i++R i k).length=(A i).length+(R i k).length:=Qj
    by_cases d:k<im.length
    ·have g2:decide ((k:Int)<im.length)=true:=Qe (by omega)
     have c1:=QbE kn i h2
     have c2:=QbE kn k h2
     have hs:=rS i k
     rw[hP] at hs
     by_cases e:gt im i=gt im k
     ·have g3:decide (gt im i=gt im k)=true:=Qe e
      rw[g3] at hs
      generalize decide ((i:Int)∈kn)=b1 at*
      generalize decide ((k:Int)∈kn)=b2 at*
      cases b1
      ·simp(disch:=omega)only[go_sem,g2,g3,al]
       refine QQ c1 ?_
       simp(disch:=omega)only[go_sem,al]
       exact⟨k+1,by simp [hs,k1];try omega,by omega,by omega⟩
      ·cases b2
       ·simp(disch:=omega)only[go_sem,g2,g3,al]
        refine QQ c1 ?_
        simp(disch:=omega)only[go_sem,al]
        refine QQ c2 ?_
        simp(disch:=omega)only[go_sem,al]
        exact⟨k+1,by simp [hs,k1];try omega,by omega,by omega⟩
       ·simp(disch:=omega)only[go_sem,g2,g3,al]
        refine QQ c1 ?_
        simp(disch:=omega)only[go_sem,al]
        refine QQ c2 ?_
        simp(disch:=omega)only[go_sem,al]
        exact⟨k+1,by simp [hs],by omega,by omega⟩
     ·have g3:decide (gt im i=gt im k)=false:=Qf e
      rw[g3] at hs
      simp(disch:=omega)only[go_sem,g2,g3,al]
      exact⟨k+1,by simp [hs],by omega,by omega⟩
    ·have g2:decide ((k:Int)<im.length)=false:=Qf (by omega)
     obtain rfl:k=im.length:=by omega
     simp(disch:=omega)only[go_sem,g2,al]
     exact⟨i+1,by simp [aS],by omega,by omega⟩
  ·have g1:decide ((i:Int)<im.length)=false:=Qf (by omega)
   obtain rfl:i=im.length:=by omega
   simp(disch:=omega)only[go_sem,g1]
theorem Qgx(mn kn:List Int)(h1:mn.length≤1000)(h2:kn.length≤QS):FC Tryz.prog 99 [.lst 1 (QR mn),.lst 1 (QR kn)] (.arr 1 (QR (Xg mn kn))) []:=by
 refine fo [] ?_
 conv in fnC ..=>reduce
 have hl:=QdD mn kn
 have h0:Yt mn kn 0=[]:=rfl
 simp(disch:=omega)only[go_sem]
 refine Xj (fun i:Nat=>⟨[(0,.lst 1 (QR mn)),(1,.lst 1 (QR kn)),(5,.sl 0 0 (Yt mn kn i).length),(6,.int .i64 i)],[(0,.arr 1 (QR (Yt mn kn i)))],1⟩) (fun i=>i≤mn.length) (fun i=>mn.length-i) 0 ?_ ?_ ?_
 ·simp(disch:=omega)only[go_sem,h0,Z2]
  rfl
 ·simp
 ·intro i hi
  have hli:=hl i
  by_cases c:i<mn.length
  ·have g1:decide ((i:Int)<mn.length)=true:=Qe (by omega)
   have r:=QbE kn i h2
   have hs:Yt mn kn (i+1)=if (i:Int)∈kn then Yt mn kn i else Yt mn kn i++[gt mn i]:=rfl
   by_cases d:(i:Int)∈kn
   ·rw[if_pos d] at hs
    rw[Qe d] at r
    simp(disch:=omega)only[go_sem,g1]
    refine QQ r ?_
    simp(disch:=omega)only[go_sem]
    exact⟨i+1,by simp [hs],by omega,by omega⟩
   ·rw[if_neg d] at hs
    rw[Qf d] at r
    simp(disch:=omega)only[go_sem,g1]
    refine QQ r ?_
    simp(disch:=omega)only[go_sem]
    exact⟨i+1,by simp [hs],by omega,by omega⟩
  ·have g1:decide ((i:Int)<mn.length)=false:=Qf (by omega)
   obtain rfl:i=mn.length:=by omega
   simp(disch:=omega)only[go_sem,g1]
   rfl
set_option maxHeartbeats 1000000 in
theorem QuT(x:Cx)(he:cxE x=0):FC Tryz.prog 97 [gD x.l,gD x.g,mD x.k,mD x.m] (.arr 1 (QR (Y2 x))) []:=by
 refine fo [] ?_
 conv in fnC ..=>reduce
 obtain⟨hm,hk⟩:=QbA he
 have vl:=XZ hm.va
 have vg:=XZ hm.vb
 have l1:=hm.ln
 have l2:=hm.le
 have l3:=hk.len
 have r1:=Qgx x.m.n x.k.n (by omega) (by unfold QS;omega)
 have gl:=QdF x.m.n x.k.n
 have cM:=fun i=>QbE x.m.e i (by unfold QS;omega)
 have cG:=fun i=>QbE (Xg x.m.n x.k.n) i (by unfold QS;omega)
 have hD:Y2 x=sel (Za x.g (Xg x.m.n x.k.n) x.m.e) x.g.e.length:=rfl
 have hE:∀i,Za x.g (Xg x.m.n x.k.n) x.m.e i=(!decide ((i:Int)∈x.m.e)&&(decide ((gt x.g.e i).f∈Xg x.m.n x.k.n)||decide ((gt x.g.e i).o∈Xg x.m.n x.k.n))):=fun i=>rfl
 have sl:=YM (Za x.g (Xg x.m.n x.k.n) x.m.e)
 have ss:=J9 (Za x.g (Xg x.m.n x.k.n) x.m.e)
 have s0:=Qb7 (Za x.g (Xg x.m.n x.k.n) x.m.e)
 rw[hD]
 clear hm hk he hD vl
 generalize Za x.g (Xg x.m.n x.k.n) x.m.e=de at*
 generalize Xg x.m.n x.k.n=gone at*
 obtain⟨⟨ln,le⟩,⟨gn,ge⟩,⟨kn,ke⟩,⟨mn,me⟩⟩:=x
 simp only[gD,mD] at*
 simp(disch:=omega)only[go_sem]
 refine QQ r1 ?_
 simp(disch:=omega)only[go_sem]
 refine Xj (fun i:Nat=>⟨[(5,.pt 0 0),(7,.pt 1 0),(9,.sl 2 0 (sel de i).length),(10,.sl 3 0 gone.length),(11,.int .i64 i)],
  [(0,.box [.lst 1 (QR gn),.lst 3 (eds ge)]),(1,.box [.lst 1 (QR mn),.lst 1 (QR me)]),(2,.arr 1 (QR (sel de i))),(3,.arr 1 (QR gone))],4⟩) (fun i=>i≤ge.length) (fun i=>ge.length-i) 0 ?_ ?_ ?_
 ·simp(disch:=omega)only[go_sem,s0,Z2]
  rfl
 ·simp
 ·intro i hi
  have sli:=sl i
  by_cases c:i<ge.length
  ·have g1:decide ((i:Int)<ge.length)=true:=Qe (by omega)
   have c1:=cM i
   have c2:=cG (gt ge i).f
   have c3:=cG (gt ge i).o
   have hs:=ss i
   rw[hE] at hs
   try simp only at hs
   generalize decide ((i:Int)∈me)=b1 at*
   generalize decide ((gt ge i).f∈gone)=b2 at*
   generalize decide ((gt ge i).o∈gone)=b3 at*
   cases b1
   ·cases b2
    ·cases b3
     ·simp(disch:=omega)only[go_sem,g1]
      refine QQ c1 ?_
      simp(disch:=omega)only[go_sem]
      refine QQ c2 ?_
      simp(disch:=omega)only[go_sem]
      refine QQ c3 ?_
      simp(disch:=omega)only[go_sem]
      exact⟨i+1,by simp [hs],by omega,by omega⟩
     ·simp(disch:=omega)only[go_sem,g1]
      refine QQ c1 ?_
      simp(disch:=omega)only[go_sem]
      refine QQ c2 ?_
      simp(disch:=omega)only[go_sem]
      refine QQ c3 ?_
      simp(disch:=omega)only[go_sem]
      exact⟨i+1,by simp [hs],by omega,by omega⟩
    ·simp(disch:=omega)only[go_sem,g1]
     refine QQ c1 ?_
     simp(disch:=omega)only[go_sem]
     refine QQ c2 ?_
     simp(disch:=omega)only[go_sem]
     exact⟨i+1,by simp [hs],by omega,by omega⟩
   ·simp(disch:=omega)only[go_sem,g1]
    refine QQ c1 ?_
    simp(disch:=omega)only[go_sem]
    exact⟨i+1,by simp [hs],by omega,by omega⟩
  ·have g1:decide ((i:Int)<ge.length)=false:=Qf (by omega)
   obtain rfl:i=ge.length:=by omega
   simp(disch:=omega)only[go_sem,g1]
   try rfl
theorem Qly(n:Nat)(l:List Int)(hn:n≤1000)(hl:l.length≤QS):FC Tryz.prog 98 [.int .i64 n,.lst 1 (QR l)] (.arr 1 (QR (Yu n l))) []:=by
 refine fo [] ?_
 conv in fnC ..=>reduce
 have hR:Yu n l=sel (fun i:Nat=>!decide ((i:Int)∈l)) n:=rfl
 have sl:=YM (fun i:Nat=>!decide ((i:Int)∈l))
 have ss:=J9 (fun i:Nat=>!decide ((i:Int)∈l))
 have s0:=Qb7 (fun i:Nat=>!decide ((i:Int)∈l))
 rw[hR]
 clear hR
 generalize hS:sel (fun i:Nat=>!decide ((i:Int)∈l))=S at*
 simp(disch:=omega)only[go_sem]
 refine Xj (fun i:Nat=>⟨[(0,.int .i64 n),(1,.lst 1 (QR l)),(5,.sl 0 0 (S i).length),(6,.int .i64 i)],[(0,.arr 1 (QR (S i)))],1⟩) (fun i=>i≤n) (fun i=>n-i) 0 ?_ ?_ ?_
 ·simp(disch:=omega)only[go_sem,s0,Z2]
  rfl
 ·simp
 ·intro i hi
  have sli:=sl i
  by_cases c:i<n
  ·have g1:decide ((i:Int)<n)=true:=Qe (by omega)
   have r:=QbE l i hl
   have hs:=ss i
   generalize decide ((i:Int)∈l)=b at*
   cases b
   ·simp(disch:=omega)only[go_sem,g1]
    refine QQ r ?_
    simp(disch:=omega)only[go_sem]
    exact⟨i+1,by simp [hs],by omega,by omega⟩
   ·simp(disch:=omega)only[go_sem,g1]
    refine QQ r ?_
    simp(disch:=omega)only[go_sem]
    exact⟨i+1,by simp [hs],by omega,by omega⟩
  ·have g1:decide ((i:Int)<n)=false:=Qf (by omega)
   obtain rfl:i=n:=by omega
   simp(disch:=omega)only[go_sem,g1]
set_option maxHeartbeats 1000000 in
theorem QuU(x:Cx)(hs:x.sm):FC Tryz.prog 49 [gD x.l,gD x.g,mD x.k,mD x.m] (.tup [mA (cxR x).1,.int .i64 (cxR x).2]) []:=by
 refine fo [[(4,none,[],true),(7,(some 64),[4],false),(9,(some 256),[4],false)],[(1,none,[],true),(7,none,[1],true),(8,none,[],true),(10,(some 512),[7,8],true),(13,(some 4096),[7,8],false),(15,(some 16384),[7,8],false),(16,none,[10],false)]] ?_
 conv in fnC ..=>reduce
 have r1:=QuS x hs
 have hR:cxR x=if cxE x≠0 then (m0,cxE x) else if 0<(idL x.m.n x.k.n).length+(idL x.m.e x.k.e).length then (m0,15) else if 0<(Y2 x).length then (m0,14) else (⟨Yu x.g.n.length (Xg x.m.n x.k.n),Yu x.g.e.length (Xg x.m.e x.k.e)⟩,0):=rfl
 by_cases c:cxE x=0
 case neg=>
  rw[if_pos c] at hR
  rw[hR]
  generalize cxE x=v at*
  simp only[gD,mD,cxD] at*
  simp(disch:=omega)only[go_sem]
  refine QQ r1 ?_
  simp(disch:=omega)only[go_sem,c]
  simp [m0,mA,QR]
 rw[if_neg (by simp [c])] at hR
 obtain⟨hm,hk⟩:=QbA c
 have vl:=XZ hm.va
 have vg:=XZ hm.vb
 have l1:=hm.ln
 have l2:=hm.le
 have r2:=Qlx x.m.n x.k.n (by omega) hs.1
 have r2b:=Qlx x.m.e x.k.e (by omega) hs.2
 have r3:=QuT x c
 have g3:=Qgx x.m.n x.k.n (by omega) hs.1
 have g4:=Qgx x.m.e x.k.e (by omega) hs.2
 have gl1:=QdF x.m.n x.k.n
 have gl2:=QdF x.m.e x.k.e
 have r4:=Qly x.g.n.length (Xg x.m.n x.k.n) (by omega) (by unfold QS;omega)
 have r5:=Qly x.g.e.length (Xg x.m.e x.k.e) (by omega) (by unfold QS;omega)
 have q1:=QdG (im:=x.m.n) (kn:=x.k.n) (by omega)
 have q2:=QdG (im:=x.m.e) (kn:=x.k.e) (by omega)
 have q3:=QjY x
 rw[c] at r1
 clear hm hk vl l1 l2 c
 generalize idL x.m.n x.k.n=i1 at*
 generalize idL x.m.e x.k.e=i2 at*
 generalize Y2 x=d at*
 generalize Yu x.g.n.length (Xg x.m.n x.k.n)=s1 at*
 generalize Yu x.g.e.length (Xg x.m.e x.k.e)=s2 at*
 generalize Xg x.m.n x.k.n=go1 at*
 generalize Xg x.m.e x.k.e=go2 at*
 simp only[gD,mD,cxD] at*
 by_cases c1:0<i1.length+i2.length
 ·rw[if_pos c1] at hR
  rw[hR]
  have g1:decide ((0:Int)<(i1.length:Int)+i2.length)=true:=Qe (by omega)
  simp(disch:=omega)only[go_sem]
  refine QQ r1 ?_
  simp(disch:=omega)only[go_sem]
  refine QQ r2 ?_
  simp(disch:=omega)only[go_sem]
  refine QQ r2b ?_
  simp(disch:=omega)only[go_sem,g1]
  simp [m0,mA,QR]
 rw[if_neg c1] at hR
 have g1:decide ((0:Int)<(i1.length:Int)+i2.length)=false:=Qf (by omega)
 by_cases c2:0<d.length
 ·rw[if_pos c2] at hR
  rw[hR]
  have g2:decide ((0:Int)<(d.length:Int))=true:=Qe (by omega)
  simp(disch:=omega)only[go_sem]
  refine QQ r1 ?_
  simp(disch:=omega)only[go_sem]
  refine QQ r2 ?_
  simp(disch:=omega)only[go_sem]
  refine QQ r2b ?_
  simp(disch:=omega)only[go_sem,g1]
  refine QQ r3 ?_
  simp(disch:=omega)only[go_sem,g2]
  simp [m0,mA,QR]
 rw[if_neg c2] at hR
 rw[hR]
 have g2:decide ((0:Int)<(d.length:Int))=false:=Qf (by omega)
 simp(disch:=omega)only[go_sem]
 refine QQ r1 ?_
 simp(disch:=omega)only[go_sem]
 refine QQ r2 ?_
 simp(disch:=omega)only[go_sem]
 refine QQ r2b ?_
 simp(disch:=omega)only[go_sem,g1]
 refine QQ r3 ?_
 simp(disch:=omega)only[go_sem,g2]
 refine QQ g3 ?_
 simp(disch:=omega)only[go_sem]
 refine QQ r4 ?_
 simp(disch:=omega)only[go_sem]
 refine QQ g4 ?_
 simp(disch:=omega)only[go_sem]
 refine QQ r5 ?_
 simp(disch:=omega)only[go_sem]
 try rfl
theorem QuV(x:Cx)(hs:x.sm):FC Tryz.prog 233 [cxD x] (.int .i64 (cxE x)) []:=by
 refine fo [] ?_
 conv in fnC ..=>reduce
 have r1:=QdM x.l x.g x.m
 have r2:=Qki x.l x.k hs.1 hs.2
 have hE:cxE x=if Yc x.l x.g x.m≠0 then Yc x.l x.g x.m else Yz x.l x.k:=rfl
 rw[hE]
 generalize Yc x.l x.g x.m=u at*
 generalize Yz x.l x.k=v at*
 simp only[gD,mD,cxD] at*
 simp(disch:=omega)only[go_sem]
 refine QQ r1 ?_
 simp(disch:=omega)only[go_sem]
 refine XY (fun c=>?_) (fun c=>?_)
 ·simp(disch:=omega)only[go_sem]
  try simp [c]
 ·subst c
  simp(disch:=omega)only[go_sem]
  refine QQ r2 ?_
  simp(disch:=omega)only[go_sem]
  try simp
set_option maxHeartbeats 1000000 in
theorem Qlz(im kn:List Int)(h1:im.length≤1000)(h2:kn.length≤QS):FC Tryz.prog 323 [.lst 1 (QR im),.lst 1 (QR kn)] (.arr 2 (prs (idL im kn))) []:=by
 refine fo [[]] ?_
 conv in fnC ..=>reduce
 have hA:∀i:Nat,i≤im.length→(idA im kn i).length≤1000000:=fun i hi=>Qf6 h1 hi
 have hR:=QdE im kn
 have a0:idA im kn 0=[]:=rfl
 have aS:∀i,idA im kn (i+1)=idA im kn i++idR im kn i im.length:=fun i=>rfl
 have rS:∀i k,idR im kn i (k+1)=if i<k∧idP im kn i k=true then idR im kn i k++[⟨i,k⟩] else idR im kn i k:=fun i k=>rfl
 have r0:∀i,idR im kn i (i+1)=[]:=fun i=>Qf5 im kn i (i+1) (Qg _)
 have hP:∀i k,idP im kn i k=(decide (gt im i=gt im k)&&(!decide ((i:Int)∈kn)||!decide ((k:Int)∈kn))):=fun i k=>rfl
 have hL:idL im kn=idA im kn im.length:=rfl
 rw[hL]
 clear hL
 generalize idA im kn=A at*
 generalize idR im kn=R at*
 generalize idP im kn=Q at*
 simp(disch:=omega)only[go_sem]
 refine Xj (fun i:Nat=>⟨[(0,.lst 1 (QR im)),(1,.lst 1 (QR kn)),(5,.sl 0 0 (A i).length),(9,.int .i64 im.length),(10,.int .i64 i)],[(0,.arr 2 (prs (A i)))],1⟩) (fun i=>i≤im.length) (fun i=>im.length-i) 0 ?_ ?_ ?_
 ·simp(disch:=omega)only[go_sem,a0,Qjw]
  rfl
 ·simp
 ·intro i hi
  have hAi:=hA i hi
  by_cases c:i<im.length
  ·have g1:decide ((i:Int)<im.length)=true:=Qe (by omega)
   simp(disch:=omega)only[go_sem,g1]
   refine Xj (fun k:Nat=>⟨[(0,.lst 1 (QR im)),(1,.lst 1 (QR kn)),(5,.sl 0 0 ((A i).length+(R i k).length)),(6,.int .i64 i),(7,.int .i64 k),(9,.int .i64 im.length),(10,.int .i64 i)],[(0,.arr 2 (prs (A i++R i k)))],1⟩) (fun k=>i<k∧k≤im.length) (fun k=>im.length-k) (i+1) ?_ ?_ ?_
   ·simp(disch:=omega)only[go_sem,r0]
    simp
   ·omega
   ·rintro k ⟨k1,k2⟩
    have hRi:=hR i k
    have al:(A i++R i k).length=(A i).length+(R i k).length:=Qj
    by_cases d:k<im.length
    ·have g2:decide ((k:Int)<im.length)=true:=Qe (by omega)
     have c1:=Zw kn i h2
     have c2:=Zw kn k h2
     have hs:=rS i k
     rw[hP] at hs
     by_cases e:gt im i=gt im k
     ·have g3:decide (gt im i=gt im k)=true:=Qe e
      rw[g3] at hs
      generalize decide ((i:Int)∈kn)=b1 at*
      generalize decide ((k:Int)∈kn)=b2 at*
      cases b1
      ·simp(disch:=omega)only[go_sem,g2,g3,al]
       refine QQ c1 ?_
       simp(disch:=omega)only[go_sem,al]
       exact⟨k+1,by simp [hs,k1];try omega,by omega,by omega⟩
      ·cases b2
       ·simp(disch:=omega)only[go_sem,g2,g3,al]
        refine QQ c1 ?_
        simp(disch:=omega)only[go_sem,al]
        refine QQ c2 ?_
        simp(disch:=omega)only[go_sem,al]
        exact⟨k+1,by simp [hs,k1];try omega,by omega,by omega⟩
       ·simp(disch:=omega)only[go_sem,g2,g3,al]
        refine QQ c1 ?_
        simp(disch:=omega)only[go_sem,al]
        refine QQ c2 ?_
        simp(disch:=omega)only[go_sem,al]
        exact⟨k+1,by simp [hs],by omega,by omega⟩
     ·have g3:decide (gt im i=gt im k)=false:=Qf e
      rw[g3] at hs
      simp(disch:=omega)only[go_sem,g2,g3,al]
      exact⟨k+1,by simp [hs],by omega,by omega⟩
    ·have g2:decide ((k:Int)<im.length)=false:=Qf (by omega)
     obtain rfl:k=im.length:=by omega
     simp(disch:=omega)only[go_sem,g2,al]
     exact⟨i+1,by simp [aS],by omega,by omega⟩
  ·have g1:decide ((i:Int)<im.length)=false:=Qf (by omega)
   obtain rfl:i=im.length:=by omega
   simp(disch:=omega)only[go_sem,g1]
theorem QuW(x:Cx)(he:cxE x=0):FC Tryz.prog 234 [cxD x] (.tup [.arr 2 (prs (idL x.m.n x.k.n)),.arr 2 (prs (idL x.m.e x.k.e))]) []:=by
 refine fo [[(6,none,[],true),(9,(some 384),[6],false),(12,(some 3072),[6],false)]] ?_
 conv in fnC ..=>reduce
 obtain⟨hm,hk⟩:=QbA he
 have vl:=XZ hm.va
 have l1:=hm.ln
 have l2:=hm.le
 have l3:=hk.len
 have r1:=Qlz x.m.n x.k.n (by omega) (by unfold QS;omega)
 have r2:=Qlz x.m.e x.k.e (by omega) (by unfold QS;omega)
 simp only[cxD]
 simp(disch:=omega)only[go_sem]
 refine QQ r1 ?_
 simp(disch:=omega)only[go_sem]
 refine QQ r2 ?_
 simp(disch:=omega)only[go_sem]
theorem QuX(x:Cx)(h1:x.m.n.length≤1000)(h2:x.k.n.length≤QS):FC Tryz.prog 324 [cxD x] (.arr 1 (QR (Xg x.m.n x.k.n))) []:=by
 refine fo [] ?_
 conv in fnC ..=>reduce
 obtain⟨⟨ln,le⟩,⟨gn,ge⟩,⟨kn,ke⟩,⟨mn,me⟩⟩:=x
 simp only at h1 h2
 have hl:=QdD mn kn
 have h0:Yt mn kn 0=[]:=rfl
 simp only[cxD]
 simp(disch:=omega)only[go_sem]
 refine Xj (fun i:Nat=>⟨[(1,.pt 0 0),(3,.sl 1 0 (Yt mn kn i).length),(8,.lst 1 (QR mn)),(9,.int .i64 mn.length),(10,.int .i64 i)],
  [(0,.box [.lst 1 (QR ln),.lst 3 (eds le),.lst 1 (QR gn),.lst 3 (eds ge),.lst 1 (QR kn),.lst 1 (QR ke),.lst 1 (QR mn),.lst 1 (QR me)]),(1,.arr 1 (QR (Yt mn kn i)))],2⟩) (fun i=>i≤mn.length) (fun i=>mn.length-i) 0 ?_ ?_ ?_
 ·simp(disch:=omega)only[go_sem,h0,Z2]
  rfl
 ·simp
 ·intro i hi
  have hli:=hl i
  by_cases c:i<mn.length
  ·have g1:decide ((i:Int)<mn.length)=true:=Qe (by omega)
   have r:=Zw kn i h2
   have hs:Yt mn kn (i+1)=if (i:Int)∈kn then Yt mn kn i else Yt mn kn i++[gt mn i]:=rfl
   by_cases d:(i:Int)∈kn
   ·rw[if_pos d] at hs
    rw[Qe d] at r
    simp(disch:=omega)only[go_sem,g1]
    refine QQ r ?_
    simp(disch:=omega)only[go_sem]
    exact⟨i+1,by simp [hs],by omega,by omega⟩
   ·rw[if_neg d] at hs
    rw[Qf d] at r
    simp(disch:=omega)only[go_sem,g1]
    refine QQ r ?_
    simp(disch:=omega)only[go_sem]
    exact⟨i+1,by simp [hs],by omega,by omega⟩
  ·have g1:decide ((i:Int)<mn.length)=false:=Qf (by omega)
   obtain rfl:i=mn.length:=by omega
   simp(disch:=omega)only[go_sem,g1]
   rfl
set_option maxHeartbeats 1000000 in
theorem QuY(x:Cx)(he:cxE x=0):FC Tryz.prog 235 [cxD x] (.arr 1 (QR (Y2 x))) []:=by
 refine fo [] ?_
 conv in fnC ..=>reduce
 obtain⟨hm,hk⟩:=QbA he
 have vl:=XZ hm.va
 have vg:=XZ hm.vb
 have l1:=hm.ln
 have l2:=hm.le
 have l3:=hk.len
 have r1:=QuX x (by omega) (by unfold QS;omega)
 have gl:=QdF x.m.n x.k.n
 have cM:=fun i=>Zw x.m.e i (by unfold QS;omega)
 have cG:=fun i=>Zw (Xg x.m.n x.k.n) i (by unfold QS;omega)
 have hD:Y2 x=sel (Za x.g (Xg x.m.n x.k.n) x.m.e) x.g.e.length:=rfl
 have hE:∀i,Za x.g (Xg x.m.n x.k.n) x.m.e i=(!decide ((i:Int)∈x.m.e)&&(decide ((gt x.g.e i).f∈Xg x.m.n x.k.n)||decide ((gt x.g.e i).o∈Xg x.m.n x.k.n))):=fun i=>rfl
 have sl:=YM (Za x.g (Xg x.m.n x.k.n) x.m.e)
 have ss:=J9 (Za x.g (Xg x.m.n x.k.n) x.m.e)
 have s0:=Qb7 (Za x.g (Xg x.m.n x.k.n) x.m.e)
 rw[hD]
 clear hm hk he hD vl
 generalize Za x.g (Xg x.m.n x.k.n) x.m.e=de at*
 generalize Xg x.m.n x.k.n=gone at*
 obtain⟨⟨ln,le⟩,⟨gn,ge⟩,⟨kn,ke⟩,⟨mn,me⟩⟩:=x
 simp only[cxD] at*
 simp(disch:=omega)only[go_sem]
 refine QQ r1 ?_
 simp(disch:=omega)only[go_sem]
 refine Xj (fun i:Nat=>⟨[(1,.pt 0 0),(3,.sl 1 0 gone.length),(4,.sl 2 0 (sel de i).length),(11,.lst 3 (eds ge)),(12,.int .i64 ge.length),(13,.int .i64 i)],
  [(0,.box [.lst 1 (QR ln),.lst 3 (eds le),.lst 1 (QR gn),.lst 3 (eds ge),.lst 1 (QR kn),.lst 1 (QR ke),.lst 1 (QR mn),.lst 1 (QR me)]),(1,.arr 1 (QR gone)),(2,.arr 1 (QR (sel de i)))],3⟩) (fun i=>i≤ge.length) (fun i=>ge.length-i) 0 ?_ ?_ ?_
 ·simp(disch:=omega)only[go_sem,s0,Z2]
  rfl
 ·simp
 ·intro i hi
  have sli:=sl i
  by_cases c:i<ge.length
  ·have g1:decide ((i:Int)<ge.length)=true:=Qe (by omega)
   have c1:=cM i
   have c2:=cG (gt ge i).f
   have c3:=cG (gt ge i).o
   have hs:=ss i
   rw[hE] at hs
   try simp only at hs
   generalize decide ((i:Int)∈me)=b1 at*
   generalize decide ((gt ge i).f∈gone)=b2 at*
   generalize decide ((gt ge i).o∈gone)=b3 at*
   cases b1
   ·cases b2
    ·cases b3
     ·simp(disch:=omega)only[go_sem,g1]
      refine QQ c1 ?_
      simp(disch:=omega)only[go_sem]
      refine QQ c2 ?_
      simp(disch:=omega)only[go_sem]
      refine QQ c3 ?_
      simp(disch:=omega)only[go_sem]
      exact⟨i+1,by simp [hs],by omega,by omega⟩
     ·simp(disch:=omega)only[go_sem,g1]
      refine QQ c1 ?_
      simp(disch:=omega)only[go_sem]
      refine QQ c2 ?_
      simp(disch:=omega)only[go_sem]
      refine QQ c3 ?_
      simp(disch:=omega)only[go_sem]
      exact⟨i+1,by simp [hs],by omega,by omega⟩
    ·simp(disch:=omega)only[go_sem,g1]
     refine QQ c1 ?_
     simp(disch:=omega)only[go_sem]
     refine QQ c2 ?_
     simp(disch:=omega)only[go_sem]
     exact⟨i+1,by simp [hs],by omega,by omega⟩
   ·simp(disch:=omega)only[go_sem,g1]
    refine QQ c1 ?_
    simp(disch:=omega)only[go_sem]
    exact⟨i+1,by simp [hs],by omega,by omega⟩
  ·have g1:decide ((i:Int)<ge.length)=false:=Qf (by omega)
   obtain rfl:i=ge.length:=by omega
   simp(disch:=omega)only[go_sem,g1]
   try rfl
theorem QlA(n:Nat)(im kn:List Int)(hn:n≤1000)(h1:im.length≤1000)(h2:kn.length≤QS)(hb:∀v∈im,0≤v∧v<n):FC Tryz.prog 236 [.int .i64 n,.lst 1 (QR im),.lst 1 (QR kn)] (.arr 1 (QR (Yu n (Xg im kn)))) []:=by
 refine fo [] ?_
 conv in fnC ..=>reduce
 have hR:Yu n (Xg im kn)=sel (fun i:Nat=>!decide ((i:Int)∈Xg im kn)) n:=rfl
 have sl:=YM (fun i:Nat=>!decide ((i:Int)∈Xg im kn))
 have ss:=J9 (fun i:Nat=>!decide ((i:Int)∈Xg im kn))
 have s0:=Qb7 (fun i:Nat=>!decide ((i:Int)∈Xg im kn))
 rw[hR]
 clear hR
 generalize hS:sel (fun i:Nat=>!decide ((i:Int)∈Xg im kn))=S at*
 simp(disch:=omega)only[go_sem]
 refine Xj (fun s:Nat×List Bool=>⟨[(2,.lst 1 (QR kn)),(7,.sl 0 0 n),(15,.lst 1 (QR im)),(16,.int .i64 im.length),(17,.int .i64 s.1)],[(0,.arr 1 (bls s.2))],1⟩) (fun s=>s.1≤im.length∧s.2.length=n∧∀k:Nat,k<n→gt s.2 k=decide ((k:Int)∈Yt im kn s.1)) (fun s=>im.length-s.1) (0,List.replicate n false) ?_ ?_ ?_
 ·simp(disch:=omega)only[go_sem]
  rfl
 ·refine⟨by simp,by simp,fun k hk=>?_⟩
  rw[QV (by simpa using hk)]
  simp [Yt]
 ·rintro⟨i,z⟩ ⟨i1,i2,i3⟩
  simp only at i1 i2 i3
  by_cases c:i<im.length
  ·have g1:decide ((i:Int)<im.length)=true:=Qe (by omega)
   have r:=Zw kn i h2
   have hbi:=hb _ (gt_mem (l:=im) (j:=i) (by omega) (by omega))
   by_cases d:(i:Int)∈kn
   ·rw[Qe d] at r
    simp(disch:=omega)only[go_sem,g1,i2]
    refine QQ r ?_
    simp(disch:=omega)only[go_sem,i2]
    refine⟨(i+1,z),by simp,⟨by simp only;omega,i2,fun k hk=>?_⟩,by simp only;omega⟩
    rw[i3 k hk]
    simp only[Yt,if_pos d]
   ·rw[Qf d] at r
    simp(disch:=omega)only[go_sem,g1,i2]
    refine QQ r ?_
    simp(disch:=omega)only[go_sem,i2]
    refine⟨(i+1,z.set (gt im i).toNat true),by simp,⟨by simp only;omega,by simp [i2],fun k hk=>?_⟩,by simp only;omega⟩
    simp only
    rw[QaK (by omega),i3 k hk]
    simp only[Yt,if_neg d,Qd,Qm]
    by_cases e:(gt im i).toNat=k
    ·have:(k:Int)=gt im i:=by omega
     simp [e,this]
    ·have:¬(k:Int)=gt im i:=by omega
     simp [e,this]
  ·have g1:decide ((i:Int)<im.length)=false:=Qf (by omega)
   obtain rfl:i=im.length:=by omega
   simp(disch:=omega)only[go_sem,g1,i2]
   refine Xj (fun i:Nat=>⟨[(10,.sl 0 0 (S i).length),(30,.sl 1 0 n),(31,.int .i64 n),(32,.int .i64 i)],[(0,.arr 1 (QR (S i))),(1,.arr 1 (bls z))],2⟩) (fun i=>i≤n) (fun i=>n-i) 0 ?_ ?_ ?_
   ·simp(disch:=omega)only[go_sem,s0,i2,Z2]
    rfl
   ·simp
   ·intro i hi
    have sli:=sl i
    by_cases c:i<n
    ·have g1:decide ((i:Int)<n)=true:=Qe (by omega)
     have hz:=i3 i c
     have hs:=ss i
     have hz2:(!gt z i)=!decide ((i:Int)∈Xg im kn):=by rw[hz];rfl
     rw[←hz2] at hs
     generalize hzb:gt z i=b at*
     cases b
     ·simp(disch:=omega)only[go_sem,g1,i2,hzb]
      exact⟨i+1,by simp [hs],by omega,by omega⟩
     ·simp(disch:=omega)only[go_sem,g1,i2,hzb]
      exact⟨i+1,by simp [hs],by omega,by omega⟩
    ·have g1:decide ((i:Int)<n)=false:=Qf (by omega)
     obtain rfl:i=n:=by omega
     simp(disch:=omega)only[go_sem,g1]
set_option maxHeartbeats 1000000 in
theorem QuZ(x:Cx)(hs:x.sm):FC Tryz.prog 141 [gD x.l,gD x.g,mD x.k,mD x.m] (.tup [mA (cxR x).1,.int .i64 (cxR x).2]) []:=by
 refine fo [[(7,none,[],true),(9,(some 256),[7],false),(12,(some 2048),[7],false),(14,(some 8192),[7],false)]] ?_
 conv in fnC ..=>reduce
 have r1:=QuV x hs
 have hR:cxR x=if cxE x≠0 then (m0,cxE x) else if 0<(idL x.m.n x.k.n).length+(idL x.m.e x.k.e).length then (m0,15) else if 0<(Y2 x).length then (m0,14) else (⟨Yu x.g.n.length (Xg x.m.n x.k.n),Yu x.g.e.length (Xg x.m.e x.k.e)⟩,0):=rfl
 by_cases c:cxE x=0
 case neg=>
  rw[if_pos c] at hR
  rw[hR]
  generalize cxE x=v at*
  simp only[gD,mD,cxD] at*
  simp(disch:=omega)only[go_sem]
  refine QQ r1 ?_
  simp(disch:=omega)only[go_sem,c]
  simp [m0,mA,QR]
 rw[if_neg (by simp [c])] at hR
 obtain⟨hm,hk⟩:=QbA c
 have vl:=XZ hm.va
 have vg:=XZ hm.vb
 have l1:=hm.ln
 have l2:=hm.le
 have bd:=Qrk (mok.2 hm)
 have r2:=QuW x c
 have r3:=QuY x c
 have r4:=QlA x.g.n.length x.m.n x.k.n (by omega) (by omega) hs.1 bd.1
 have r5:=QlA x.g.e.length x.m.e x.k.e (by omega) (by omega) hs.2 bd.2
 have q1:=QdG (im:=x.m.n) (kn:=x.k.n) (by omega)
 have q2:=QdG (im:=x.m.e) (kn:=x.k.e) (by omega)
 have q3:=QjY x
 rw[c] at r1
 clear hm hk bd vl l1 l2 c
 generalize idL x.m.n x.k.n=i1 at*
 generalize idL x.m.e x.k.e=i2 at*
 generalize Y2 x=d at*
 generalize Yu x.g.n.length (Xg x.m.n x.k.n)=s1 at*
 generalize Yu x.g.e.length (Xg x.m.e x.k.e)=s2 at*
 simp only[gD,mD,cxD] at*
 by_cases c1:0<i1.length+i2.length
 ·rw[if_pos c1] at hR
  rw[hR]
  have g1:decide ((0:Int)<(i1.length:Int)+i2.length)=true:=Qe (by omega)
  simp(disch:=omega)only[go_sem]
  refine QQ r1 ?_
  simp(disch:=omega)only[go_sem]
  refine QQ r2 ?_
  simp(disch:=omega)only[go_sem,g1]
  simp [m0,mA,QR]
 rw[if_neg c1] at hR
 have g1:decide ((0:Int)<(i1.length:Int)+i2.length)=false:=Qf (by omega)
 by_cases c2:0<d.length
 ·rw[if_pos c2] at hR
  rw[hR]
  have g2:decide ((0:Int)<(d.length:Int))=true:=Qe (by omega)
  simp(disch:=omega)only[go_sem]
  refine QQ r1 ?_
  simp(disch:=omega)only[go_sem]
  refine QQ r2 ?_
  simp(disch:=omega)only[go_sem,g1]
  refine QQ r3 ?_
  simp(disch:=omega)only[go_sem,g2]
  simp [m0,mA,QR]
 rw[if_neg c2] at hR
 rw[hR]
 have g2:decide ((0:Int)<(d.length:Int))=false:=Qf (by omega)
 simp(disch:=omega)only[go_sem]
 refine QQ r1 ?_
 simp(disch:=omega)only[go_sem]
 refine QQ r2 ?_
 simp(disch:=omega)only[go_sem,g1]
 refine QQ r3 ?_
 simp(disch:=omega)only[go_sem,g2]
 refine QQ r4 ?_
 simp(disch:=omega)only[go_sem]
 refine QQ r5 ?_
 simp(disch:=omega)only[go_sem]
 try rfl
theorem QlB(n:Nat)(cs:List Int)(h1:n≤1000000)(h2:cs.length≤QS)(h3:∀v∈cs,XA v):FC Tryz.prog 110 [.int .i64 n,.lst 1 (u8s cs)] (.arr 1 (QR (ZP n cs (min n cs.length)))) []:=by
 refine fo [[]] ?_
 conv in fnC ..=>reduce
 unfold QS at h2
 have hl:=Qf7 n cs
 simp(disch:=omega)only[go_sem]
 refine QQ (QrF _ _ (by omega) (by omega) (by omega)) ?_
 simp(disch:=omega)only[go_sem,Yp]
 refine Xj (fun i:Nat=>⟨[(0,D.int IntKind.i64 n),(1,D.lst 1 (u8s cs)),(5,D.sl 0 0 n),(6,D.int IntKind.i64 i)],[(0,Ent.arr 1 (QR (ZP n cs i)))],1⟩) (fun i=>i≤n∧i≤cs.length) (fun i=>n-i) 0 ?_ ?_ ?_
 ·simp(disch:=omega)only[go_sem,Yp]
  rfl
 ·simp
 ·rintro i ⟨hi,hi2⟩
  have hli:=hl i
  simp(disch:=omega)only[go_sem]
  refine QT (fun c=>?_) (fun c=>?_)
  ·simp(disch:=omega)only[go_sem,c]
   refine QT (fun c2=>?_) (fun c2=>?_)
   ·have ho:=h3 _ (gt_mem (l:=cs) (j:=i) (by omega) (by omega))
    have hb:=Qjo (x:=gt cs i) (m:=(n:Int)-i) ho.1 (by omega)
    have hwr:IntKind.i64.wrap (gt cs i)=gt cs i:=wrap_i64 (by have:=ho.1;omega) (by have:=ho.2;omega)
    have hz:¬((n:Int)-i=0):=by omega
    have hsh:(i:Int)+(gt cs i).tmod ((n:Int)-i)=((QaO n cs i:Nat):Int):=by unfold QaO;omega
    have hsk:QaO n cs i<n:=by omega
    have hsl:((ZP n cs i).set i (gt (ZP n cs i) (QaO n cs i:Int))).length=n:=by rw[QN,hli]
    simp(disch:=omega)only[go_sem,hli,hwr,hz,hsh]
    exact⟨i+1,by simp [ZP,QdI],by omega,by omega⟩
   ·simp(disch:=omega)only[go_sem]
    rw[show min n cs.length=i by omega]
  ·simp(disch:=omega)only[go_sem,c]
   rw[show min n cs.length=i by omega]
theorem QlC(l:List Int)(n:Nat)(hp:PermI l n)(hn:n≤1000):FC Tryz.prog 191 [.lst 1 (QR l)] (.int .i64 0) []:=by
 refine fo [[]] ?_
 conv in fnC ..=>reduce
 obtain⟨hl,hb,hj⟩:=hp
 subst hl
 simp(disch:=omega)only[go_sem]
 refine Xj (fun i:Nat=>⟨[(0,.lst 1 (QR l)),(3,.int .i64 i)],[],0⟩) (fun i=>i≤l.length) (fun i=>l.length-i) 0 ?_ ?_ ?_
 ·simp(disch:=omega)only[go_sem]
  rfl
 ·simp
 ·intro i hi
  by_cases c:i<l.length
  ·have g1:decide ((i:Int)<l.length)=true:=Qe (by omega)
   obtain⟨b1,b2⟩:=hb i c
   have g2:decide (gt l i<0)=false:=Qf (by omega)
   have g3:decide ((l.length:Int)≤gt l i)=false:=Qf (by omega)
   simp(disch:=omega)only[go_sem,g1,g2,g3]
   exact⟨i+1,by simp,by omega,by omega⟩
  ·have g1:decide ((i:Int)<l.length)=false:=Qf (by omega)
   simp(disch:=omega)only[go_sem,g1]
   refine Xj (fun i:Nat=>⟨[(0,.lst 1 (QR l)),(4,.int .i64 i)],[],0⟩) (fun i=>i≤l.length) (fun i=>l.length-i) 0 ?_ ?_ ?_
   ·simp(disch:=omega)only[go_sem]
    rfl
   ·simp
   ·intro i hi
    by_cases c:i<l.length
    ·have g1:decide ((i:Int)<l.length)=true:=Qe (by omega)
     simp(disch:=omega)only[go_sem,g1]
     refine Xj (fun k:Nat=>⟨[(0,.lst 1 (QR l)),(4,.int .i64 i),(5,.int .i64 k)],[],0⟩) (fun k=>k≤i) (fun k=>i-k) 0 ?_ ?_ ?_
     ·simp(disch:=omega)only[go_sem]
      rfl
     ·simp
     ·intro k hk
      by_cases d:k<i
      ·have g2:decide ((k:Int)<i)=true:=Qe (by omega)
       have g3:decide (gt l i=gt l k)=false:=Qf (fun e=>by have:=hj i k c (by omega) e;omega)
       simp(disch:=omega)only[go_sem,g2,g3]
       exact⟨k+1,by simp,by omega,by omega⟩
      ·have g2:decide ((k:Int)<i)=false:=Qf (by omega)
       simp(disch:=omega)only[go_sem,g2]
       exact⟨i+1,by simp,by omega,by omega⟩
    ·have g1:decide ((i:Int)<l.length)=false:=Qf (by omega)
     simp(disch:=omega)only[go_sem,g1]
set_option maxHeartbeats 2000000 in
theorem Qu0(g:G)(m:Mo)(v:QZ g=0)(p1:PermI m.n g.n.length)(p2:PermI m.e g.e.length):FC Tryz.prog 111 [gD g,mD m] (.tup [gA (reO g m),.int .i64 0]) []:=by
 refine fo [[],[]] ?_
 conv in fnC ..=>reduce
 have vs:=XZ v
 have r1:=Jn g
 rw[v] at r1
 have r2:=QlC m.n _ p1 (by omega)
 have r3:=QlC m.e _ p2 (by omega)
 have r4:=QaJ g (by omega) (by omega)
 have hef:∀i:Nat,i<g.e.length→(0≤(gt g.e i).f∧(gt g.e i).f<g.n.length)∧(0≤(gt g.e i).o∧(gt g.e i).o<g.n.length):=fun i hi=>(Zj v (i:=i) (by omega)).2
 have hr:∀i:Nat,i<g.e.length→gt (reE m.n g.e) i=⟨(gt g.e i).t,gt m.n (gt g.e i).f,gt m.n (gt g.e i).o⟩:=fun i hi=>QjP hi
 have hG:reO g m=⟨YA g.n m.n g.n g.n.length,YA (reE m.n g.e) m.e g.e g.e.length⟩:=rfl
 rw[hG]
 clear hG
 generalize reE m.n g.e=re at*
 obtain⟨l1,b1,_⟩:=p1
 obtain⟨l2,b2,_⟩:=p2
 obtain⟨gn,ge⟩:=g
 obtain⟨mn,me⟩:=m
 simp only[gD,gA,mD,mA] at*
 have k1:decide ((mn.length:Int)=gn.length)=true:=Qe (by omega)
 have k2:decide ((me.length:Int)=ge.length)=true:=Qe (by omega)
 have lN:∀i,(YA gn mn gn i).length=gn.length:=fun i=>Qai _ _ _ _
 have lE:∀i,(YA re me ge i).length=ge.length:=fun i=>Qai _ _ _ _
 simp(disch:=omega)only[go_sem]
 refine QQ r1 ?_
 simp(disch:=omega)only[go_sem,k1,k2]
 refine QQ r2 ?_
 simp(disch:=omega)only[go_sem]
 refine QQ r3 ?_
 simp(disch:=omega)only[go_sem]
 refine QQ r4 ?_
 simp(disch:=omega)only[go_sem]
 refine Xj (fun i:Nat=>⟨[(2,.pt 0 0),(3,.pt 1 0),(4,.pt 4 0),(9,.pt 7 0),(10,.int .i64 i)],
  [(0,.box [.lst 1 (QR gn),.lst 3 (eds ge)]),(1,.box [.lst 1 (QR mn),.lst 1 (QR me)]),(2,.arr 1 []),(3,.arr 3 []),(4,.box [.sl 2 0 0,.sl 3 0 0]),
   (5,.arr 1 (QR (YA gn mn gn i))),(6,.arr 3 (eds ge)),(7,.box [.sl 5 0 gn.length,.sl 6 0 ge.length])],8⟩) (fun i=>i≤gn.length) (fun i=>gn.length-i) 0 ?_ ?_ ?_
 ·simp(disch:=omega)only[go_sem,YA]
  rfl
 ·simp
 ·intro i hi
  have lNi:=lN i
  by_cases c:i<gn.length
  ·have g1:decide ((i:Int)<gn.length)=true:=Qe (by omega)
   have hs:YA gn mn gn (i+1)=(YA gn mn gn i).set (gt mn i).toNat (gt gn i):=rfl
   obtain⟨c1,c2⟩:=b1 i c
   generalize YA gn mn gn i=sn at*
   simp(disch:=omega)only[go_sem,g1,lNi]
   exact⟨i+1,by simp [hs],by omega,by omega⟩
  ·have g1:decide ((i:Int)<gn.length)=false:=Qf (by omega)
   obtain rfl:i=gn.length:=by omega
   simp(disch:=omega)only[go_sem,g1,lNi]
   generalize YA gn mn gn gn.length=on at*
   refine Xj (fun i:Nat=>⟨[(2,.pt 0 0),(3,.pt 1 0),(4,.pt 4 0),(9,.pt 7 0),(11,.int .i64 i)],
    [(0,.box [.lst 1 (QR gn),.lst 3 (eds ge)]),(1,.box [.lst 1 (QR mn),.lst 1 (QR me)]),(2,.arr 1 []),(3,.arr 3 []),(4,.box [.sl 2 0 0,.sl 3 0 0]),
     (5,.arr 1 (QR on)),(6,.arr 3 (eds (YA re me ge i))),(7,.box [.sl 5 0 gn.length,.sl 6 0 ge.length])],8⟩) (fun i=>i≤ge.length) (fun i=>ge.length-i) 0 ?_ ?_ ?_
   ·simp(disch:=omega)only[go_sem,YA,lNi]
    rfl
   ·simp
   ·intro i hi
    have lEi:=lE i
    by_cases c:i<ge.length
    ·have g1:decide ((i:Int)<ge.length)=true:=Qe (by omega)
     have hs:YA re me ge (i+1)=(YA re me ge i).set (gt me i).toNat (gt re i):=rfl
     rw[hr i c] at hs
     obtain⟨⟨f1,f2⟩,o1,o2⟩:=hef i c
     obtain⟨c1,c2⟩:=b2 i c
     generalize YA re me ge i=se at*
     simp(disch:=omega)only[go_sem,g1,lEi]
     exact⟨i+1,by simp [hs],by omega,by omega⟩
    ·have g1:decide ((i:Int)<ge.length)=false:=Qf (by omega)
     obtain rfl:i=ge.length:=by omega
     simp(disch:=omega)only[go_sem,g1,lNi,lEi]
     try rfl
section
variable {t:Ty}
theorem QlD(h:TyOk t){r:Ru}(hr:RuOk t r){x:Hs}(hx:HsOk t x):FT 127 [tyD t,Q6 r,hsD x] (.int .i64 0):=by
 have l:=QX hx.g
 have l1:=hx.ln
 have r1:=Quq h hr
 have r2:=Qgk h hx
 simp only[tyD,Q6,ruL,paL,fbE,cyL,hsD,hsL,List.cons_append,List.nil_append] at r1 r2
 refine fo [] ?_
 conv in fnC ..=>reduce
 simp(disch:=omega)only[go_sem,ayS,Q6,ruL,tyD,paL,fbE,cyL,hsD,hsL]
 refine QQ r1 ?_
 simp(disch:=omega)only[go_sem,ayS]
 refine QQ r2 ?_
 simp(disch:=omega)only[go_sem,ayS]
theorem Qu1(h:TyOk t){r:Ru}(hr:RuOk t r){x:Hs}(hx:HsOk t x):FT 63 [tyD t,Q6 r,hsD x] (.int .i64 0):=by
 have l:=QX hx.g
 have l1:=hx.ln
 have r0:=Qal h
 have r1:=QuO h hr
 have r2:=QdR h hx
 simp only[tyD,Q6,ruL,paL,fbE,cyL,hsD,hsL,List.cons_append,List.nil_append] at r0 r1 r2
 refine fo [] ?_
 conv in fnC ..=>reduce
 simp(disch:=omega)only[go_sem,ayS,Q6,ruL,tyD,paL,fbE,cyL,hsD,hsL]
 refine QQ r0 ?_
 simp(disch:=omega)only[go_sem,ayS]
 refine QQ r1 ?_
 simp(disch:=omega)only[go_sem,ayS]
 refine QQ r2 ?_
 simp(disch:=omega)only[go_sem,ayS]
theorem QlE(m trk:List Int)(hm:m.length≤1000)(ht:trk.length≤1000)(hb:∀i:Nat,i<m.length→0≤gt m (i:Int)∧gt m (i:Int)<trk.length):FT 131 [.lst 1 (QR m),.lst 1 (QR trk)] (.arr 1 (QR (thr m trk))):=by
 refine fo [] ?_
 conv in fnC ..=>reduce
 simp(disch:=omega)only[go_sem]
 refine Q8 6 m.length (fun i=>[(5,.sl 0 0 i)]) (fun i=>[(0,.arr 1 (QR (thr (m.take i) trk)))]) (fun _=>True) (by simp(disch:=omega)only[go_sem];rfl) trivial fun i hi _=>?_
 have hl:(thr (m.take i) trk).length=i:=by simp [thr];omega
 simp(disch:=omega)only[go_sem]
 refine QT (fun c=>?_) (fun c=>?_)
 ·obtain⟨b1,b2⟩:=hb i (by omega)
  simp(disch:=omega)only[go_sem,ayS,hl]
  exact⟨i+1,by rw[Xm (by omega)];simp [thr],by omega,by omega⟩
 ·obtain rfl:i=m.length:=by omega
  rw[List.take_length] at*
  simp(disch:=omega)only[go_sem,ayS,hl]
theorem QlF(l:List Int)(hl:l.length≤1000)(x:Int):FT 214 [.lst 1 (QR l),.int .i64 x] (.bool (!decide (x∈l))):=by
 refine fo [] ?_
 conv in fnC ..=>reduce
 simp(disch:=omega)only[go_sem]
 refine Q8 5 l.length (fun _=>[]) (fun _=>[]) (fun i=>decide (x∈l)=decide (x∈l.drop i)) rfl rfl fun i hi hI=>?_
 simp(disch:=omega)only[go_sem]
 refine QT (fun c=>?_) (fun c=>?_)
 ·have hd:l.drop i=gt l (i:Int)::l.drop (i+1):=by rw[List.drop_eq_getElem_cons (by omega),QV (by omega)]
  rw[hd] at hI
  simp only[Qh] at hI
  by_cases d:gt l (i:Int)=x
  ·simp only[d,true_or,decide_true] at hI
   simp(disch:=omega)only[go_sem,ayS,d,hI]
  ·have d':¬x=gt l (i:Int):=fun e=>d e.symm
   simp only[d',false_or] at hI
   simp(disch:=omega)only[go_sem,ayS,d]
   exact⟨i+1,by simp,⟨by omega,hI⟩,by omega⟩
 ·obtain rfl:i=l.length:=by omega
  rw[List.drop_length] at hI
  simp only[List.not_mem_nil,decide_false] at hI
  simp(disch:=omega)only[go_sem,ayS,hI]
theorem Qd5{l:List Int}{k:Int}:∀n:Nat,(∀j:Nat,j<n→gt l (j:Int)≠k)→YP l k n= -1
 |0,_=>rfl
 |n+1,h=>by
  rw[YP,if_neg (h n (by omega))]
  exact Qd5 n fun j hj=>h j (by omega)
theorem QaT{l:List Int}(hn:l.Nodup){j:Nat}(hj:j<l.length):idx (fun y=>decide (gt l (j:Int)=y)) l 0=j:=by
 by_cases e:idx (fun y=>decide (gt l (j:Int)=y)) l 0= -1
 ·have:=QdJ _ l 0 (by omega) e _ (gt_mem (l:=l) (j:=(j:Int)) (by omega) (by omega))
  simp at this
 ·obtain⟨k,h1,h2,h3,_⟩:=QbB _ l 0 e
  have h3:=of_decide_eq_true h3
  have:=Zi hn hj h2 h3
  omega
theorem Qgy{l:List Int}(hn:l.Nodup)(k:Int):YP l k l.length=idx (fun y=>decide (k=y)) l 0:=by
 by_cases hk:k∈l
 ·obtain⟨j,hj,rfl⟩:=Xk hk
  rw[QjO hn _ (Qg _) j hj,QaT hn hj]
 ·rw[Qd5 _ fun j hj e=>hk (by rw[←e];exact gt_mem (by omega) (by omega))]
  by_cases e:idx (fun y=>decide (k=y)) l 0= -1
  ·exact e.symm
  ·obtain⟨i,h1,h2,h3,_⟩:=QbB _ l 0 e
   have h3:=of_decide_eq_true h3
   exact absurd (by rw[h3];exact gt_mem (by omega) (by omega)) hk
theorem Qu2{d:List Int}{n:Nat}(hd:d.Pairwise (·<·)):Qah d n=Xy n d:=by
 unfold Qah Xy
 refine List.map_congr_left fun k _=>?_
 have hn:d.Nodup:=hd.imp fun h=>by omega
 by_cases c:(k:Int)∈d
 ·rw[if_pos c,Qgy hn,Qj8 hd c]
 ·rw[if_neg c,Qd5 _ fun j hj e=>c (by rw[←e];exact gt_mem (by omega) (by omega))]
theorem QlG{d:List Int}{n:Nat}(hd:d.Pairwise (·<·))(hl:d.length≤1000)(hn:n≤1000):FT 212 [.int .i64 n,.lst 1 (QR d)] (.arr 1 (QR (Xy n d))):=by
 have r:=Qkj d n (by omega) (by omega)
 rw[Qu2 hd] at r
 refine fo [] ?_
 conv in fnC ..=>reduce
 simp(disch:=omega)only[go_sem]
 refine QQ r ?_
 simp(disch:=omega)only[go_sem]
def Jq(keep into at_:List Int)(n:Nat)(i:Nat):Int:=if (i:Int)∈into then gt at_ (gt keep (idx (fun y=>decide ((i:Int)=y)) into 0)) else n+(Xq (crL i into) i:Int)
theorem QlH(n:Nat)(l:List Int):Xq (crL n l) n=(crL n l).length:=by
 unfold Xq
 rw[List.filter_eq_self.2 fun x hx=>?_]
 obtain⟨k,h,rfl,_⟩:=Qgv hx
 simp;exact h
theorem QlI{keep into at_:List Int}{cn n:Nat}(hc:cn≤1000)(hn:n≤1000)(hi:into.length≤1000)(hd:into.Nodup)(hk:keep.length=into.length)(ha:at_.length≤1000)(hb:∀i:Nat,i<keep.length→0≤gt keep (i:Int)∧gt keep (i:Int)<at_.length):
  FT 132 [.lst 1 (QR keep),.lst 1 (QR into),.int .i64 cn,.lst 1 (QR at_),.int .i64 n] (.arr 1 (QR ((List.range cn).map (Jq keep into at_ n)))):=by
 have r:=Qkj into cn (by omega) (by omega)
 refine fo [] ?_
 conv in fnC ..=>reduce
 simp(disch:=omega)only[go_sem]
 refine QQ r ?_
 simp(disch:=omega)only[go_sem]
 refine Q8 13 cn (fun i=>[(12,.sl 1 0 i),(4,.int .i64 (n+(crL i into).length))]) (fun i=>[(1,.arr 1 (QR ((List.range i).map (Jq keep into at_ n))))]) (fun _=>True) (by simp(disch:=omega)only[go_sem,show ((crL 0 into).length:Int)=0 from rfl,Int.add_zero];rfl) trivial fun i hi _=>?_
 have hl:((List.range i).map (Jq keep into at_ n)).length=i:=by simp
 have hs:=Qap i into
 have hcl:(crL i into).length≤i:=YM _ _
 have bl:=QrJ into cn
 simp(disch:=omega)only[go_sem]
 refine QT (fun c=>?_) (fun c=>?_)
 ·have e:=QrK (l:=into) (n:=cn) (k:=i) (by omega)
  rw[Qgy hd] at e
  have eg:∀v,Jq keep into at_ n i=v→(List.range (i+1)).map (Jq keep into at_ n)=(List.range i).map (Jq keep into at_ n)++[v]:=fun v h=>by rw[List.range_succ,List.map_append,List.map_cons,List.map_nil,h]
  by_cases d:(i:Int)∈into
  ·obtain⟨j,hj,hji⟩:=Xk d
   have e2:=QaT hd hj
   have hji:gt into (j:Int)=i:=by first|exact hji|exact hji.symm
   rw[hji] at e2
   rw[e2] at e
   obtain⟨b1,b2⟩:=hb j (by omega)
   have eg:=eg _ (by unfold Jq;rw[if_pos d,e2])
   rw[if_pos (Qe d)] at hs
   simp(disch:=omega)only[go_sem,ayS,e,bl,hl]
   exact⟨i+1,by simp [eg,hs],by omega,by omega⟩
  ·have e2:idx (fun y=>decide ((i:Int)=y)) into 0= -1:=by
    rw[←Qgy hd]
    exact Qd5 _ fun j hj e=>d (by rw[←e];exact gt_mem (by omega) (by omega))
   rw[e2] at e
   have eg:=eg _ (by unfold Jq;rw[if_neg d,QlH])
   rw[if_neg (by simp [d])] at hs
   simp(disch:=omega)only[go_sem,ayS,e,bl,hl]
   exact⟨i+1,by simp [eg,hs];omega,by omega,by omega⟩
 ·obtain rfl:i=cn:=by omega
  simp(disch:=omega)only[go_sem,ayS,hl]
end
theorem Qd6{p:Pa}{x:Hs}{m:Mo}{v:List Int}(h:XC p x m=(v,0)):v.length=p.v.toNat:=by
 have key:∀(l:List Slo)(vk:List Int×List Bool),(ZE x m l vk).1.1.length=vk.1.length:=by
  intro l
  induction l with
  |nil=>exact fun vk=>rfl
  |cons s l ih=>
   intro vk
   rw[Qcn]
   have:(Zq x m s vk).1.length=vk.1.length:=by unfold Zq;split<;>simp
   split
   ·exact this
   ·rw[ih,this]
 unfold XC at h
 simp only at h
 split at h
 ·simp at h
 ·split at h
  ·have h:=(Prod.mk.inj h).1
   rw[←h,key];simp
  ·simp at h
section
variable {t:Ty}
theorem Qu3(h:TyOk t){r:Ru}(hr:RuOk t r){x:Hs}(hx:HsOk t x){mt:Mt}(hm:SmOk t r.l.g x.g mt.m)(hj:r.inj=true→mt.m.n.Nodup∧mt.m.e.Nodup)(hs:XC r.l x mt.m=(mt.v,0)):
  ∃(d:Mo) (e:Int),FT 129 [tyD t,Q6 r,hsD x,mtD mt] (.tup [mA d,.int .i64 e])∧(e=0→cxR (stX r x mt.m)=(d,0)∧ZQ t x r.inj mt.m r.c):=by
 have ln:=hm.ln
 have le:=hm.le
 have l1:=QX hr.l.g
 have l2:=QX hx.g
 have l3:=hx.ln
 have lk:=hr.k.len
 have hv:=Qd6 hs
 have hvv:=hr.l.v
 have r1:=Qgg h hr.l.g hx.g hr.l.ty hx.ty hm r.inj hj
 have r2:=QtF h hr.l hx hm
 rw[hs] at r2
 have r3:=QrI mt.v mt.v (by unfold QS;omega)
 rw[Qe rfl] at r3
 have r4:=Qs0 h hr.l.g hx.g hr.l.ty hx.ty hm
 have r5:=QuU (stX r x mt.m) ⟨by unfold QS;simp only[stX];omega,by unfold QS;simp only[stX];omega⟩
 have r6:=Quc h hr.l hx hr.c hm hv r.inj
 have li:(XD r.l.g x.g mt.m).n.length≤40∧(XD r.l.g x.g mt.m).e.length≤80:=by simp only[XD,thr,QC];omega
 simp only[stX,gD,mD,gA,mA,tyD,paD,paL,hsD,hsL,mtD,mtL,fbD,fbE,cyL,List.cons_append,List.nil_append] at r1 r2 r4 r5 r6
 have hX:stX r x mt.m=⟨XD r.l.g x.g mt.m,x.g,r.k,mt.m⟩:=rfl
 rw[hX]
 clear hX
 generalize XD r.l.g x.g mt.m=X at*
 rcases hc:cxR ⟨X,x.g,r.k,mt.m⟩ with⟨d,e⟩
 rw[hc] at r5
 by_cases he:e=0
 case neg=>
  refine⟨m0,e,?_,fun e0=>absurd e0 he⟩
  refine fo [] ?_
  conv in fnC ..=>reduce
  simp(disch:=omega)only[go_sem,ayS,Q6,ruL,tyD,paL,fbE,cyL,hsD,hsL,mtD,mtL]
  refine QQ r1 ?_
  simp(disch:=omega)only[go_sem,ayS]
  refine QQ r2 ?_
  simp(disch:=omega)only[go_sem,ayS]
  refine QQ r3 ?_
  simp(disch:=omega)only[go_sem,ayS]
  refine QQ r4 ?_
  cases hfl:(eds X.e).all D.flatE<;>(
   simp(disch:=omega)only[go_sem,ayS,hfl]
   refine QQ r5 ?_
   simp(disch:=omega)only[go_sem,ayS,he]
   rfl)
 ·subst he
  rcases r6 with⟨f1,r6⟩|⟨e,he,r6⟩
  ·refine⟨d,0,?_,fun _=>⟨rfl,f1⟩⟩
   refine fo [] ?_
   conv in fnC ..=>reduce
   simp(disch:=omega)only[go_sem,ayS,Q6,ruL,tyD,paL,fbE,cyL,hsD,hsL,mtD,mtL]
   refine QQ r1 ?_
   simp(disch:=omega)only[go_sem,ayS]
   refine QQ r2 ?_
   simp(disch:=omega)only[go_sem,ayS]
   refine QQ r3 ?_
   simp(disch:=omega)only[go_sem,ayS]
   refine QQ r4 ?_
   cases hfl:(eds X.e).all D.flatE<;>(
    simp(disch:=omega)only[go_sem,ayS,hfl]
    refine QQ r5 ?_
    simp(disch:=omega)only[go_sem,ayS]
    refine QQ r6 ?_
    simp(disch:=omega)only[go_sem,ayS]
    rfl)
  ·refine⟨d,if e=0 then 16 else 3,?_,fun h0=>absurd h0 (by split<;>decide)⟩
   refine fo [] ?_
   conv in fnC ..=>reduce
   simp(disch:=omega)only[go_sem,ayS,Q6,ruL,tyD,paL,fbE,cyL,hsD,hsL,mtD,mtL]
   refine QQ r1 ?_
   simp(disch:=omega)only[go_sem,ayS]
   refine QQ r2 ?_
   simp(disch:=omega)only[go_sem,ayS]
   refine QQ r3 ?_
   simp(disch:=omega)only[go_sem,ayS]
   refine QQ r4 ?_
   cases hfl:(eds X.e).all D.flatE<;>(
    simp(disch:=omega)only[go_sem,ayS,hfl]
    refine QQ r5 ?_
    simp(disch:=omega)only[go_sem,ayS]
    refine QQ r6 ?_
    rcases he with rfl|rfl<;>(
     simp(disch:=omega)only[go_sem,ayS]
     rfl))
def XH(d:List Int)(v:List (List Int)):List (List Int):=d.map fun k=>gt v k
theorem Qu4(h:TyOk t){x:Hs}(hx:HsOk t x){d:Mo}(hd:PK x.g d):FT 211 [tyD t,hsD x,mD d] (.tup [.agg [.arr 1 (QR (ptG x.g d).n),.arr 3 (eds (ptG x.g d).e),.arr 1 (X8 (XH d.n x.v))],.int .i64 0]):=by
 have l:=QX hx.g
 have l1:=hx.ln
 have pl:=hd.len
 have r1:=Qgk h hx
 have r2:=Qgd x.g d hd.sm
 have e:exR x.g d=(ptG x.g d,d,0):=by unfold exR;rw[validP_ok.2 hd];rfl
 rw[e] at r2
 have hb:∀i:Nat,i<d.n.length→0≤gt d.n (i:Int)∧gt d.n (i:Int)<x.g.n.length:=fun i hi=>hd.n.b _ (gt_mem (by omega) (by omega))
 simp only[tyD,gD,mD,gA,mA,hsD,hsL] at r1 r2
 generalize ptG x.g d=X at*
 refine fo [[(1,none,[],true),(4,(some 8),[],false),(6,(some 32),[],false),(8,(some 224),[],false),(9,(some 480),[],false),(10,(some 1016),[],false),(11,(some 2040),[],false),(12,none,[1],false),(13,none,[1],false)]] ?_
 conv in fnC ..=>reduce
 simp(disch:=omega)only[go_sem,ayS,tyD,hsD,hsL,mD]
 refine QQ r1 ?_
 simp(disch:=omega)only[go_sem,ayS]
 refine QQ r2 ?_
 cases hfl:(eds X.e).all D.flatE<;>(
  simp(disch:=omega)only[go_sem,ayS,hfl]
  refine Q8 14 d.n.length (fun _=>[]) (fun i=>[(10,.arr 1 (X8 (XH (d.n.take i) x.v))),(11,.box [.sl 8 0 X.n.length,.sl 9 0 X.e.length,.sl 10 0 i])]) (fun _=>True) (by simp(disch:=omega)only[go_sem];rfl) trivial fun i hi _=>?_
  have hl:(XH (d.n.take i) x.v).length=i:=by simp [XH];omega
  simp(disch:=omega)only[go_sem]
  refine QT (fun c=>?_) (fun c=>?_)
  ·obtain⟨b1,b2⟩:=hb i (by omega)
   have hq:=hx.vl (gt d.n (i:Int)).toNat (by omega)
   have h6:=X7 h (hx.ty.of ⟨b1,b2⟩).2
   rw[Int.toNat_of_nonneg b1] at hq
   simp(disch:=omega)only[go_sem,ayS,hl,Qky]
   exact⟨i+1,by rw[Xm (by omega)];simp [XH],by omega,by omega⟩
  ·obtain rfl:i=d.n.length:=by omega
   rw[List.take_length] at*
   simp(disch:=omega)only[go_sem,ayS,hl])
theorem Qu5(h:TyOk t){x:Hs}(hx:HsOk t x){d:Mo}(hd:PK x.g d):FT 130 [tyD t,hsD x,mD d] (.tup [.agg [.arr 1 (QR (ptG x.g d).n),.arr 3 (eds (ptG x.g d).e),.arr 1 (X8 (XH d.n x.v))],.agg [.arr 1 (QR (Xy x.g.n.length d.n)),.arr 1 (QR (Xy x.g.e.length d.e))]]):=by
 have l:=QX hx.g
 have l1:=hx.ln
 have pl:=hd.len
 have r1:=Qu4 h hx hd
 have r2:=QlG (n:=x.g.n.length) hd.n.p (by omega) (by omega)
 have r3:=QlG (n:=x.g.e.length) hd.e.p (by omega) (by omega)
 have hl:(XH d.n x.v).length=d.n.length:=by simp [XH]
 simp only[tyD,mD,hsD,hsL] at r1
 generalize ptG x.g d=X at*
 generalize XH d.n x.v=V at*
 refine fo [[(0,none,[],true),(7,none,[0],true),(10,(some 768),[7],false),(13,(some 4096),[7],false),(14,none,[0],false)]] ?_
 conv in fnC ..=>reduce
 simp(disch:=omega)only[go_sem,ayS,tyD,hsD,hsL,mD]
 refine QQ r1 ?_
 cases hfl:(eds X.e).all D.flatE<;>cases hfr:(X8 V).all D.flatE<;>(
  simp(disch:=omega)only[go_sem,ayS,hfl,hfr]
  refine QQ r2 ?_
  simp(disch:=omega)only[go_sem,ayS]
  refine QQ r3 ?_
  simp(disch:=omega)only[go_sem,ayS])
end
def nsE:List (List Int)→Ent
 |[]=>.arr 1 []
 |v=>.nst 1 (nsL v) none
def nsD:List (List Int)→D
 |[]=>.arr 1 []
 |v=>.nst 1 (nsA v)
theorem Qcs{v:List (List Int)}(h:0<v.length):nsE v=.nst 1 (nsL v) none:=by cases v with|nil=>cases h|cons a v=>rfl
theorem ZR{v:List (List Int)}(h:0<v.length):nsD v=.nst 1 (nsA v):=by cases v with|nil=>cases h|cons a v=>rfl
theorem Qct{α:Type}[Inhabited α]{l:List α}{i:Nat}(h:i<l.length):l[i]?=some (gt l (i:Int)):=by rw[Qn h,QV h]
section
variable {t:Ty}
theorem Qu6(g:G)(v:List (List Int))(h1:g.n.length≤1000)(h2:g.e.length≤1000)(h3:v.length≤1000)(h4:∀r∈v,r.length≤1000):FT 134 [.agg [.lst 1 (QR g.n),.lst 3 (eds g.e),.lst 1 (nsF v)]] (.agg [.arr 1 (QR g.n),.arr 3 (eds g.e),nsD v]):=by
 have r1:=QaJ g (by omega) (by omega)
 simp only[gD,gA] at r1
 refine fo [[(1,none,[],true),(4,(some 8),[],false),(6,(some 56),[],false),(7,(some 120),[],false),(8,none,[1],false),(9,none,[1],false)]] ?_
 conv in fnC ..=>reduce
 simp(disch:=omega)only[go_sem,ayS]
 refine QQ r1 ?_
 simp(disch:=omega)only[go_sem,ayS]
 refine Q8 4 v.length (fun _=>[]) (fun i=>[(7,nsE (v.take i)),(8,.box [.sl 5 0 g.n.length,.sl 6 0 g.e.length,.sl 7 0 i])]) (fun _=>True) (by simp(disch:=omega)only[go_sem];rfl) trivial fun i hi _=>?_
 rcases i with _|i
 ·simp(disch:=omega)only[go_sem,List.take_zero,nsE]
  refine QT (fun c=>?_) (fun c=>?_)
  ·have:=h4 _ (gt_mem (l:=v) (j:=((0:Nat):Int)) (by omega) (by omega))
   have hq:=Qct (l:=v) (i:=0) (by omega)
   simp(disch:=omega)only[go_sem,ayS,hq]
   exact⟨1,by rw[Xm (by omega)];simp [nsE,nsL],by omega,by omega⟩
  ·have hv:v=[]:=List.length_eq_zero_iff.1 (by omega)
   subst hv
   simp(disch:=omega)only[go_sem,ayS,nsD]
 ·have hl:(v.take (i+1)).length=i+1:=by simp;omega
  have hn:=Qcs (v:=v.take (i+1)) (by omega)
  have hn2:i+1<v.length→nsE (v.take (i+1+1))=.nst 1 (nsL (v.take (i+1+1))) none:=fun h=>Qcs (by simp;omega)
  have hd:=fun h=>ZR (v:=v) h
  simp(disch:=omega)only[go_sem,hn]
  refine QT (fun c=>?_) (fun c=>?_)
  ·have:=h4 _ (gt_mem (l:=v) (j:=((i+1:Nat):Int)) (by omega) (by omega))
   have hq:=Qct (l:=v) (i:=i+1) (by omega)
   simp(disch:=omega)only[go_sem,ayS,hl,hq]
   have e1:v.take (i+1+1)=v.take (i+1)++[gt v ((i+1:Nat):Int)]:=Xm (by omega)
   exact⟨i+1+1,by rw[hn2 (by omega),e1];simp,by omega,by omega⟩
  ·have e:v.length=i+1:=by omega
   have ht:v.take (i+1)=v:=Qq (by omega)
   rw[hd (by omega)]
   simp(disch:=omega)only[go_sem,ayS,ht,e]
end
end Go.Am
