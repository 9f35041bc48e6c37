/- Contracts and what they rest on: Ce. -/
import Derived.Test.YtgllpjliaepbdaaGreatCc
import Derived.Laws.Externs
import Derived.Test.YtgllpjliaepbdaaGreatCd
import Derived.Test.YtgllpjliaepbdaaGreatCa
set_option linter.unusedVariables false
set_option linter.unusedSimpArgs false
set_option linter.unnecessarySimpa false
open Go Go.Proofs
namespace Go.Am
set_option maxRecDepth 100000
attribute [local irreducible] W
theorem Qtq(x y:Int)(hx:0≤x)(hy:0≤y)(w:World):(callFunc 453 #[.int .u64 x,.int .u64 y,.int .u64 0]).run Tryz.prog w=
   .ok (.value (.tuple #[.int .u64 ((x+y+0)%18446744073709551616),.int .u64 ((x+y+0)/18446744073709551616)])) w:=by
 rw[run_callFunc_extern Tryz.func453 (by kernel_rfl) (by kernel_rfl) (by kernel_rfl) (e:=add64Entry) (by kernel_rfl),run_add64 x y 0 hx hy (by decide) (by decide)]
 rfl
theorem Qtr(a b:Int)(ha: -1000≤a∧a≤1000)(hb: -1000≤b∧b≤1000)(w:World):Calls Tryz.prog 426 #[.int .i64 a,.int .i64 b] w fun e w'=>e=.returned (.tuple #[.int .i64 (if a+b<0 then -1 else 0),.int .u64 ((a+b)%18446744073709551616)])∧w'=w:=by
 refine calls_of_wp Tryz.func426 rfl ?_
 have e1:IntKind.u64.wrap a=a%18446744073709551616:=rfl
 have e2:IntKind.u64.wrap b=b%18446744073709551616:=rfl
 have r:=Qtq (a%18446744073709551616) (b%18446744073709551616) (by omega) (by omega)
 go_wp2_with (simp only[r])
 all_goals refine bodyPost_ret (results_tmp2 rfl _ _ _) rfl ?_
 all_goals refine⟨?_,rfl⟩
 all_goals simp
 all_goals omega
theorem Qk2(a b:Int)(ha: -1000≤a∧a≤1000)(hb: -1000≤b∧b≤1000):FT 426 [.int .i64 a,.int .i64 b] (.tup [.int .i64 (if a+b<0 then -1 else 0),.int .u64 ((a+b)%18446744073709551616)]):=by
 have hb0:(Tryz.f426.body.isSome)=true:=by kernel_rfl
 obtain⟨body,hb0⟩:=Option.isSome_iff_exists.1 hb0
 refine⟨Qda Tryz.func426 (by kernel_rfl) hb0,fun w I vs os hI hnd hos hdr=>?_⟩
 simp only[DRs,DR] at hdr
 obtain⟨v,vs',o,o',rfl,rfl,⟨rfl,rfl⟩,v2,vs2,o2,o2',rfl,rfl,⟨rfl,rfl⟩,rfl,rfl⟩:=hdr
 refine (Qtr a b ha hb w).mono ?_
 rintro e w' ⟨rfl,rfl⟩
 refine⟨_,[],rfl,Stp.refl _ _,List.nodup_nil,by simp,?_⟩
 simp only[List.map_nil,DRs,DR]
 exact⟨_,[],[],[],rfl,rfl,⟨_,rfl,_,_,[],[],rfl,rfl,⟨rfl,rfl⟩,_,[],[],[],rfl,rfl,⟨rfl,rfl⟩,rfl,rfl⟩,rfl,rfl⟩
def cpI(a b:Int):Int:=if a<b then -1 else if b<a then 1 else 0
theorem Qk3(a:Int):FT 454 [.int .u64 a] (.bool false):=by
 refine fo [] ?_
 conv in fnC ..=>reduce
 simp(disch:=omega)only[go_sem,ayS]
theorem Qk4(a:Int):FT 337 [.int .i64 a] (.bool false):=by
 refine fo [] ?_
 conv in fnC ..=>reduce
 simp(disch:=omega)only[go_sem,ayS]
theorem Qts(a b:Int):FT 429 [.int .u64 a,.int .u64 b] (.int .i64 (cpI a b)):=by
 refine fo [] ?_
 conv in fnC ..=>reduce
 simp(disch:=omega)only[go_sem,ayS]
 refine QQ (Qk3 a) ?_
 simp(disch:=omega)only[go_sem,ayS]
 refine QQ (Qk3 b) ?_
 simp(disch:=omega)only[go_sem,ayS]
 unfold cpI
 refine QT (fun c=>?_) (fun c=>?_)
 ·simp(disch:=omega)only[go_sem,ayS,c]
 ·simp(disch:=omega)only[go_sem,ayS,c]
  refine QT (fun c=>?_) (fun c=>?_)
  ·simp(disch:=omega)only[go_sem,ayS,c]
  ·simp(disch:=omega)only[go_sem,ayS,c]
theorem Qtt(a b:Int):FT 428 [.int .i64 a,.int .i64 b] (.int .i64 (cpI a b)):=by
 refine fo [] ?_
 conv in fnC ..=>reduce
 simp(disch:=omega)only[go_sem,ayS]
 refine QQ (Qk4 a) ?_
 simp(disch:=omega)only[go_sem,ayS]
 refine QQ (Qk4 b) ?_
 simp(disch:=omega)only[go_sem,ayS]
 unfold cpI
 refine QT (fun c=>?_) (fun c=>?_)
 ·simp(disch:=omega)only[go_sem,ayS,c]
 ·simp(disch:=omega)only[go_sem,ayS,c]
  refine QT (fun c=>?_) (fun c=>?_)
  ·simp(disch:=omega)only[go_sem,ayS,c]
  ·simp(disch:=omega)only[go_sem,ayS,c]
theorem Qtu(a b:Int):FT 427 [.lst 1 (QR [a,b])] (.int .i64 (if a≠0 then a else b)):=by
 refine fo [] ?_
 conv in fnC ..=>reduce
 simp(disch:=omega)only[go_sem,ayS]
 refine Q8 8 2 (fun _=>[]) (fun _=>[]) (fun i=>(0<i→a=0)∧(1<i→b=0)) rfl ⟨fun h=>absurd h (by omega),fun h=>absurd h (by omega)⟩ fun i hi hI=>?_
 simp(disch:=omega)only[go_sem]
 refine QT (fun c=>?_) (fun c=>?_)
 ·have hc:i=0∨i=1:=by omega
  rcases hc with rfl|rfl
  ·have g0:(QR [a,b])[0]?=some (.int .i64 a):=rfl
   simp(disch:=omega)only[go_sem,ayS,g0]
   refine XY (fun d=>?_) (fun d=>?_)
   ·simp(disch:=omega)only[go_sem,ayS,d]
    try simp [d]
   ·simp(disch:=omega)only[go_sem,ayS]
    exact⟨1,by simp,⟨by omega,fun _=>d,fun h=>absurd h (by omega)⟩,by omega⟩
  ·have g0:(QR [a,b])[1]?=some (.int .i64 b):=rfl
   have ha:=hI.1 (by omega)
   simp(disch:=omega)only[go_sem,ayS,g0]
   refine XY (fun d=>?_) (fun d=>?_)
   ·simp(disch:=omega)only[go_sem,ayS,d,ha]
    try simp
   ·simp(disch:=omega)only[go_sem,ayS]
    exact⟨2,by simp,⟨by omega,fun _=>ha,fun _=>d⟩,by omega⟩
 ·obtain rfl:i=2:=by omega
  have ha:=hI.1 (by omega)
  have hb:=hI.2 (by omega)
  subst ha hb
  simp(disch:=omega)only[go_sem,ayS]
  try simp
def hiI(x:Int):Int:=if x<0 then -1 else 0
theorem Qtv{x y:Int}(hx: -2000≤x∧x≤2000)(hy: -2000≤y∧y≤2000):(if cpI (hiI x) (hiI y)≠0 then cpI (hiI x) (hiI y) else cpI (x%18446744073709551616) (y%18446744073709551616))=cpI x y:=by
 unfold cpI hiI
 repeat' split
 all_goals omega
theorem Qk5{vr ad:Int}{vs:List Int}(hl:vs.length≤100)(h1:TvOk vr ad vs):FT 425 [.agg [.int .i64 vr,.int .i64 ad],.ref [.lst 1 (QR vs)]] (.tup [.int .i64 (hiI (Q1 vr ad vs)),.int .u64 (Q1 vr ad vs%18446744073709551616),.bool true]):=by
 obtain⟨⟨b1,b2⟩,⟨b3,b4⟩,_⟩:=id h1
 by_cases c:vr= -1
 ·subst c
  have e:Q1 (-1) ad vs=ad:=by unfold Q1;rw[if_pos (by decide)]
  have r:=Qk2 0 ad (by omega) (by omega)
  rw[Int.zero_add] at r
  rw[e]
  refine fo [[]] ?_
  conv in fnC ..=>reduce
  simp(disch:=omega)only[go_sem,ayS]
  refine QQ r ?_
  simp(disch:=omega)only[go_sem,ayS]
  rfl
 ·have h0:0≤vr:=by omega
  have g:=h1.gt h0
  have e:Q1 vr ad vs=gt vs vr+ad:=by unfold Q1;rw[if_neg (by omega)]
  have r:=Qk2 (gt vs vr) ad g (by omega)
  rw[e]
  refine fo [[]] ?_
  conv in fnC ..=>reduce
  simp(disch:=omega)only[go_sem,ayS,c]
  refine QQ r ?_
  simp(disch:=omega)only[go_sem,ayS]
  rfl
theorem Qk6{vr ad:Int}{vs:List Int}(h:TvOk vr ad vs): -2000≤Q1 vr ad vs∧Q1 vr ad vs≤2000:=by
 obtain⟨_,⟨b3,b4⟩,_⟩:=id h
 unfold Q1
 split
 ·omega
 ·have:=h.gt (by omega);omega
theorem Qtw{x:Te}{vs:List Int}(hl:vs.length≤100)(h1:TvOk x.lv x.la vs)(h2:TvOk x.rv x.ra vs):FT 375 [teD x,.lst 1 (QR vs)] (.bool (teB vs x)):=by
 have r1:=Qk5 hl h1
 have r2:=Qk5 hl h2
 refine fo [] ?_
 conv in fnC ..=>reduce
 have r3:=Qtt (hiI (Q1 x.lv x.la vs)) (hiI (Q1 x.rv x.ra vs))
 have r4:=Qts (Q1 x.lv x.la vs%18446744073709551616) (Q1 x.rv x.ra vs%18446744073709551616)
 have r5:=Qtu (cpI (hiI (Q1 x.lv x.la vs)) (hiI (Q1 x.rv x.ra vs))) (cpI (Q1 x.lv x.la vs%18446744073709551616) (Q1 x.rv x.ra vs%18446744073709551616))
 rw[Qtv (Qk6 h1) (Qk6 h2)] at r5
 have hE:teB vs x=((decide (x.k=1)&&decide (cpI (Q1 x.lv x.la vs) (Q1 x.rv x.ra vs)≤0))||(decide (x.k=2)&&decide (cpI (Q1 x.lv x.la vs) (Q1 x.rv x.ra vs)=0))):=by
  unfold teB
  congr 2
  ·rw[decide_eq_decide];unfold cpI;split<;>(try split)<;>omega
  ·rw[decide_eq_decide];unfold cpI;split<;>(try split)<;>omega
 rw[hE]
 generalize cpI (Q1 x.lv x.la vs) (Q1 x.rv x.ra vs)=O at*
 generalize Q1 x.lv x.la vs=A at*
 generalize Q1 x.rv x.ra vs=B at*
 simp(disch:=omega)only[go_sem,ayS,teD]
 refine QQ r1 ?_
 simp(disch:=omega)only[go_sem,ayS]
 refine QQ r2 ?_
 simp(disch:=omega)only[go_sem,ayS]
 refine QQ r3 ?_
 simp(disch:=omega)only[go_sem,ayS]
 refine QQ r4 ?_
 simp(disch:=omega)only[go_sem,ayS]
 refine QQ r5 ?_
 by_cases k1:x.k=1
 ·by_cases o1:O≤0
  ·simp(disch:=omega)only[go_sem,ayS,k1,o1]
   try simp [k1,o1]
  ·simp(disch:=omega)only[go_sem,ayS,k1,o1]
   try simp [k1,o1]
 ·by_cases k2:x.k=2
  ·by_cases o2:O=0
   ·simp(disch:=omega)only[go_sem,ayS,k1,k2,o2]
    try simp [k1,k2,o2]
   ·simp(disch:=omega)only[go_sem,ayS,k1,k2,o2]
    try simp [k1,k2,o2]
  ·simp(disch:=omega)only[go_sem,ayS,k1,k2]
   try simp [k1,k2]
section
variable {t:Ty}
theorem tvs{p:Pa}(hp:PaOk t p){vs:List Int}(hl:vs.length=p.v.toNat)(hb:∀y∈vs, -200≤y∧y≤200){x:Te}(hx:x∈p.t):TvOk x.lv x.la vs∧TvOk x.rv x.ra vs:=by
 have ho:=hp.t x hx
 have hv:=hp.v
 have hb2:∀y∈vs, -1000≤y∧y≤1000:=fun y hy=>by have:=hb y hy;omega
 exact⟨⟨⟨ho.lv.1,by have:=ho.lv.2;omega⟩,ho.la,hb2⟩,⟨⟨ho.rv.1,by have:=ho.rv.2;omega⟩,ho.ra,hb2⟩⟩
set_option maxHeartbeats 4000000 in
theorem Qk7(h:TyOk t){p:Pa}(hp:PaOk t p){x:Hs}(hx:HsOk t x){m:Mo}(hm:SmOk t p.g x.g m):FT 205 [paD p,hsD x,mD m] (.tup [.arr 1 (QR (XC p x m).1),.int .i64 (XC p x m).2]):=by
 refine fo [[]] ?_
 conv in fnC ..=>reduce
 have lp:=QX hp.g
 have lg:=QX hx.g
 have ln:=hm.ln
 have hs:=hp.sl
 have ht:=hp.tl
 obtain⟨v1,v2⟩:=hp.v
 generalize hR:XC p x m=R
 simp(disch:=omega)only[go_sem,ayS,paD,paL,hsD,hsL,mD]
 refine Yw (fun a:Nat×List Int×List Bool=>[(10,.int .i64 a.1)]) (fun a=>[(3,.arr 1 (QR a.2.1)),(4,.arr 1 (bls a.2.2))])
  (fun a=>a.1≤p.s.length∧a.2.1.length=p.v.toNat∧a.2.2.length=p.v.toNat∧(∀y∈a.2.1, -200≤y∧y≤200)∧ZE x m p.s (List.replicate p.v.toNat 0,List.replicate p.v.toNat false)=ZE x m (p.s.drop a.1) a.2)
  (fun a=>p.s.length-a.1) (0,List.replicate p.v.toNat 0,List.replicate p.v.toNat false) ?_ ⟨by simp,by simp,by simp,fun y hy=>by have:=List.eq_of_mem_replicate hy;omega,rfl⟩ ?_
 ·simp(disch:=omega)only[go_sem]
  simp
 rintro⟨i,vs,kn⟩ ⟨hi,h1,h2,h3,hI⟩
 simp only at hi h1 h2 h3 hI
 simp(disch:=omega)only[go_sem]
 refine QT (fun c=>?_) (fun c=>?_)
 ·have hgm:=gt_mem (l:=p.s) (j:=(i:Int)) (by omega) c
  have ho:=hp.s _ hgm
  obtain⟨⟨s1,s2⟩,⟨s3,s4⟩,⟨s5,s6⟩,s7,s8⟩:=QdT h hp hx hm hgm
  obtain⟨q1,q2⟩:=ho.vr
  obtain⟨q3,q4⟩:=ho.ad
  have hst:=Qgo (x:=x) (m:=m) (s:=gt p.s (i:Int)) (vk:=(vs,kn)) h1 h2 h3 ho.ad ⟨s7,s8⟩
  have hcs:=Qcn x m (gt p.s (i:Int)) (p.s.drop (i+1)) (vs,kn)
  have hss:Zq x m (gt p.s (i:Int)) (vs,kn)=if 0≤(gt p.s (i:Int)).vr∧gt kn (gt p.s (i:Int)).vr=false then (vs.set (gt p.s (i:Int)).vr.toNat (gt (gt x.v (gt m.n (gt p.s (i:Int)).nd)) (gt p.s (i:Int)).ak-(gt p.s (i:Int)).ad),kn.set (gt p.s (i:Int)).vr.toNat true) else (vs,kn):=rfl
  rw[Z3 (by omega),hcs] at hI
  generalize Zq x m (gt p.s (i:Int)) (vs,kn)=S at*
  obtain⟨vs',kn'⟩:=S
  simp only at hst hI
  obtain⟨t1,t2,t3⟩:=hst
  have rv:=QkJ (vr:=(gt p.s (i:Int)).vr) (ad:=(gt p.s (i:Int)).ad) (vs:=vs') (by omega) (by omega) (by omega) fun y hy=>by have:=t3 y hy;omega
  by_cases c1:0≤(gt p.s (i:Int)).vr
  ·cases c2:gt kn (gt p.s (i:Int)).vr
   ·rw[if_pos ⟨c1,c2⟩] at hss
    simp only[Qc] at hss
    obtain⟨e1,e2⟩:=hss
    simp(disch:=omega)only[go_sem,ayS,slD,c2,QdS,←e1,←e2]
    refine QQ rv ?_
    by_cases e:Q1 (gt p.s (i:Int)).vr (gt p.s (i:Int)).ad vs'=gt (gt x.v (gt m.n (gt p.s (i:Int)).nd)) (gt p.s (i:Int)).ak
    ·rw[if_neg (by simp [e])] at hI
     simp(disch:=omega)only[go_sem,ayS,e]
     exact⟨(i+1,vs',kn'),by simp,⟨by simp only;omega,t1,t2,t3,hI⟩,by simp only;omega⟩
    ·rw[if_pos e] at hI
     simp(disch:=omega)only[go_sem,ayS,dcF e]
     rw[←hR]
     simp [XC,hI,QR]
   ·rw[if_neg (by simp [c2])] at hss
    simp only[Qc] at hss
    obtain⟨rfl,rfl⟩:=hss
    simp(disch:=omega)only[go_sem,ayS,slD,c2]
    refine QQ rv ?_
    by_cases e:Q1 (gt p.s (i:Int)).vr (gt p.s (i:Int)).ad vs'=gt (gt x.v (gt m.n (gt p.s (i:Int)).nd)) (gt p.s (i:Int)).ak
    ·rw[if_neg (by simp [e])] at hI
     simp(disch:=omega)only[go_sem,ayS,e]
     exact⟨(i+1,vs',kn'),by simp,⟨by simp only;omega,t1,t2,t3,hI⟩,by simp only;omega⟩
    ·rw[if_pos e] at hI
     simp(disch:=omega)only[go_sem,ayS,dcF e]
     rw[←hR]
     simp [XC,hI,QR]
  ·rw[if_neg (by simp [c1])] at hss
   simp only[Qc] at hss
   obtain⟨rfl,rfl⟩:=hss
   simp(disch:=omega)only[go_sem,ayS,slD]
   refine QQ rv ?_
   by_cases e:Q1 (gt p.s (i:Int)).vr (gt p.s (i:Int)).ad vs'=gt (gt x.v (gt m.n (gt p.s (i:Int)).nd)) (gt p.s (i:Int)).ak
   ·rw[if_neg (by simp [e])] at hI
    simp(disch:=omega)only[go_sem,ayS,e]
    exact⟨(i+1,vs',kn'),by simp,⟨by simp only;omega,t1,t2,t3,hI⟩,by simp only;omega⟩
   ·rw[if_pos e] at hI
    simp(disch:=omega)only[go_sem,ayS,dcF e]
    rw[←hR]
    simp [XC,hI,QR]
 ·obtain rfl:i=p.s.length:=by omega
  rw[List.drop_length] at hI
  simp only[ZE] at hI
  simp(disch:=omega)only[go_sem]
  refine Q8 14 p.t.length (fun _=>[]) (fun _=>[]) (fun k=>p.t.all (teB vs)=(p.t.drop k).all (teB vs)) (by simp(disch:=omega)only[go_sem]) rfl fun k hk hK=>?_
  simp(disch:=omega)only[go_sem]
  refine QT (fun c=>?_) (fun c=>?_)
  ·have hgm:=gt_mem (l:=p.t) (j:=(k:Int)) (by omega) c
   obtain⟨w1,w2⟩:=tvs hp h1 h3 hgm
   have rt:=Qs9 (x:=gt p.t (k:Int)) (vs:=vs) (by omega) w1 w2
   rw[Z3 (by omega),List.all_cons] at hK
   simp(disch:=omega)only[go_sem,teD]
   refine QQ rt ?_
   cases e:teB vs (gt p.t (k:Int))
   ·rw[e,Bool.false_and] at hK
    simp(disch:=omega)only[go_sem]
    rw[←hR]
    simp [XC,hI,hK,QR]
   ·rw[e,Bool.true_and] at hK
    simp(disch:=omega)only[go_sem]
    exact⟨k+1,by simp,⟨by omega,hK⟩,by omega⟩
  ·obtain rfl:k=p.t.length:=by omega
   rw[List.drop_length,List.all_nil] at hK
   simp(disch:=omega)only[go_sem]
   rw[←hR]
   simp [XC,hI,hK]
set_option maxHeartbeats 4000000 in
theorem Qtx(h:TyOk t){p:Pa}(hp:PaOk t p){x:Hs}(hx:HsOk t x){m:Mo}(hm:SmOk t p.g x.g m):FT 320 [paD p,hsD x,mD m] (.tup [.arr 1 (QR (XC p x m).1),.int .i64 (XC p x m).2]):=by
 refine fo [[(4,(some 8),[],false)],[]] ?_
 conv in fnC ..=>reduce
 have lp:=QX hp.g
 have lg:=QX hx.g
 have ln:=hm.ln
 have hs:=hp.sl
 have ht:=hp.tl
 obtain⟨v1,v2⟩:=hp.v
 generalize hR:XC p x m=R
 simp(disch:=omega)only[go_sem,ayS,paD,paL,hsD,hsL,mD]
 refine Yw (fun a:Nat×List Int×List Bool=>[(25,.int .i64 a.1)]) (fun a=>[(3,.arr 1 (QR a.2.1)),(4,.arr 1 (bls a.2.2))])
  (fun a=>a.1≤p.s.length∧a.2.1.length=p.v.toNat∧a.2.2.length=p.v.toNat∧(∀y∈a.2.1, -200≤y∧y≤200)∧ZE x m p.s (List.replicate p.v.toNat 0,List.replicate p.v.toNat false)=ZE x m (p.s.drop a.1) a.2)
  (fun a=>p.s.length-a.1) (0,List.replicate p.v.toNat 0,List.replicate p.v.toNat false) ?_ ⟨by simp,by simp,by simp,fun y hy=>by have:=List.eq_of_mem_replicate hy;omega,rfl⟩ ?_
 ·simp(disch:=omega)only[go_sem]
  simp
 rintro⟨i,vs,kn⟩ ⟨hi,h1,h2,h3,hI⟩
 simp only at hi h1 h2 h3 hI
 simp(disch:=omega)only[go_sem]
 refine QT (fun c=>?_) (fun c=>?_)
 ·have hgm:=gt_mem (l:=p.s) (j:=(i:Int)) (by omega) c
  have ho:=hp.s _ hgm
  obtain⟨⟨s1,s2⟩,⟨s3,s4⟩,⟨s5,s6⟩,s7,s8⟩:=QdT h hp hx hm hgm
  obtain⟨q1,q2⟩:=ho.vr
  obtain⟨q3,q4⟩:=ho.ad
  have hst:=Qgo (x:=x) (m:=m) (s:=gt p.s (i:Int)) (vk:=(vs,kn)) h1 h2 h3 ho.ad ⟨s7,s8⟩
  have hcs:=Qcn x m (gt p.s (i:Int)) (p.s.drop (i+1)) (vs,kn)
  have hss:Zq x m (gt p.s (i:Int)) (vs,kn)=if 0≤(gt p.s (i:Int)).vr∧gt kn (gt p.s (i:Int)).vr=false then (vs.set (gt p.s (i:Int)).vr.toNat (gt (gt x.v (gt m.n (gt p.s (i:Int)).nd)) (gt p.s (i:Int)).ak-(gt p.s (i:Int)).ad),kn.set (gt p.s (i:Int)).vr.toNat true) else (vs,kn):=rfl
  rw[Z3 (by omega),hcs] at hI
  generalize Zq x m (gt p.s (i:Int)) (vs,kn)=S at*
  obtain⟨vs',kn'⟩:=S
  simp only at hst hI
  obtain⟨t1,t2,t3⟩:=hst
  have rv:=QkK (vr:=(gt p.s (i:Int)).vr) (ad:=(gt p.s (i:Int)).ad) (vs:=vs') (by omega) (by omega) (by omega) fun y hy=>by have:=t3 y hy;omega
  by_cases c1:0≤(gt p.s (i:Int)).vr
  ·cases c2:gt kn (gt p.s (i:Int)).vr
   ·rw[if_pos ⟨c1,c2⟩] at hss
    simp only[Qc] at hss
    obtain⟨e1,e2⟩:=hss
    simp(disch:=omega)only[go_sem,ayS,slD,c2,QdS,←e1,←e2]
    refine QQ rv ?_
    by_cases e:Q1 (gt p.s (i:Int)).vr (gt p.s (i:Int)).ad vs'=gt (gt x.v (gt m.n (gt p.s (i:Int)).nd)) (gt p.s (i:Int)).ak
    ·rw[if_neg (by simp [e])] at hI
     simp(disch:=omega)only[go_sem,ayS,e]
     exact⟨(i+1,vs',kn'),by simp,⟨by simp only;omega,t1,t2,t3,hI⟩,by simp only;omega⟩
    ·rw[if_pos e] at hI
     simp(disch:=omega)only[go_sem,ayS,dcF e]
     rw[←hR]
     simp [XC,hI,QR]
   ·rw[if_neg (by simp [c2])] at hss
    simp only[Qc] at hss
    obtain⟨rfl,rfl⟩:=hss
    simp(disch:=omega)only[go_sem,ayS,slD,c2]
    refine QQ rv ?_
    by_cases e:Q1 (gt p.s (i:Int)).vr (gt p.s (i:Int)).ad vs'=gt (gt x.v (gt m.n (gt p.s (i:Int)).nd)) (gt p.s (i:Int)).ak
    ·rw[if_neg (by simp [e])] at hI
     simp(disch:=omega)only[go_sem,ayS,e]
     exact⟨(i+1,vs',kn'),by simp,⟨by simp only;omega,t1,t2,t3,hI⟩,by simp only;omega⟩
    ·rw[if_pos e] at hI
     simp(disch:=omega)only[go_sem,ayS,dcF e]
     rw[←hR]
     simp [XC,hI,QR]
  ·rw[if_neg (by simp [c1])] at hss
   simp only[Qc] at hss
   obtain⟨rfl,rfl⟩:=hss
   simp(disch:=omega)only[go_sem,ayS,slD]
   refine QQ rv ?_
   by_cases e:Q1 (gt p.s (i:Int)).vr (gt p.s (i:Int)).ad vs'=gt (gt x.v (gt m.n (gt p.s (i:Int)).nd)) (gt p.s (i:Int)).ak
   ·rw[if_neg (by simp [e])] at hI
    simp(disch:=omega)only[go_sem,ayS,e]
    exact⟨(i+1,vs',kn'),by simp,⟨by simp only;omega,t1,t2,t3,hI⟩,by simp only;omega⟩
   ·rw[if_pos e] at hI
    simp(disch:=omega)only[go_sem,ayS,dcF e]
    rw[←hR]
    simp [XC,hI,QR]
 ·obtain rfl:i=p.s.length:=by omega
  rw[List.drop_length] at hI
  simp only[ZE] at hI
  simp(disch:=omega)only[go_sem]
  refine Q8 76 p.t.length (fun _=>[]) (fun _=>[]) (fun k=>p.t.all (teB vs)=(p.t.drop k).all (teB vs)) (by simp(disch:=omega)only[go_sem]) rfl fun k hk hK=>?_
  simp(disch:=omega)only[go_sem]
  refine QT (fun c=>?_) (fun c=>?_)
  ·have hgm:=gt_mem (l:=p.t) (j:=(k:Int)) (by omega) c
   obtain⟨w1,w2⟩:=tvs hp h1 h3 hgm
   have rt:=Qtw (x:=gt p.t (k:Int)) (vs:=vs) (by omega) w1 w2
   rw[Z3 (by omega),List.all_cons] at hK
   simp(disch:=omega)only[go_sem,teD]
   refine QQ rt ?_
   cases e:teB vs (gt p.t (k:Int))
   ·rw[e,Bool.false_and] at hK
    simp(disch:=omega)only[go_sem]
    rw[←hR]
    simp [XC,hI,hK,QR]
   ·rw[e,Bool.true_and] at hK
    simp(disch:=omega)only[go_sem]
    exact⟨k+1,by simp,⟨by omega,hK⟩,by omega⟩
  ·obtain rfl:k=p.t.length:=by omega
   rw[List.drop_length,List.all_nil] at hK
   simp(disch:=omega)only[go_sem]
   rw[←hR]
   simp [XC,hI,hK]
end
def YG(l:List Mt):List D:=l.map mtD
theorem Qty(l:List Mt):(YG l).length=l.length:=by simp [YG]
theorem Qtz(l:List Mt)(m:Mo)(v:List Int):YG l++[.agg [.lst 1 (QR m.n),.lst 1 (QR m.e),.lst 1 (QR v)]]=YG (l++[⟨m,v⟩]):=by simp [YG,mtD,mtL]
theorem QtA{l:List Mt}{i:Nat}(h:i<l.length):(YG l)[i]?=some (mtD (gt l (i:Int))):=by
 unfold YG;rw[List.getElem?_map,Qn h,QV h];rfl
theorem QtB{l:List Mo}{i:Nat}(h:i<l.length):(pts l)[i]?=some (.agg [.lst 1 (QR (gt l i).n),.lst 1 (QR (gt l i).e)]):=by
 unfold pts;rw[List.getElem?_map,Qn h,QV h];rfl
attribute [go_sem] Qty Qju
attribute [go_sem low] QtA QtB
def seS(t:Ty)(p:Pa)(x:Hs)(j:Bool):Sx:=⟨t,p.g,x.g,opM p.g,j⟩
def mtF(p:Pa)(x:Hs)(l:List Mo):List Mt:=l.filterMap fun m=>if (XC p x m).2=0 then some ⟨m,(XC p x m).1⟩ else none
theorem QtC(p:Pa)(x:Hs)(l:List Mo)(m:Mo):mtF p x (l++[m])=mtF p x l++if (XC p x m).2=0 then [⟨m,(XC p x m).1⟩] else []:=by
 unfold mtF;rw[List.filterMap_append];simp only[List.filterMap_cons,List.filterMap_nil];split<;>simp_all
theorem Qk8(p:Pa)(x:Hs)(l:List Mo):(mtF p x l).length≤l.length:=List.length_filterMap_le _ _
section
variable {t:Ty}
theorem QtD(h:TyOk t){p:Pa}(hp:PaOk t p){x:Hs}(hx:HsOk t x)(j:Bool):SxOk (seS t p x j) where
 t:=h
 p:=hp.g
 g:=hx.g
 tp:=hp.ty
 tg:=hx.ty
 an:=by simp [seS,opM]
 ae:=by simp [seS,opM]
 bn:=fun y hy=>by
  have:=List.eq_of_mem_replicate hy
  omega
 be:=fun y hy=>by
  have:=List.eq_of_mem_replicate hy
  omega
theorem Fnd.sm{s:Sx}{m:Mo}(h:Fnd s m):SmOk s.t s.p s.g m:=⟨h.ln,h.le,fun i hi=>h.n.b i (by rw[h.ln];exact hi),fun i hi=>h.e.b i (by rw[h.le];exact hi)⟩
theorem Fnd.jn{s:Sx}{m:Mo}(h:Fnd s m):s.j=true→m.n.Nodup∧m.e.Nodup:=fun e=>⟨h.n.j e,h.e.j e⟩
theorem Qgs(h:TyOk t){p:Pa}(hp:PaOk t p){x:Hs}(hx:HsOk t x):FT 203 [tyD t,paD p,hsD x] (.int .i64 0):=by
 refine fo [] ?_
 conv in fnC ..=>reduce
 simp(disch:=omega)only[go_sem,tyD,paD,paL,hsD,hsL]
 refine QQ (Qgm h hp) ?_
 simp(disch:=omega)only[go_sem,ayS]
 refine QQ (Qgk h hx) ?_
 simp(disch:=omega)only[go_sem]
theorem QtE(h:TyOk t){p:Pa}(hp:PaOk t p){x:Hs}(hx:HsOk t x):FT 319 [tyD t,paD p,hsD x] (.int .i64 0):=by
 refine fo [] ?_
 conv in fnC ..=>reduce
 simp(disch:=omega)only[go_sem,tyD,paD,paL,hsD,hsL]
 refine QQ (Qgn h hp) ?_
 simp(disch:=omega)only[go_sem,ayS]
 refine QQ (QdR h hx) ?_
 simp(disch:=omega)only[go_sem]
theorem QdZ{p:Pa}{x:Hs}{m:Mo}:(XC p x m).1.length≤(List.replicate p.v.toNat (0:Int)).length:=by
 have key:∀(l:List Slo)(vk:List Int×List Bool),(ZE x m l vk).1.1.length=vk.1.length:=by
  intro l
  induction l with
  |nil=>exact fun vk=>rfl
  |cons s l ih=>
   intro vk
   rw[Qcn]
   have:(Zq x m s vk).1.length=vk.1.length:=by unfold Zq;split<;>simp
   split
   ·exact this
   ·rw[ih,this]
 unfold XC
 simp only
 split
 ·simp
 ·split
  ·rw[key];exact Qg _
  ·simp
theorem QtF(h:TyOk t){p:Pa}(hp:PaOk t p){x:Hs}(hx:HsOk t x){m:Mo}(hm:SmOk t p.g x.g m):FT 207 [tyD t,paD p,hsD x,mD m] (.tup [.arr 1 (QR (XC p x m).1),.int .i64 (XC p x m).2]):=by
 refine fo [] ?_
 conv in fnC ..=>reduce
 have hv:=hp.v
 have hl:=QdZ (p:=p) (x:=x) (m:=m)
 rw[List.length_replicate] at hl
 have r:=Qk7 h hp hx hm
 generalize XC p x m=R at*
 simp(disch:=omega)only[go_sem,tyD,paD,paL,hsD,hsL,mD]
 refine QQ (Qgs h hp hx) ?_
 simp(disch:=omega)only[go_sem,ayS]
 refine QQ (Qgg h hp.g hx.g hp.ty hx.ty hm false (by simp)) ?_
 simp(disch:=omega)only[go_sem,ayS]
 refine QQ r ?_
 simp(disch:=omega)only[go_sem]
theorem Qk9(h:TyOk t){p:Pa}(hp:PaOk t p){x:Hs}(hx:HsOk t x){m:Mo}(hm:SmOk t p.g x.g m):FT 228 [tyD t,paD p,hsD x,mD m] (.tup [.arr 1 (QR (XC p x m).1),.int .i64 (XC p x m).2]):=by
 refine fo [] ?_
 conv in fnC ..=>reduce
 have hv:=hp.v
 have hl:=QdZ (p:=p) (x:=x) (m:=m)
 rw[List.length_replicate] at hl
 have r:=Qtx h hp hx hm
 generalize XC p x m=R at*
 simp(disch:=omega)only[go_sem,tyD,paD,paL,hsD,hsL,mD]
 refine QQ (QtE h hp hx) ?_
 simp(disch:=omega)only[go_sem,ayS]
 refine QQ (Qgj h hp.g hx.g hp.ty hx.ty hm false (by simp)) ?_
 simp(disch:=omega)only[go_sem,ayS]
 refine QQ r ?_
 simp(disch:=omega)only[go_sem]
theorem QtG(h:TyOk t){p:Pa}(hp:PaOk t p){x:Hs}(hx:HsOk t x)(j:Bool):FT 128 [tyD t,paD p,hsD x,.bool j] (if 5000<(Xu (seS t p x j)).length then .tup [.arr 3 [],.int .i64 3] else .tup [.arr 3 (YG (mtF p x (Xu (seS t p x j)))),.int .i64 0]):=by
 refine fo [[]] ?_
 conv in fnC ..=>reduce
 have hv:=hp.v
 have ra:FT 204 [tyD t,gD p.g,gD x.g,.bool j] (if 5000<(Xu (seS t p x j)).length then .tup [.arr 2 [],.int .i64 3] else .tup [.arr 2 (pts (Xu (seS t p x j))),.int .i64 0]):=Qtn (QtD h hp hx j) rfl
 have hl:(Xu (seS t p x j)).length≤5001:=JK _ _ _ _ (by simp)
 have rv:∀m∈Xu (seS t p x j),FT 205 [paD p,hsD x,mD m] (.tup [.arr 1 (QR (XC p x m).1),.int .i64 (XC p x m).2]):=fun m hm=>Qk7 h hp hx (Qk1 m hm).sm
 generalize Xu (seS t p x j)=L at*
 by_cases c:5000<L.length
 ·rw[if_pos c] at ra ⊢
  simp(disch:=omega)only[go_sem,tyD,paD,paL,hsD,hsL]
  refine QQ (Qgs h hp hx) ?_
  simp(disch:=omega)only[go_sem,ayS]
  refine QQ ra ?_
  simp(disch:=omega)only[go_sem,ayS]
 ·rw[if_neg c] at ra ⊢
  simp(disch:=omega)only[go_sem,tyD,paD,paL,hsD,hsL]
  refine QQ (Qgs h hp hx) ?_
  simp(disch:=omega)only[go_sem,ayS]
  refine QQ ra ?_
  cases hfl:(pts L).all D.flatE<;>(
   simp(disch:=omega)only[go_sem,ayS,hfl]
   refine Q8 14 L.length (fun i=>[(13,.sl 3 0 (mtF p x (L.take i)).length)]) (fun i=>[(3,.arr 3 (YG (mtF p x (L.take i))))]) (fun _=>True) (by simp(disch:=omega)only[go_sem];rfl) trivial fun i hi _=>?_
   have hln:=Qk8 p x (L.take i)
   rw[List.length_take_of_le hi] at hln
   simp(disch:=omega)only[go_sem]
   refine QT (fun c=>?_) (fun c=>?_)
   ·have hsn:=QtC p x (L.take i) (gt L (i:Int))
    rw[←Xm (by omega)] at hsn
    have r:=rv _ (gt_mem (by omega) c)
    have hl2:=QdZ (p:=p) (x:=x) (m:=gt L (i:Int))
    rw[List.length_replicate] at hl2
    generalize XC p x (gt L (i:Int))=R at*
    simp(disch:=omega)only[go_sem]
    refine QQ r ?_
    by_cases d:R.2=0
    ·rw[if_pos d] at hsn
     simp(disch:=omega)only[go_sem,ayS,d,Qtz]
     exact⟨i+1,by rw[hsn];simp [YG,mtD,mtL],by omega,by omega⟩
    ·rw[if_neg d,List.append_nil] at hsn
     simp(disch:=omega)only[go_sem,ayS,dcF d]
     exact⟨i+1,by rw[hsn];simp,by omega,by omega⟩
   ·obtain rfl:i=L.length:=by omega
    rw[List.take_length] at*
    simp(disch:=omega)only[go_sem])
end
def Y4(n:Nat)(b m:List Int):Nat→List Int
 |0=>List.replicate n (-1)
 |i+1=>(Y4 n b m i).set (gt b (i:Int)).toNat (gt m (i:Int))
def JL(n:Nat)(b m:List Int):List Int:=Y4 n b m b.length
theorem JM(n:Nat)(b m:List Int):∀i,(Y4 n b m i).length=n
 |0=>by simp [Y4]
 |i+1=>by simp [Y4,JM n b m i]
theorem Qgt{n:Nat}{b m:List Int}(hb:∀i:Nat,i<b.length→0≤gt b (i:Int)∧gt b (i:Int)<n):∀i:Nat,i≤b.length→∀k:Nat,k<n→(gt (Y4 n b m i) (k:Int)= -1∧∀j:Nat,j<i→gt b (j:Int)≠k)∨∃j:Nat,j<i∧gt b (j:Int)=k∧gt (Y4 n b m i) (k:Int)=gt m (j:Int)
 |0,_,k,hk=>.inl ⟨by rw[QV (by simp [Y4];omega)];simp [Y4],by simp⟩
 |i+1,hi,k,hk=>by
  have h1:=hb i (by omega)
  have hl:=JM n b m i
  by_cases c:gt b (i:Int)=k
  ·refine .inr ⟨i,by omega,c,?_⟩
   rw[QV (by rw[JM];exact hk)]
   simp only[Y4]
   rw[List.getElem_set,if_pos (by omega)]
  ·have e:gt (Y4 n b m (i+1)) (k:Int)=gt (Y4 n b m i) (k:Int):=by
    rw[QV (by rw[JM];exact hk),QV (by omega)]
    simp only[Y4]
    rw[List.getElem_set,if_neg (by omega)]
   rw[e]
   rcases Qgt hb i (by omega) k hk with⟨a1,a2⟩|⟨j,a1,a2,a3⟩
   ·refine .inl ⟨a1,fun j hj=>?_⟩
    by_cases d:j=i
    ·subst d;exact c
    ·exact a2 j (by omega)
   ·exact .inr ⟨j,by omega,a2,a3⟩
theorem Qla{n:Nat}{b m:List Int}(hn:b.Nodup)(hb:∀i:Nat,i<b.length→0≤gt b (i:Int)∧gt b (i:Int)<n){i:Nat}(hi:i<b.length):gt (JL n b m) (gt b (i:Int))=gt m (i:Int):=by
 obtain⟨k,hk⟩:∃k:Nat,gt b (i:Int)=k:=⟨_,(Int.toNat_of_nonneg (hb i hi).1).symm⟩
 have:=hb i hi
 rw[hk]
 rcases Qgt (m:=m) hb b.length (Qg _) k (by omega) with⟨_,a2⟩|⟨j,a1,a2,a3⟩
 ·exact absurd hk (a2 i hi)
 ·have:j=i:=Zi hn a1 hi (by rw[a2,hk])
  subst this
  exact a3
theorem Qd0{n:Nat}{b m:List Int}(hb:∀i:Nat,i<b.length→0≤gt b (i:Int)∧gt b (i:Int)<n){k:Nat}(hk:k<n):gt (JL n b m) (k:Int)= -1∨∃j:Nat,j<b.length∧gt b (j:Int)=k∧gt (JL n b m) (k:Int)=gt m (j:Int):=by
 rcases Qgt (m:=m) hb b.length (Qg _) k hk with⟨a1,_⟩|h
 ·exact .inl a1
 ·exact .inr h
theorem Qlb{n:Nat}{b m:List Int}(hn:n≤1000)(hb:∀i:Nat,i<b.length→0≤gt b (i:Int)∧gt b (i:Int)<n)(hl:b.length≤m.length)(hl2:b.length≤1000):FT 405 [.int .i64 n,.lst 1 (QR b),.lst 1 (QR m)] (.arr 1 (QR (JL n b m))):=by
 refine fo [[]] ?_
 conv in fnC ..=>reduce
 simp(disch:=omega)only[go_sem]
 refine Q8 8 n (fun i=>[(7,.sl 0 0 i)]) (fun i=>[(0,.arr 1 (QR (List.replicate i (-1))))]) (fun _=>True) (by simp(disch:=omega)only[go_sem];rfl) trivial fun i hi _=>?_
 simp(disch:=omega)only[go_sem]
 refine QT (fun c=>?_) (fun c=>?_)
 ·simp(disch:=omega)only[go_sem,ayS,List.length_replicate]
  exact⟨i+1,by rw[List.replicate_succ'];simp,by omega,by omega⟩
 ·obtain rfl:i=n:=by omega
  simp(disch:=omega)only[go_sem]
  refine Q8 9 b.length (fun _=>[]) (fun k=>[(0,.arr 1 (QR (Y4 i b m k)))]) (fun _=>True) (by simp(disch:=omega)only[go_sem];rfl) trivial fun k hk _=>?_
  have hf:=JM i b m k
  simp(disch:=omega)only[go_sem,hf]
  refine QT (fun c=>?_) (fun c=>?_)
  ·obtain⟨b1,b2⟩:=hb k (by omega)
   simp(disch:=omega)only[go_sem,ayS,hf]
   exact⟨k+1,by simp [Y4],by omega,by omega⟩
  ·obtain rfl:k=b.length:=by omega
   simp(disch:=omega)only[go_sem,hf,JL]
def YB(m:Mo)(q:G)(v:Int):D:=.agg (XB m q v)
def paQ(q:G)(v:Int):Pa:=⟨q,[],v,[]⟩
theorem QtH(c:Fb):FT 198 [fbD c] (.int .i64 0):=by
 cases c<;>exact Qad (m:=100) (by kernel_rfl)
theorem QtI(c:Fb):FT 314 [fbD c] (.int .i64 0):=by
 cases c<;>exact Qad (m:=100) (by kernel_rfl)
theorem QtJ(n:Nat)(hn:n≤100)(b:Bool):FT 308 [.lst 1 (bls (List.replicate n b)),.bool b] (.bool (decide (0<n))):=by
 refine fo [] ?_
 conv in fnC ..=>reduce
 have r:FT 362 [.lst 1 (bls (List.replicate n b)),.bool b] (.int .i64 (if 0<n then 0 else -1)):=by
  refine fo [] ?_
  conv in fnC ..=>reduce
  have hl:(List.replicate n b).length=n:=List.length_replicate
  simp(disch:=omega)only[go_sem,hl]
  refine Xb 8 0 0 (by simp(disch:=omega)only[go_sem,hl];rfl) (by omega) fun i _ hi=>?_
  obtain rfl:i=0:=by omega
  by_cases c:0<n
  ·have e:gt (List.replicate n b) (((0:Nat):Int))=b:=by rw[QV (by rw[hl];exact c)];simp
   rw[if_pos c]
   cases b<;>simp(disch:=omega)only[go_sem,ayS,hl,e]<;>rfl
  ·rw[if_neg c]
   simp(disch:=omega)only[go_sem,ayS,hl]
 simp(disch:=omega)only[go_sem]
 refine QQ r ?_
 by_cases c:0<n
 ·rw[if_pos c]
  simp(disch:=omega)only[go_sem,ayS]
 ·rw[if_neg c]
  simp(disch:=omega)only[go_sem,ayS]
section
variable {t:Ty}
theorem QtK(h:TyOk t){q:G}(hq:QZ q=0)(hy:Typ t q){v:Int}(hv:0≤v∧v≤12):FT 197 [tyD t,paD (paQ q v)] (.int .i64 (if 0<v then 9 else 0)):=by
 refine fo [] ?_
 conv in fnC ..=>reduce
 have l:=QX hq
 have r2:=Jn q
 rw[hq] at r2
 obtain⟨v1,v2⟩:=hv
 have ro:=QkG (p:=paQ q v) (by simp [paQ]) (v:=0)
 have rt:=QkC (v:=v) v1 v2 (l:=[]) (by simp) (by simp)
 simp only[paQ,paD,paL,XI,Ye,List.map_nil,List.any_nil] at ro rt
 simp(disch:=omega)only[go_sem,tyD,paQ,paD,paL,XI,Ye]
 refine QQ (Qbz h) ?_
 simp(disch:=omega)only[go_sem,ayS]
 refine QQ r2 ?_
 simp(disch:=omega)only[go_sem,ayS]
 refine QQ (Qcm h hq hy) ?_
 simp(disch:=omega)only[go_sem,ayS]
 refine Xb 8 0 0 rfl (by omega) fun i _ hi=>?_
 obtain rfl:i=0:=by omega
 simp(disch:=omega)only[go_sem,ayS]
 refine QQ rt ?_
 simp(disch:=omega)only[go_sem,ayS]
 refine Xb 13 0 0 rfl (by omega) fun i _ hi=>?_
 obtain rfl:i=0:=by omega
 by_cases c:0<v
 ·rw[if_pos c]
  simp(disch:=omega)only[go_sem,ayS]
  refine QQ ro ?_
  simp(disch:=omega)only[go_sem,ayS]
 ·rw[if_neg c]
  simp(disch:=omega)only[go_sem,ayS]
theorem QtL(h:TyOk t){q:G}(hq:QZ q=0)(hy:Typ t q){v:Int}(hv:0≤v∧v≤12):FT 219 [tyD t,paD (paQ q v)] (.int .i64 (if 0<v then 9 else 0)):=by
 refine fo [] ?_
 conv in fnC ..=>reduce
 have l:=QX hq
 have r2:=JH q
 rw[hq] at r2
 obtain⟨v1,v2⟩:=hv
 have c1:=JG q.n (by unfold QS;omega) 303 [.ref (tyD t).cells] rfl (fun _=>false) fun x hx=>QkH t (hy.n x hx)
 have c2:=Qcc q.e (by unfold QS;omega) 304 [.ref (tyD t).cells] rfl (fun _=>false) fun x hx=>QkI t (hy.e x hx).2
 rw[List.any_eq_false.2 fun _ _=>by simp] at c1 c2
 have rt:=QkE (v:=v) v1 v2 (l:=[]) (by simp) (by simp)
 simp only[Ye,List.map_nil] at rt
 simp(disch:=omega)only[go_sem,tyD,paQ,paD,paL,XI,Ye]
 refine QQ (Qal h) ?_
 simp(disch:=omega)only[go_sem,ayS]
 refine QQ r2 ?_
 simp(disch:=omega)only[go_sem,ayS]
 refine QQ c1 ?_
 simp(disch:=omega)only[go_sem]
 refine QQ c2 ?_
 simp(disch:=omega)only[go_sem]
 refine QQ (QaQ v1 v2) ?_
 simp(disch:=omega)only[go_sem,ayS]
 refine Xb 60 0 0 rfl (by omega) fun i _ hi=>?_
 obtain rfl:i=0:=by omega
 simp(disch:=omega)only[go_sem,ayS]
 refine QQ rt ?_
 simp(disch:=omega)only[go_sem,ayS]
 refine QQ (QtJ v.toNat (by omega) false) ?_
 by_cases c:0<v
 ·rw[if_pos c]
  simp(disch:=omega)only[go_sem,ayS]
 ·rw[if_neg c]
  simp(disch:=omega)only[go_sem,ayS]
structure FbE(t:Ty)(p:Pa)(m:Mo)(q:G)(v:Int):Prop where
 v:v=p.v
 ty:Typ t q
 em:Emb p.g q m
theorem FbE.mo{p:Pa}{m:Mo}{q:G}{v:Int}(h:FbE t p m q v):Yc p.g q m=0:=mok.2 h.em.ok
theorem Qd1{l:List Int}(h:∀i k:Nat,i<l.length→k<l.length→gt l (i:Int)=gt l (k:Int)→i=k):l.Nodup:=by
 rw[List.nodup_iff_pairwise_ne,List.pairwise_iff_getElem]
 intro i j hi hj hij e
 have:=h i j hi hj (by rw[QV hi,QV hj];exact e)
 omega
theorem FbE.nd{p:Pa}{m:Mo}{q:G}{v:Int}(h:FbE t p m q v):m.n.Nodup∧m.e.Nodup:=
 ⟨Qd1 fun i k hi hk e=>h.em.jn i k (by have:=h.em.ok.ln;omega) (by have:=h.em.ok.ln;omega) e,Qd1 fun i k hi hk e=>h.em.je i k (by have:=h.em.ok.le;omega) (by have:=h.em.ok.le;omega) e⟩
theorem FbE.jm{p:Pa}{m:Mo}{q:G}{v:Int}(h:FbE t p m q v):ZA p.g q m=true:=by
 unfold ZA
 rw[h.mo]
 simp only[decide_true,Bool.true_and,Qk]
 exact⟨Qe h.nd.1,Qe h.nd.2⟩
theorem FbE.inj{p:Pa}{m:Mo}{q:G}{v:Int}(h:FbE t p m q v):m.n.length≤40∧m.e.length≤80:=by
 have:=QX h.em.ok.va
 have:=h.em.ok.ln
 have:=h.em.ok.le
 omega
theorem QtM(h:TyOk t){p:Pa}(hp:PaOk t p){m:Mo}{q:G}{v:Int}(hc:FbE t p m q v):FT 280 [tyD t,.int .i64 p.v,paD (paQ q v)] (.int .i64 0):=by
 refine fo [] ?_
 conv in fnC ..=>reduce
 have hv:=hc.v
 have r:=QtK h hc.em.ok.vb hc.ty (v:=v) (by rw[hv];exact hp.v)
 subst hv
 simp(disch:=omega)only[go_sem,ayS,tyD,paQ,paD,paL,XI,Ye]
 refine QQ r ?_
 by_cases c:0<p.v
 ·rw[if_pos c]
  simp(disch:=omega)only[go_sem,ayS]
  refine Yw (fun _:Unit=>[]) (fun _=>[]) (fun _=>True) (fun _=>0) () (by simp(disch:=omega)only[go_sem]) trivial fun _ _=>?_
  simp(disch:=omega)only[go_sem,ayS]
 ·rw[if_neg c]
  simp(disch:=omega)only[go_sem,ayS]
theorem Qlc(h:TyOk t)(p:Pa):FT 199 [tyD t,paD p,.agg ttL] (.int .i64 0):=by
 refine fo [[]] ?_
 conv in fnC ..=>reduce
 simp(disch:=omega)only[go_sem,ayS,tyD,paD,paL,ttL,cyL]
 refine Xb 10 0 0 rfl (by omega) fun i _ hi=>?_
 obtain rfl:i=0:=by omega
 simp(disch:=omega)only[go_sem,ayS]
theorem QtN(h:TyOk t){p:Pa}(hp:PaOk t p){m:Mo}{q:G}{v:Int}(hc:FbE t p m q v):FT 199 [tyD t,paD p,YB m q v] (.int .i64 0):=by
 refine fo [[]] ?_
 conv in fnC ..=>reduce
 have r1:=QtM h hp hc
 have r2:=Qcj p.g q m
 have hj:=hc.inj
 have r3:=Qkf p.g q m (by unfold QS;omega) (by unfold QS;omega)
 have r4:=Qlc h (paQ q v)
 rw[hc.mo] at r2
 rw[hc.jm] at r3
 simp(disch:=omega)only[go_sem,ayS,tyD,paD,paL,YB,XB,cyL,ttL]
 refine QQ r1 ?_
 simp(disch:=omega)only[go_sem,ayS]
 refine QQ r2 ?_
 simp(disch:=omega)only[go_sem,ayS]
 refine QQ r3 ?_
 simp(disch:=omega)only[go_sem,ayS]
 refine Xb 10 1 0 rfl (by omega) fun i _ hi=>?_
 obtain rfl|rfl:i=0∨i=1:=by omega
 ·simp(disch:=omega)only[go_sem,ayS]
  refine QQ r4 ?_
  simp(disch:=omega)only[go_sem,ayS]
  exact⟨1,by simp,by omega,by omega⟩
 ·simp(disch:=omega)only[go_sem,ayS]
theorem QtO(h:TyOk t){p:Pa}(hp:PaOk t p){c:Fb}(hc:∀m q v,c=.no m q v→FbE t p m q v):FT 199 [tyD t,paD p,fbD c] (.int .i64 0):=by
 cases c with
 |tt=>exact Qlc h p
 |no m q v=>
  refine fo [[]] ?_
  conv in fnC ..=>reduce
  have r:=QtN h hp (hc m q v rfl)
  simp(disch:=omega)only[go_sem,ayS,tyD,paD,paL,fbD,fbL,XB,cyL,ttL]
  refine Xb 10 1 0 rfl (by omega) fun i _ hi=>?_
  obtain rfl|rfl:i=0∨i=1:=by omega
  ·simp(disch:=omega)only[go_sem,ayS]
   refine QQ r ?_
   simp(disch:=omega)only[go_sem,ayS]
   exact⟨1,by simp,by omega,by omega⟩
  ·simp(disch:=omega)only[go_sem,ayS]
theorem Qld(h:TyOk t){p:Pa}(hp:PaOk t p){c:Fb}(hc:∀m q v,c=.no m q v→FbE t p m q v):FT 123 [tyD t,paD p,fbD c] (.int .i64 0):=by
 have r1:=QtH c
 have r2:=QtO h hp hc
 cases c<;>(
  refine fo [] ?_
  conv in fnC ..=>reduce
  simp only[fbD,fbL,ttL,cyL] at r1 r2
  simp(disch:=omega)only[go_sem,ayS,tyD,paD,paL,fbD,fbL,ttL,cyL]
  refine QQ (Qgm h hp) ?_
  simp(disch:=omega)only[go_sem,ayS]
  refine QQ r1 ?_
  simp(disch:=omega)only[go_sem,ayS]
  refine QQ r2 ?_
  simp(disch:=omega)only[go_sem])
theorem QtP(h:TyOk t){p:Pa}(hp:PaOk t p){m:Mo}{q:G}{v:Int}(hc:FbE t p m q v):FT 369 [tyD t,paD (paQ q v),.int .i64 p.v] (.int .i64 0):=by
 refine fo [] ?_
 conv in fnC ..=>reduce
 have hv:=hc.v
 have r:=QtL h hc.em.ok.vb hc.ty (v:=v) (by rw[hv];exact hp.v)
 subst hv
 simp(disch:=omega)only[go_sem,ayS,tyD,paQ,paD,paL,XI,Ye]
 refine QQ r ?_
 by_cases c:0<p.v
 ·rw[if_pos c]
  simp(disch:=omega)only[go_sem,ayS]
  refine Yw (fun _:Unit=>[]) (fun _=>[]) (fun _=>True) (fun _=>0) () (by simp(disch:=omega)only[go_sem]) trivial fun _ _=>?_
  simp(disch:=omega)only[go_sem,ayS]
 ·rw[if_neg c]
  simp(disch:=omega)only[go_sem,ayS]
theorem Qle(h:TyOk t)(p:Pa):FT 315 [tyD t,paD p,.agg ttL] (.int .i64 0):=by
 refine fo [] ?_
 conv in fnC ..=>reduce
 simp(disch:=omega)only[go_sem,ayS,tyD,paD,paL,ttL,cyL]
 refine Xb 53 0 0 rfl (by omega) fun i _ hi=>?_
 obtain rfl:i=0:=by omega
 simp(disch:=omega)only[go_sem,ayS]
theorem QtQ(h:TyOk t){p:Pa}(hp:PaOk t p){m:Mo}{q:G}{v:Int}(hc:FbE t p m q v):FT 315 [tyD t,paD p,YB m q v] (.int .i64 0):=by
 refine fo [] ?_
 conv in fnC ..=>reduce
 have r1:=QtP h hp hc
 have r2:=QdM p.g q m
 have r3:=Qko p.g q m
 have r4:=Qle h (paQ q v)
 have hv:=hc.v
 rw[hc.mo] at r2
 rw[hc.jm] at r3
 simp(disch:=omega)only[go_sem,ayS,tyD,paD,paL,YB,XB,cyL,ttL]
 refine QQ r1 ?_
 simp(disch:=omega)only[go_sem,ayS]
 refine QQ r2 ?_
 simp(disch:=omega)only[go_sem,ayS]
 refine QQ r3 ?_
 simp(disch:=omega)only[go_sem,ayS]
 refine Xb 53 1 0 rfl (by omega) fun i _ hi=>?_
 obtain rfl|rfl:i=0∨i=1:=by omega
 ·simp(disch:=omega)only[go_sem,ayS]
  refine QQ r4 ?_
  simp(disch:=omega)only[go_sem,ayS]
  exact⟨1,by simp,by omega,by omega⟩
 ·simp(disch:=omega)only[go_sem,ayS]
theorem QtR(h:TyOk t){p:Pa}(hp:PaOk t p){c:Fb}(hc:∀m q v,c=.no m q v→FbE t p m q v):FT 315 [tyD t,paD p,fbD c] (.int .i64 0):=by
 cases c with
 |tt=>exact Qle h p
 |no m q v=>
  refine fo [] ?_
  conv in fnC ..=>reduce
  have r:=QtQ h hp (hc m q v rfl)
  simp(disch:=omega)only[go_sem,ayS,tyD,paD,paL,fbD,fbL,XB,cyL,ttL]
  refine Xb 53 1 0 rfl (by omega) fun i _ hi=>?_
  obtain rfl|rfl:i=0∨i=1:=by omega
  ·simp(disch:=omega)only[go_sem,ayS]
   refine QQ r ?_
   simp(disch:=omega)only[go_sem,ayS]
   exact⟨1,by simp,by omega,by omega⟩
  ·simp(disch:=omega)only[go_sem,ayS]
theorem Qlf(h:TyOk t){p:Pa}(hp:PaOk t p){c:Fb}(hc:∀m q v,c=.no m q v→FbE t p m q v):FT 224 [tyD t,paD p,fbD c] (.int .i64 0):=by
 have r1:=QtI c
 have r2:=QtR h hp hc
 cases c<;>(
  refine fo [] ?_
  conv in fnC ..=>reduce
  simp only[fbD,fbL,ttL,cyL] at r1 r2
  simp(disch:=omega)only[go_sem,ayS,tyD,paD,paL,fbD,fbL,ttL,cyL]
  refine QQ (Qgn h hp) ?_
  simp(disch:=omega)only[go_sem,ayS]
  refine QQ r1 ?_
  simp(disch:=omega)only[go_sem,ayS]
  refine QQ r2 ?_
  simp(disch:=omega)only[go_sem])
def exS(t:Ty)(q:G)(x:Hs)(m mt:Mo)(j:Bool):Sx:=⟨t,q,x.g,⟨JL q.n.length m.n mt.n,JL q.e.length m.e mt.e⟩,j⟩
theorem FbE.bn{p:Pa}{m:Mo}{q:G}{v:Int}(h:FbE t p m q v):(∀i:Nat,i<m.n.length→0≤gt m.n (i:Int)∧gt m.n (i:Int)<q.n.length)∧∀i:Nat,i<m.e.length→0≤gt m.e (i:Int)∧gt m.e (i:Int)<q.e.length:=
 ⟨fun i hi=>(h.em.ok.nd i (by have:=h.em.ok.ln;omega)).1,fun i hi=>(h.em.ok.ed i (by have:=h.em.ok.le;omega)).1⟩
theorem Qao(n:Nat)(b m:List Int):(JL n b m).length=n:=JM n b m _
theorem Qgu(h:TyOk t){p:Pa}{x:Hs}(hx:HsOk t x){m:Mo}{q:G}{v:Int}(hc:FbE t p m q v){mt:Mo}(hm:SmOk t p.g x.g mt)(j:Bool):SxOk (exS t q x m mt j) where
 t:=h
 p:=hc.em.ok.vb
 g:=hx.g
 tp:=hc.ty
 tg:=hx.ty
 an:=Qao _ _ _
 ae:=Qao _ _ _
 bn:=fun y hy=>by
  obtain⟨k,hk,rfl⟩:=Xk hy
  simp only[exS,Qao] at hk ⊢
  rcases Qd0 (m:=mt.n) hc.bn.1 hk with e|⟨i,hi,_,e⟩
  ·rw[e];omega
  ·rw[e];have:=(hm.nd i (by have:=hc.em.ok.ln;omega)).1;omega
 be:=fun y hy=>by
  obtain⟨k,hk,rfl⟩:=Xk hy
  simp only[exS,Qao] at hk ⊢
  rcases Qd0 (m:=mt.e) hc.bn.2 hk with e|⟨i,hi,_,e⟩
  ·rw[e];omega
  ·rw[e];have:=(hm.ed i (by have:=hc.em.ok.le;omega)).1;omega
theorem QtS{q:G}{v:Int}(hv:0≤v∧v≤12)(x:Hs)(m:Mo)(vs:List Int)(hl:vs.length=v.toNat):FT 407 [paD (paQ q v),hsD x,mD m,.lst 1 (QR vs)] (.tup [.arr 1 (QR vs),.bool true]):=by
 refine fo [[],[(7,none,[],true),(14,none,[7],false)]] ?_
 conv in fnC ..=>reduce
 obtain⟨v1,v2⟩:=hv
 simp(disch:=omega)only[go_sem,ayS,paQ,paD,paL,XI,Ye,hsD,hsL,mD]
 refine Yw (fun a:Nat×List Bool=>[(12,.int .i64 a.1)]) (fun a=>[(4,.arr 1 (bls a.2))]) (fun a=>a.1≤v.toNat∧a.2.length=v.toNat) (fun a=>v.toNat-a.1) (0,List.replicate v.toNat false) (by simp(disch:=omega)only[go_sem];rfl) ⟨by simp,by simp⟩ ?_
 rintro⟨i,kn⟩ ⟨hi,hk⟩
 simp only at hi hk
 by_cases c:i<v.toNat
 ·simp(disch:=omega)only[go_sem,ayS,QdS]
  exact⟨(i+1,kn.set i true),by simp,⟨by simp only;omega,by simp;exact hk⟩,by simp only;omega⟩
 ·simp(disch:=omega)only[go_sem,ayS]
  refine Xb 13 0 0 rfl (by omega) fun i _ hi=>?_
  obtain rfl:i=0:=by omega
  simp(disch:=omega)only[go_sem,ayS]
  refine Xb 18 0 0 rfl (by omega) fun i _ hi=>?_
  obtain rfl:i=0:=by omega
  simp(disch:=omega)only[go_sem,ayS]
def exF(L:List Mo)(vs:List Int):List Mt:=L.map fun x=>⟨x,vs⟩
theorem QtT(h:TyOk t){p:Pa}(hp:PaOk t p){x:Hs}(hx:HsOk t x){m:Mo}{q:G}{v:Int}(hc:FbE t p m q v){mt:Mt}(hm:SmOk t p.g x.g mt.m)(hv:mt.v.length=p.v.toNat)(j:Bool):
  FT 354 [tyD t,YB m q v,hsD x,mtD mt,.bool j] (if 5000<(Xu (exS t q x m mt.m j)).length then .tup [.arr 3 [],.int .i64 3] else .tup [.arr 3 (YG (exF (Xu (exS t q x m mt.m j)) mt.v)),.int .i64 0]):=by
 refine fo [[(10,none,[],true),(13,(some 6144),[10],false),(17,(some 98304),[10],false),(20,(some 786432),[10],false)],[]] ?_
 conv in fnC ..=>reduce
 have hvp:=hp.v
 have he:=hc.v
 have hj:=hc.inj
 have lq:=QX hc.em.ok.vb
 have ln:=hc.em.ok.ln
 have le:=hc.em.ok.le
 have mln:=hm.ln
 have mle:=hm.le
 have r1:=Qlb (n:=q.n.length) (m:=mt.m.n) (by omega) hc.bn.1 (by omega) (by omega)
 have r2:=Qlb (n:=q.e.length) (m:=mt.m.e) (by omega) hc.bn.2 (by omega) (by omega)
 have r3:=Qto (Qgu h hx hc hm j)
 have hl:(Xu (exS t q x m mt.m j)).length≤5001:=JK _ _ _ _ (by simp)
 have rv:=fun y=>QtS (q:=q) (v:=v) (by omega) x y mt.v (by rw[he];exact hv)
 generalize Xu (exS t q x m mt.m j)=L at*
 simp only[exS,gD,mD] at r3
 have i1:=Qao q.n.length m.n mt.m.n
 have i2:=Qao q.e.length m.e mt.m.e
 simp(disch:=omega)only[go_sem,ayS,tyD,YB,XB,cyL,hsD,hsL,mtD,mtL]
 refine QQ r1 ?_
 simp(disch:=omega)only[go_sem,ayS]
 refine QQ r2 ?_
 simp(disch:=omega)only[go_sem,ayS]
 refine QQ r3 ?_
 by_cases c:5000<L.length
 ·rw[if_pos c]
  simp(disch:=omega)only[go_sem,ayS,c]
 ·rw[if_neg c]
  cases hfl:(pts L).all D.flatE<;>(
   simp(disch:=omega)only[go_sem,ayS,c,hfl]
   refine Q8 17 L.length (fun i=>[(16,.sl 4 0 i)]) (fun i=>[(4,.arr 3 (YG (exF (L.take i) mt.v)))]) (fun _=>True) (by simp(disch:=omega)only[go_sem];rfl) trivial fun i hi _=>?_
   have hlt:(exF (L.take i) mt.v).length=i:=by rw[exF,QC,List.length_take_of_le hi]
   simp(disch:=omega)only[go_sem,ayS]
   refine QT (fun c=>?_) (fun c=>?_)
   ·simp(disch:=omega)only[go_sem,ayS]
    refine QQ (rv _) ?_
    cases hf2:(YG (exF (L.take i) mt.v)).all D.flatE<;>(
     simp(disch:=omega)only[go_sem,ayS,hlt,hf2]
     exact⟨i+1,by rw[Xm (by omega)];simp [exF,YG,mtD,mtL],by omega,by omega⟩)
   ·obtain rfl:i=L.length:=by omega
    rw[List.take_length] at*
    simp(disch:=omega)only[go_sem,ayS,hlt])
def YQ:D:=.agg [.int .i64 0,.arr 1 [],.arr 1 [],.arr 1 [],.arr 5 []]
theorem Qlg(t:Ty)(x:Hs)(mt:Mt)(j:Bool):FT 293 [tyD t,.agg ttL,hsD x,mtD mt,.bool j] (.tup [YQ,.int .i64 0]):=by
 refine fo [[],[],[],[],[(2,none,[],true),(3,none,[],true),(5,none,[2,3],false)]] ?_
 conv in fnC ..=>reduce
 simp(disch:=omega)only[go_sem,ayS,tyD,ttL,cyL,hsD,hsL,mtD,mtL]
 rfl
def frD(X:List Mt):D:=.agg [.int .i64 0,.lst 1 (QR (gt X 0).m.n),.lst 1 (QR (gt X 0).m.e),.lst 1 (QR (gt X 0).v),.arr 5 [.agg [.int .i64 0,.lst 1 [],.lst 1 [],.lst 1 [],.lst 5 []]]]
theorem QtU(h:TyOk t){p:Pa}(hp:PaOk t p){x:Hs}(hx:HsOk t x){m:Mo}{q:G}{v:Int}(hc:FbE t p m q v){mt:Mt}(hm:SmOk t p.g x.g mt.m)(hv:mt.v.length=p.v.toNat)(j:Bool):
  FT 293 [tyD t,YB m q v,hsD x,mtD mt,.bool j] (if Xu (exS t q x m mt.m j)=[] then .tup [YQ,.int .i64 10] else if 5000<(Xu (exS t q x m mt.m j)).length then .tup [YQ,.int .i64 3] else .tup [frD (exF (Xu (exS t q x m mt.m j)) mt.v),.int .i64 0]):=by
 have re:=QtT h hp hx hc hm hv j
 have hl:(Xu (exS t q x m mt.m j)).length≤5001:=JK _ _ _ _ (by simp)
 generalize Xu (exS t q x m mt.m j)=L at*
 by_cases hL:L=[]
 ·subst hL
  rw[if_neg (by simp)] at re
  rw[if_pos rfl]
  simp only[exF,List.map_nil,YG] at re
  refine fo [[],[],[],[],[(2,none,[],true),(3,none,[],true),(5,none,[2,3],false)]] ?_
  conv in fnC ..=>reduce
  simp(disch:=omega)only[go_sem,ayS,tyD,YB,XB,cyL,hsD,hsL,mtD,mtL]
  refine QQ re ?_
  simp(disch:=omega)only[go_sem,ayS]
  refine Xb 23 0 0 (by simp(disch:=omega)only[go_sem];rfl) (by omega) fun i _ hi=>?_
  obtain rfl:i=0:=by omega
  simp(disch:=omega)only[go_sem,ayS]
  rfl
 ·rw[if_neg hL]
  by_cases c:5000<L.length
  ·rw[if_pos c] at re ⊢
   refine fo [[],[],[],[],[(2,none,[],true),(3,none,[],true),(5,none,[2,3],false)]] ?_
   conv in fnC ..=>reduce
   simp(disch:=omega)only[go_sem,ayS,tyD,YB,XB,cyL,hsD,hsL,mtD,mtL]
   refine QQ re ?_
   simp(disch:=omega)only[go_sem,ayS]
   rfl
  ·rw[if_neg c] at re ⊢
   have h0:0<L.length:=List.length_pos_iff.2 hL
   have hlt:(exF L mt.v).length=L.length:=by simp [exF]
   have rt:=Qlg t x (gt (exF L mt.v) (((0:Nat):Int))) j
   generalize exF L mt.v=X at*
   refine fo [[],[],[],[],[(2,none,[],true),(3,none,[],true),(5,none,[2,3],false)]] ?_
   conv in fnC ..=>reduce
   simp(disch:=omega)only[go_sem,ayS,tyD,YB,XB,cyL,hsD,hsL,mtD,mtL,ttL]
   refine QQ re ?_
   cases hfl:(YG X).all D.flatE<;>(
    simp(disch:=omega)only[go_sem,ayS,hlt,hfl]
    refine Xb 23 0 0 (by simp(disch:=omega)only[go_sem,hlt];rfl) (by omega) fun i _ hi=>?_
    obtain rfl:i=0:=by omega
    simp(disch:=omega)only[go_sem,ayS,hlt,mtD,mtL]
    refine QQ rt ?_
    simp(disch:=omega)only[go_sem,ayS,YQ,hlt,mtD,mtL]
    rfl)
theorem QtV(t:Ty)(x:Hs)(mt:Mt)(j:Bool):FT 210 [tyD t,fbD .tt,hsD x,mtD mt,.bool j] (.tup [.bool true,.int .i64 0]):=by
 have rt:=Qlg t x mt j
 refine fo [] ?_
 conv in fnC ..=>reduce
 simp(disch:=omega)only[go_sem,ayS,tyD,fbD,fbL,ttL,cyL,hsD,hsL,mtD,mtL]
 simp only[tyD,ttL,cyL,hsD,hsL,mtD,mtL] at rt
 refine QQ rt ?_
 simp(disch:=omega)only[go_sem,ayS,YQ]
theorem QtW(h:TyOk t){p:Pa}(hp:PaOk t p){x:Hs}(hx:HsOk t x){m:Mo}{q:G}{v:Int}(hc:FbE t p m q v){mt:Mt}(hm:SmOk t p.g x.g mt.m)(hv:mt.v.length=p.v.toNat)(j:Bool):
  FT 293 [tyD t,fbD (.no m q v),hsD x,mtD mt,.bool j] (.tup [YQ,.int .i64 (if Xu (exS t q x m mt.m j)=[] then 0 else if 5000<(Xu (exS t q x m mt.m j)).length then 3 else 10)]):=by
 have re:=QtU h hp hx hc hm hv j
 generalize Xu (exS t q x m mt.m j)=L at*
 by_cases hL:L=[]
 ·rw[if_pos hL] at re ⊢
  refine fo [[],[],[],[],[(2,none,[],true),(3,none,[],true),(5,none,[2,3],false)]] ?_
  conv in fnC ..=>reduce
  simp(disch:=omega)only[go_sem,ayS,tyD,fbD,fbL,XB,cyL,hsD,hsL,mtD,mtL]
  simp only[tyD,YB,XB,cyL,hsD,hsL,mtD,mtL] at re
  refine QQ re ?_
  simp(disch:=omega)only[go_sem,ayS,YQ]
 ·rw[if_neg hL] at re ⊢
  by_cases c:5000<L.length
  ·rw[if_pos c] at re ⊢
   refine fo [[],[],[],[],[(2,none,[],true),(3,none,[],true),(5,none,[2,3],false)]] ?_
   conv in fnC ..=>reduce
   simp(disch:=omega)only[go_sem,ayS,tyD,fbD,fbL,XB,cyL,hsD,hsL,mtD,mtL]
   simp only[tyD,YB,XB,cyL,hsD,hsL,mtD,mtL] at re
   refine QQ re ?_
   simp(disch:=omega)only[go_sem,ayS,YQ]
  ·rw[if_neg c] at re ⊢
   refine fo [[],[],[],[],[(2,none,[],true),(3,none,[],true),(5,none,[2,3],false)]] ?_
   conv in fnC ..=>reduce
   simp(disch:=omega)only[go_sem,ayS,tyD,fbD,fbL,XB,cyL,hsD,hsL,mtD,mtL]
   simp only[tyD,YB,XB,cyL,hsD,hsL,mtD,mtL,frD] at re
   refine QQ re ?_
   simp(disch:=omega)only[go_sem,ayS,YQ]
theorem QtX(h:TyOk t){p:Pa}(hp:PaOk t p){x:Hs}(hx:HsOk t x){m:Mo}{q:G}{v:Int}(hc:FbE t p m q v){mt:Mt}(hm:SmOk t p.g x.g mt.m)(hv:mt.v.length=p.v.toNat)(j:Bool):
  FT 210 [tyD t,fbD (.no m q v),hsD x,mtD mt,.bool j] (if Xu (exS t q x m mt.m j)=[] then .tup [.bool true,.int .i64 0] else .tup [.bool false,.int .i64 (if 5000<(Xu (exS t q x m mt.m j)).length then 3 else 0)]):=by
 have re:=QtW h hp hx hc hm hv j
 generalize Xu (exS t q x m mt.m j)=L at*
 refine fo [] ?_
 conv in fnC ..=>reduce
 simp(disch:=omega)only[go_sem,ayS,tyD,fbD,fbL,XB,cyL,hsD,hsL,mtD,mtL]
 simp only[tyD,fbD,fbL,XB,cyL,hsD,hsL,mtD,mtL] at re
 refine QQ re ?_
 by_cases hL:L=[]
 ·rw[if_pos hL]
  simp(disch:=omega)only[go_sem,ayS,YQ,hL]
 ·rw[if_neg hL]
  by_cases c:5000<L.length<;>simp(disch:=omega)only[go_sem,ayS,YQ,hL,c]
end
theorem QtY{s:Sx}(h:SxOk s)(hx:NoX s):FT 471 [tyD s.t,gD s.p,gD s.g,mD s.a,.bool s.j,.int .i64 5001] (.arr 2 []):=by
 refine fo [[(0,none,[],true),(1,none,[],true),(3,none,[0,1],true),(4,(some 0),[3],false)]] ?_
 conv in fnC ..=>reduce
 have r:=Qti h hx _ [] [] ⟨by simp,by simp,by simp,by simp⟩ ⟨by simp,by simp,by simp,by simp⟩ (fun _=>rfl) rfl
 have hMl:=Qam s.t
 have hn:=h.t.ln
 simp only[fxB] at r
 simp(disch:=omega)only[go_sem,tyD,gD,mD]
 refine QQ (Qkv h.t) ?_
 simp(disch:=omega)only[go_sem]
 refine QQ r ?_
 simp(disch:=omega)only[go_sem]
theorem QtZ{s:Sx}(h:SxOk s)(hx:NoX s):FT 467 [tyD s.t,gD s.p,gD s.g,mD s.a,.bool s.j] (.tup [.arr 2 [],.int .i64 0]):=by
 refine fo [] ?_
 conv in fnC ..=>reduce
 simp(disch:=omega)only[go_sem,tyD,gD,mD]
 refine QQ (QtY h hx) ?_
 simp(disch:=omega)only[go_sem,axS]
theorem Qt0{s:Sx}(h:SxOk s)(hx:NoX s):FT 456 [tyD s.t,gD s.p,gD s.g,mD s.a,.bool s.j] (.tup [.arr 2 [],.int .i64 0]):=by
 refine fo [] ?_
 conv in fnC ..=>reduce
 have lp:=QX h.p
 have l1:=h.an
 have l2:=h.ae
 simp(disch:=omega)only[go_sem,axS,tyD,gD,mD]
 refine QQ (Qgh h.t h.p h.g h.tp h.tg) ?_
 simp(disch:=omega)only[go_sem,axS]
 refine QQ (Qkx _ (by omega) _ h.bn) ?_
 simp(disch:=omega)only[go_sem,axS]
 refine QQ (Qkx _ (by omega) _ h.be) ?_
 simp(disch:=omega)only[go_sem,axS]
 refine QQ (QtZ h hx) ?_
 simp(disch:=omega)only[go_sem]
theorem Qd2{n:Int}(h0:0≤n)(h1:n≤1000000):IntKind.u64.wrap n=n:=by
 have:IntKind.u64.wrap n=n%18446744073709551616:=rfl
 omega
theorem Qt1{n:Int}(h0:0≤n)(h1:n≤1000000):IntKind.u64.wrap ((BitVec.ofInt 64 n&&&BitVec.ofInt 64 4294967295).toNat:Int)=n:=by
 obtain⟨k,rfl⟩:=Int.eq_ofNat_of_zero_le h0
 have:(BitVec.ofInt 64 (k:Int)&&&BitVec.ofInt 64 4294967295).toNat=k:=by
  rw[BitVec.ofInt_natCast,BitVec.toNat_and,BitVec.toNat_ofNat]
  have e:(BitVec.ofInt 64 4294967295).toNat=2 ^ 32-1:=rfl
  rw[e,Nat.and_two_pow_sub_one_eq_mod]
  omega
 rw[this]
 exact Qd2 h0 h1
theorem Qlh{n:Int}(h0:0≤n)(h1:n≤1000000):Int.fdiv n (2 ^ min 32 64)=0:=by
 rw[Int.fdiv_eq_ediv_of_nonneg _ (by decide)]
 have:(2:Int) ^ min 32 64=4294967296:=by decide
 rw[this]
 omega
theorem Qt2{n:Int}(h0:0≤n)(h1:n≤1000000):IntKind.u64.wrap (IntKind.u64.wrap (0+(IntKind.u64.wrap (IntKind.u64.wrap (0*IntKind.u64.wrap ((BitVec.ofInt 64 n&&&BitVec.ofInt 64 4294967295).toNat:Int))+(IntKind.u64.wrap (IntKind.u64.wrap ((BitVec.ofInt 64 1&&&BitVec.ofInt 64 4294967295).toNat:Int)*IntKind.u64.wrap ((BitVec.ofInt 64 n&&&BitVec.ofInt 64 4294967295).toNat:Int))).fdiv (2 ^ min 32 64))).fdiv (2 ^ min 32 64))+(IntKind.u64.wrap (IntKind.u64.wrap ((BitVec.ofInt 64 (IntKind.u64.wrap (IntKind.u64.wrap (0*IntKind.u64.wrap ((BitVec.ofInt 64 n&&&BitVec.ofInt 64 4294967295).toNat:Int))+(IntKind.u64.wrap (IntKind.u64.wrap ((BitVec.ofInt 64 1&&&BitVec.ofInt 64 4294967295).toNat:Int)*IntKind.u64.wrap ((BitVec.ofInt 64 n&&&BitVec.ofInt 64 4294967295).toNat:Int))).fdiv (2 ^ min 32 64)))&&&BitVec.ofInt 64 4294967295).toNat:Int)+IntKind.u64.wrap (IntKind.u64.wrap ((BitVec.ofInt 64 1&&&BitVec.ofInt 64 4294967295).toNat:Int)*0))).fdiv (2 ^ min 32 64))=0:=by
 have a1:IntKind.u64.wrap ((BitVec.ofInt 64 1&&&BitVec.ofInt 64 4294967295).toNat:Int)=1:=by decide
 have a4:Int.fdiv n (2 ^ min 32 64)=0:=Qlh h0 h1
 have a5:IntKind.u64.wrap (1*n)=n:=by rw[Int.one_mul];exact Qd2 h0 h1
 have a6:IntKind.u64.wrap (0*n)=0:=by rw[Int.zero_mul];rfl
 rw[Qt1 h0 h1,a1,a5,a6,a4]
 decide
def rpK(v:Int)(n k:Nat):List D:=QR (List.replicate k v++List.replicate (n-k) 0)
theorem Qt3{v:Int}{n k:Nat}(h:k≤n):(rpK v n k).length=n:=by simp [rpK,QR];omega
theorem Qt4{v:Int}{n k:Nat}:(rpK v n k).take k=QR (List.replicate k v):=by
 simp [rpK,QR]
theorem Qt5(v:Int)(n:Nat):List.take (min 1 n) [v]++List.drop (List.take (min 1 n) [v]).length (List.replicate n (0:Int))=List.replicate (min 1 n) v++List.replicate (n-min 1 n) 0:=by
 cases n with
 |zero=>rfl
 |succ n=>
  have:min 1 (n+1)=1:=by omega
  rw[this]
  simp
theorem Qt6{v:Int}{n:Nat}:rpK v n n=QR (List.replicate n v):=by simp [rpK]
theorem Qt7{v:Int}{n k:Nat}(h:k<n):(rpK v n k).take k++(QR (List.replicate (min k (n-k)) v)++(rpK v n k).drop (k+min k (n-k)))=rpK v n (k+min k (n-k)):=by
 apply List.ext_getElem?
 intro i
 simp only[rpK,QR,List.map_append,List.map_replicate,List.take_append,List.drop_append,List.take_replicate,List.drop_replicate,List.length_replicate,List.getElem?_append,List.getElem?_replicate,Qj]
 repeat' split
 all_goals first|rfl|omega
theorem Qt8(n:Int)(h0:0≤n)(h1:n≤1000000):FC Tryz.prog 342 [.int .u64 1,.int .u64 n] (.tup [.int .u64 0,.int .u64 n]) []:=by
 refine fo [] ?_
 conv in fnC ..=>reduce
 have h32:((32:Int)<0)=False:=by simp
 have a2:Int.fdiv 1 (2 ^ min 32 64)=0:=by decide
 have a4:Int.fdiv n (2 ^ min 32 64)=0:=Qlh h0 h1
 have a5:IntKind.u64.wrap (1*n)=n:=by rw[Int.one_mul];exact Qd2 h0 h1
 have b2:IntKind.u64.wrap (0*0)=0:=rfl
 simp(disch:=omega)only[go_sem,h32,a2,a4,a5,b2]
 exact congrArg (fun x=>some (D.tup [.int .u64 x,.int .u64 n],([]:List (Nat×D)))) (Qt2 h0 h1)
theorem Qt9(n:Int)(h0:0≤n)(h1:n≤1000000):FC Tryz.prog 269 [.int .u64 1,.int .u64 n] (.tup [.int .u64 0,.int .u64 n]) []:=by
 refine fo [] ?_
 conv in fnC ..=>reduce
 have r:=Qt8 n h0 h1
 simp(disch:=omega)only[go_sem]
 refine QQ r ?_
 simp(disch:=omega)only[go_sem]
theorem Qli(v:Int)(n:Nat)(hn:n≤1000000):FC Tryz.prog 186 [.lst 1 (QR [v]),.int .i64 n] (.arr 1 (QR (List.replicate n v))) []:=by
 refine fo [[]] ?_
 conv in fnC ..=>reduce
 have r:=Qt9 n (by omega) (by omega)
 have c1:IntKind.u64.wrap 1=1:=rfl
 have c2:IntKind.u64.wrap (n:Int)=n:=Qd2 (by omega) (by omega)
 have g0:decide ((n:Int)<0)=false:=Qf (by omega)
 have g1:decide ((0:Int)<0)=false:=rfl
 have g2:decide ((9223372036854775807:Int)<n)=false:=Qf (by omega)
 simp(disch:=omega)only[go_sem,g0,c1,c2]
 refine QQ r ?_
 simp(disch:=omega)only[go_sem,g1,g2]
 refine Xj (fun k:Nat=>⟨[(7,.sl 0 0 n),(8,.int .i64 k)],[(0,.arr 1 (rpK v n k))],1⟩) (fun k=>k≤n∧(k=0→n=0)) (fun k=>n-k) (min 1 n) ?_ ?_ ?_
 ·simp(disch:=omega)only[go_sem]
  rw[Qt5]
  rfl
 ·omega
 ·rintro k ⟨hk,h0⟩
  by_cases h:k<n
  ·have g3:decide ((k:Int)<n)=true:=Qe (by omega)
   have e1:=Qt3 (v:=v) hk
   have e0:k-0=k:=Nat.sub_zero k
   have e2:(k=n)=False:=eq_false (by omega)
   have e3:(List.take k (rpK v n k)).length=k:=by rw[Qo,e1];omega
   have e4:List.take (min k (n-k)) (List.take k (rpK v n k))=QR (List.replicate (min k (n-k)) v):=by
    rw[Qt4]
    simp only[QR,List.map_replicate,List.take_replicate]
    rw[show min (min k (n-k)) k=min k (n-k) by omega]
   have e5:(List.replicate (min k (n-k)) v).length=min k (n-k):=List.length_replicate
   have e6:=Qt7 (v:=v) h
   have e7:(List.take k (rpK v n k)++QR (List.replicate (min k (n-k)) v)++List.drop (k+min k (n-k)) (rpK v n k))=rpK v n (k+min k (n-k)):=by rw[Qx];exact e6
   simp(disch:=omega)only[go_sem,g3,e0,e1,e2,e3,e4,e5,e7]
   exact⟨k+min k (n-k),by simp,by omega,by omega⟩
  ·obtain rfl:k=n:=by omega
   have g3:decide ((k:Int)<k)=false:=Qf (by omega)
   simp(disch:=omega)only[go_sem,g3,Qt6]
theorem Qlj{n:Nat}{b m:List Int}(hn:n≤1000)(hb:∀i:Nat,i<b.length→0≤gt b (i:Int)∧gt b (i:Int)<n)(hl:b.length≤m.length)(hl2:b.length≤1000):FT 455 [.int .i64 n,.lst 1 (QR b),.lst 1 (QR m)] (.arr 1 (QR (JL n b m))):=by
 refine fo [] ?_
 conv in fnC ..=>reduce
 have r:FT 186 [.lst 1 [.int .i64 (-1)],.int .i64 n] (.arr 1 (QR (Y4 n b m 0))):=Qli (-1) n (by omega)
 simp(disch:=omega)only[go_sem]
 refine QQ r ?_
 simp(disch:=omega)only[go_sem]
 refine Q8 15 b.length (fun _=>[]) (fun k=>[(0,.arr 1 (QR (Y4 n b m k)))]) (fun _=>True) (by simp(disch:=omega)only[go_sem,JM n b m 0]) trivial fun k hk _=>?_
 have hf0:=JM n b m 0
 have hf:=JM n b m k
 simp(disch:=omega)only[go_sem]
 refine QT (fun c=>?_) (fun c=>?_)
 ·have:=hb k (by omega)
  simp(disch:=omega)only[go_sem,ayS,hf,hf0]
  exact⟨k+1,by simp [Y4],by omega,by omega⟩
 ·obtain rfl:k=b.length:=by omega
  simp(disch:=omega)only[go_sem,hf,hf0]
  rfl
section
variable {t:Ty}
theorem Qua{p:Pa}{x:Hs}{m:Mo}{q:G}{v:Int}(hc:FbE t p m q v){mt:Mo}(hm:SmOk t p.g x.g mt){j:Bool}(hf:ZQ t x j mt (.no m q v)):NoX (exS t q x m mt j):=fun N M h1 h2 h3 h4=>by
 have ln:=hc.em.ok.ln
 have le:=hc.em.ok.le
 refine hf ⟨N,M⟩ ⟨⟨h2,h4,fun i hi=>h1.b i (by rw[h2];exact hi),fun i hi=>h3.b i (by rw[h4];exact hi)⟩,fun e=>⟨h1.j e,h3.j e⟩,fun i hi=>?_,fun i hi=>?_⟩
 ·obtain⟨k,hk⟩:∃k:Nat,gt m.n (i:Int)=k:=⟨_,(Int.toNat_of_nonneg (hc.bn.1 i hi).1).symm⟩
  have a:=Qla (n:=q.n.length) (m:=mt.n) hc.nd.1 hc.bn.1 hi
  have b:=hc.bn.1 i hi
  have c:=(hm.nd i (by omega)).1
  rw[hk] at a b ⊢
  have d:=h1.a k (by rw[h2];simp only[exS];omega) (by simp only[exS];rw[a];exact c.1)
  simp only[exS] at d
  exact d.symm.trans a
 ·obtain⟨k,hk⟩:∃k:Nat,gt m.e (i:Int)=k:=⟨_,(Int.toNat_of_nonneg (hc.bn.2 i hi).1).symm⟩
  have a:=Qla (n:=q.e.length) (m:=mt.e) hc.nd.2 hc.bn.2 hi
  have b:=hc.bn.2 i hi
  have c:=(hm.ed i (by omega)).1
  rw[hk] at a b ⊢
  have d:=h3.a k (by rw[h4];simp only[exS];omega) (by simp only[exS];rw[a];exact c.1)
  simp only[exS] at d
  exact d.symm.trans a
theorem Qub{p:Pa}{x:Hs}{m:Mo}{q:G}{v:Int}(hc:FbE t p m q v){mt:Mo}(hm:SmOk t p.g x.g mt){j:Bool}(hn:NoX (exS t q x m mt j)):ZQ t x j mt (.no m q v):=fun y h=>by
 have ln:=hc.em.ok.ln
 have le:=hc.em.ok.le
 refine hn y.n y.e ⟨Nat.le_of_eq h.s.ln,fun i hi=>h.s.nd i (by have:=h.s.ln;rw[this] at hi;exact hi),fun i hi h0=>?_,fun e=>(h.jn e).1⟩ h.s.ln ⟨Nat.le_of_eq h.s.le,fun i hi=>h.s.ed i (by have:=h.s.le;rw[this] at hi;exact hi),fun i hi h0=>?_,fun e=>(h.jn e).2⟩ h.s.le
 ·simp only[exS] at h0 ⊢
  rcases Qd0 (m:=mt.n) hc.bn.1 (k:=i) (by have:=h.s.ln;omega) with a|⟨k,k1,k2,k3⟩
  ·rw[a] at h0;omega
  ·rw[k3,←h.n k k1,k2]
 ·simp only[exS] at h0 ⊢
  rcases Qd0 (m:=mt.e) hc.bn.2 (k:=i) (by have:=h.s.le;omega) with a|⟨k,k1,k2,k3⟩
  ·rw[a] at h0;omega
  ·rw[k3,←h.e k k1,k2]
theorem FbOk.ex{p:Pa}{m:Mo}{q:G}{v:Int}(h:FbOk t p (.no m q v)):FbE t p m q v:=⟨h.1,h.2.1,h.2.2.1⟩
theorem Quc(h:TyOk t){p:Pa}(hp:PaOk t p){x:Hs}(hx:HsOk t x){c:Fb}(hc:FbOk t p c){mt:Mt}(hm:SmOk t p.g x.g mt.m)(hv:mt.v.length=p.v.toNat)(j:Bool):
  (ZQ t x j mt.m c∧FT 210 [tyD t,fbD c,hsD x,mtD mt,.bool j] (.tup [.bool true,.int .i64 0]))∨(∃e,(e=0∨e=3)∧FT 210 [tyD t,fbD c,hsD x,mtD mt,.bool j] (.tup [.bool false,.int .i64 e])):=by
 cases c with
 |tt=>exact .inl ⟨trivial,QtV t x mt j⟩
 |no m q v=>
  have r:=QtX h hp hx hc.ex hm hv j
  by_cases hr:Xu (exS t q x m mt.m j)=[]
  ·rw[if_pos hr] at r
   exact .inl ⟨Qub hc.ex hm (Qtp (Qgu h hx hc.ex hm j) hr),r⟩
  ·rw[if_neg hr] at r
   by_cases d:5000<(Xu (exS t q x m mt.m j)).length
   ·rw[if_pos d] at r;exact .inr ⟨3,.inr rfl,r⟩
   ·rw[if_neg d] at r;exact .inr ⟨0,.inl rfl,r⟩
def scD(t:Ty)(x:Hs)(j:Bool):D:=.agg [.lst 4 (Y0 t.n),.lst 7 (Y1 t.e),.lst 1 (QR x.g.n),.lst 3 (eds x.g.e),.lst 1 (X8 x.v),.bool j]
theorem Qud(h:TyOk t){p:Pa}{x:Hs}(hx:HsOk t x){m:Mo}{q:G}{v:Int}(hc:FbE t p m q v){mt:Mt}(hm:SmOk t p.g x.g mt.m){j:Bool}(hf:ZQ t x j mt.m (.no m q v)):
  FT 430 [scD t x j,YB m q v,mtD mt] (.tup [.arr 3 [],.int .i64 0]):=by
 refine fo [[(9,none,[],true),(11,(some 1024),[9],false),(15,(some 24576),[9],false),(18,(some 196608),[9],false)]] ?_
 conv in fnC ..=>reduce
 have hj:=hc.inj
 have lq:=QX hc.em.ok.vb
 have ln:=hc.em.ok.ln
 have le:=hc.em.ok.le
 have mln:=hm.ln
 have mle:=hm.le
 have r1:=Qlj (n:=q.n.length) (m:=mt.m.n) (by omega) hc.bn.1 (by omega) (by omega)
 have r2:=Qlj (n:=q.e.length) (m:=mt.m.e) (by omega) hc.bn.2 (by omega) (by omega)
 have r3:=Qt0 (Qgu h hx hc hm j) (Qua hc hm hf)
 simp only[exS,gD,mD,tyD] at r3
 have i1:=Qao q.n.length m.n mt.m.n
 have i2:=Qao q.e.length m.e mt.m.e
 simp(disch:=omega)only[go_sem,ayS,scD,YB,XB,cyL,mtD,mtL]
 refine QQ r1 ?_
 simp(disch:=omega)only[go_sem,ayS]
 refine QQ r2 ?_
 simp(disch:=omega)only[go_sem,ayS]
 refine QQ r3 ?_
 simp(disch:=omega)only[go_sem,ayS]
 refine Xb 59 0 0 rfl (by omega) fun i _ hi=>?_
 obtain rfl:i=0:=by omega
 simp(disch:=omega)only[go_sem,ayS]
theorem Que(h:TyOk t){p:Pa}{x:Hs}(hx:HsOk t x){m:Mo}{q:G}{v:Int}(hc:FbE t p m q v){mt:Mt}(hm:SmOk t p.g x.g mt.m){j:Bool}(hf:ZQ t x j mt.m (.no m q v)):
  FT 379 [scD t x j,YB m q v,mtD mt] (.tup [YQ,.int .i64 10]):=by
 have r:=Qud h hx hc hm hf
 simp only[scD,YB,XB,cyL,mtD,mtL] at r
 refine fo [[]] ?_
 conv in fnC ..=>reduce
 simp(disch:=omega)only[go_sem,ayS,scD,YB,XB,cyL,mtD,mtL]
 refine QQ r ?_
 simp(disch:=omega)only[go_sem,ayS]
 refine Xb 27 0 0 rfl (by omega) fun i _ hi=>?_
 obtain rfl:i=0:=by omega
 simp(disch:=omega)only[go_sem,ayS]
 rfl
theorem Quf(h:TyOk t){p:Pa}{x:Hs}(hx:HsOk t x){m:Mo}{q:G}{v:Int}(hc:FbE t p m q v){mt:Mt}(hm:SmOk t p.g x.g mt.m){j:Bool}(hf:ZQ t x j mt.m (.no m q v)):
  FT 326 [scD t x j,YB m q v,mtD mt] (.tup [YQ,.int .i64 10]):=by
 have r:=Que h hx hc hm hf
 simp only[scD,YB,XB,cyL,mtD,mtL,YQ] at r
 refine fo [[]] ?_
 conv in fnC ..=>reduce
 simp(disch:=omega)only[go_sem,ayS,scD,YB,XB,cyL,mtD,mtL]
 refine QQ r ?_
 simp(disch:=omega)only[go_sem,ayS]
 rfl
theorem Qug(h:TyOk t){p:Pa}{x:Hs}(hx:HsOk t x){c:Fb}(hc:FbOk t p c){mt:Mt}(hm:SmOk t p.g x.g mt.m){j:Bool}(hf:ZQ t x j mt.m c):
  FT 326 [scD t x j,fbD c,mtD mt] (.tup [YQ,.int .i64 0]):=by
 cases c with
 |tt=>
  refine fo [[]] ?_
  conv in fnC ..=>reduce
  simp(disch:=omega)only[go_sem,ayS,scD,fbD,fbL,ttL,cyL,mtD,mtL]
  rfl
 |no m q v=>
  have r:=Quf h hx hc.ex hm hf
  simp only[scD,YB,XB,cyL,mtD,mtL,YQ] at r
  refine fo [[]] ?_
  conv in fnC ..=>reduce
  simp(disch:=omega)only[go_sem,ayS,scD,fbD,fbL,XB,cyL,mtD,mtL]
  refine QQ r ?_
  simp(disch:=omega)only[go_sem,ayS]
  rfl
theorem FbOk.all{p:Pa}{c:Fb}(h:FbOk t p c):∀m q v,c=.no m q v→FbE t p m q v:=fun m q v e=>by subst e;exact h.ex
theorem Quh(h:TyOk t){p:Pa}(hp:PaOk t p){x:Hs}(hx:HsOk t x){c:Fb}(hc:FbOk t p c){mt:Mt}(hm:SmOk t p.g x.g mt.m)(j:Bool)(hj:j=true→mt.m.n.Nodup∧mt.m.e.Nodup)(hs:XC p x mt.m=(mt.v,0)):
  FT 325 [tyD t,paD p,fbD c,hsD x,mtD mt,.bool j] (.int .i64 0):=by
 have r1:=Qlf h hp hc.all
 have r2:=QdR h hx
 have r3:=Qgj h hp.g hx.g hp.ty hx.ty hm j hj
 have r4:=Qk9 h hp hx hm
 rw[hs] at r4
 have hl:mt.v.length≤QS:=by
  have:=QdZ (p:=p) (x:=x) (m:=mt.m)
  rw[hs] at this
  simp only[List.length_replicate] at this
  have:=hp.v
  unfold QS
  omega
 have r5:=ZC mt.v mt.v hl
 have e:decide (mt.v=mt.v)=true:=Qe rfl
 rw[e] at r5
 have ln:=hm.ln
 have le:=hm.le
 have l1:=QX hp.g
 have l2:=QX hx.g
 have l3:=hx.ln
 cases c<;>(
  simp only[tyD,paD,paL,hsD,hsL,mtD,mtL,gD,mD,fbD,fbL,ttL,XB,cyL] at r1 r2 r3 r4
  refine fo [] ?_
  conv in fnC ..=>reduce
  simp(disch:=omega)only[go_sem,ayS,tyD,paD,paL,hsD,hsL,mtD,mtL,fbD,fbL,ttL,XB,cyL]
  refine QQ r1 ?_
  simp(disch:=omega)only[go_sem,ayS]
  refine QQ r2 ?_
  simp(disch:=omega)only[go_sem,ayS]
  refine QQ r3 ?_
  simp(disch:=omega)only[go_sem,ayS]
  refine QQ r4 ?_
  simp(disch:=omega)only[go_sem,ayS]
  refine QQ r5 ?_
  simp(disch:=omega)only[go_sem,ayS])
theorem Qui(h:TyOk t){p:Pa}(hp:PaOk t p){x:Hs}(hx:HsOk t x){c:Fb}(hc:FbOk t p c){mt:Mt}(hm:SmOk t p.g x.g mt.m)(j:Bool)(hj:j=true→mt.m.n.Nodup∧mt.m.e.Nodup)(hs:XC p x mt.m=(mt.v,0))(hf:ZQ t x j mt.m c):
  FT 237 [tyD t,paD p,fbD c,hsD x,mtD mt,.bool j] (.tup [YQ,.int .i64 0]):=by
 have r1:=Quh h hp hx hc hm j hj hs
 have r2:=Qug h hx hc hm hf
 cases c<;>(
  simp only[tyD,paD,paL,hsD,hsL,mtD,mtL,fbD,fbL,ttL,XB,cyL,scD] at r1 r2
  refine fo [] ?_
  conv in fnC ..=>reduce
  simp(disch:=omega)only[go_sem,ayS,tyD,paD,paL,hsD,hsL,mtD,mtL,fbD,fbL,ttL,XB,cyL]
  refine QQ r1 ?_
  simp(disch:=omega)only[go_sem,ayS]
  refine QQ r2 ?_
  simp(disch:=omega)only[go_sem,ayS,YQ])
theorem Quj(h:TyOk t){p:Pa}(hp:PaOk t p){x:Hs}(hx:HsOk t x){c:Fb}(hc:FbOk t p c){mt:Mt}(hm:SmOk t p.g x.g mt.m)(j:Bool)(hj:j=true→mt.m.n.Nodup∧mt.m.e.Nodup)(hs:XC p x mt.m=(mt.v,0))(hf:ZQ t x j mt.m c):
  FT 142 [tyD t,paD p,fbD c,hsD x,mtD mt,.bool j] (.tup [.bool true,.int .i64 0]):=by
 have r1:=Qui h hp hx hc hm j hj hs hf
 cases c<;>(
  simp only[tyD,paD,paL,hsD,hsL,mtD,mtL,fbD,fbL,ttL,XB,cyL] at r1
  refine fo [] ?_
  conv in fnC ..=>reduce
  simp(disch:=omega)only[go_sem,ayS,tyD,paD,paL,hsD,hsL,mtD,mtL,fbD,fbL,ttL,XB,cyL]
  refine QQ r1 ?_
  simp(disch:=omega)only[go_sem,ayS,YQ])
end
def fbk:Fb→Int| .tt=>1| .no _ _ _=>2
def fbs:Fb→List D| .tt=>[]| .no m q v=>[.agg (XB m q v)]
theorem fbE(c:Fb):fbL c=cyL (fbk c) (fbs c) m0 g0 0:=by cases c<;>rfl
theorem ru1(r:Ru):XK (Q6 r)=true:=by
 rcases r with⟨nm,l,r,k,i,j,c⟩
 cases c<;>rfl
theorem st1(s:Ste):XK (Xs s)=true:=by
 rcases s with⟨⟨nm,l,r,k,i,j,c⟩,m,b,a,t,c'⟩
 cases c<;>rfl
section
variable {t:Ty}
theorem Quk(l:List Int)(hl:l.length≤1000)(x:Int):FT 401 [.lst 1 (QR l),.int .i64 x] (.bool (decide (x∈l))):=by
 refine fo [] ?_
 conv in fnC ..=>reduce
 simp(disch:=omega)only[go_sem]
 refine Q8 5 l.length (fun _=>[]) (fun _=>[]) (fun i=>decide (x∈l)=decide (x∈l.drop i)) rfl rfl fun i hi hI=>?_
 simp(disch:=omega)only[go_sem]
 refine QT (fun c=>?_) (fun c=>?_)
 ·have hd:l.drop i=gt l (i:Int)::l.drop (i+1):=by rw[List.drop_eq_getElem_cons (by omega),QV (by omega)]
  rw[hd] at hI
  simp only[Qh] at hI
  by_cases d:gt l (i:Int)=x
  ·simp only[d,true_or,decide_true] at hI
   simp(disch:=omega)only[go_sem,ayS,d]
   rw[hI]
  ·have d':¬x=gt l (i:Int):=fun e=>d e.symm
   simp only[d',false_or] at hI
   simp(disch:=omega)only[go_sem,ayS,d]
   exact⟨i+1,by simp,⟨by omega,hI⟩,by omega⟩
 ·obtain rfl:i=l.length:=by omega
  rw[List.drop_length] at hI
  simp only[List.not_mem_nil,decide_false] at hI
  simp(disch:=omega)only[go_sem,ayS]
  rw[hI]
theorem Qap(n:Nat)(l:List Int):crL (n+1) l=if decide ((n:Int)∈l)=true then crL n l else crL n l++[(n:Int)]:=by
 unfold crL
 rw[J9]
 cases decide ((n:Int)∈l)<;>rfl
theorem Qlk(n:Nat)(hn:n≤1000)(l:List Int)(hl:l.length≤1000):FT 350 [.int .i64 n,.lst 1 (QR l)] (.arr 1 (QR (crL n l))):=by
 refine fo [] ?_
 conv in fnC ..=>reduce
 simp(disch:=omega)only[go_sem]
 refine Q8 6 n (fun i=>[(5,.sl 0 0 (crL i l).length)]) (fun i=>[(0,.arr 1 (QR (crL i l)))]) (fun _=>True) (by simp(disch:=omega)only[go_sem];rfl) trivial fun i hi _=>?_
 have hc:(crL i l).length≤i:=YM _ _
 have hs:=Qap i l
 simp(disch:=omega)only[go_sem]
 refine QT (fun c=>?_) (fun c=>?_)
 ·simp(disch:=omega)only[go_sem]
  refine QQ (Quk l hl i) ?_
  cases d:decide ((i:Int)∈l)<;>rw[d] at hs
  ·simp(disch:=omega)only[go_sem,ayS]
   rw[if_neg (by simp)] at hs
   exact⟨i+1,by simp [hs],by omega,by omega⟩
  ·simp(disch:=omega)only[go_sem,ayS]
   rw[if_pos rfl] at hs
   exact⟨i+1,by simp [hs],by omega,by omega⟩
 ·obtain rfl:i=n:=by omega
  simp(disch:=omega)only[go_sem,ayS]
structure RiOk(t:Ty)(p:Pa):Prop where
 g:QZ p.g=0
 ty:Typ t p.g
 v:0≤p.v∧p.v≤12
 te:p.t=[]
 sl:p.s.length≤10
 s:∀x∈p.s,SlOk t p.g p.v x
 d:∀i k:Nat,i<p.s.length→k<p.s.length→(gt p.s (i:Int)).nd=(gt p.s (k:Int)).nd→(gt p.s (i:Int)).ak=(gt p.s (k:Int)).ak→i=k
theorem RuOk.ri{r:Ru}(h:RuOk t r):RiOk t r.r:=⟨h.rg,h.rt,by rw[h.rv];exact h.l.v,h.re,h.rl,h.rs,h.rd⟩
theorem Qul(h:TyOk t){p:Pa}(hp:RiOk t p){i:Nat}(hi:i<p.s.length):FT 349 [tyD t,paD p,.int .i64 i] (.int .i64 0):=by
 refine fo [[],[]] ?_
 conv in fnC ..=>reduce
 have l:=QX hp.g
 have hx:=hp.s _ (gt_mem (l:=p.s) (j:=(i:Int)) (by omega) (by omega))
 have hd:=fun k hk=>hp.d k i hk hi
 have hsl:=hp.sl
 have hv:=hp.v
 obtain⟨q1,q2⟩:=hx.vr
 obtain⟨n1,n2⟩:=hx.nd
 obtain⟨a1,a2⟩:=hx.ak
 obtain⟨d1,d2⟩:=hx.ad
 have g:=X7 h (hp.ty.of hx.nd).2
 have ra:=Qag h (hp.ty.of hx.nd)
 generalize Q0 t (gt p.g.n (gt p.s (i:Int)).nd)=A at*
 simp(disch:=omega)only[go_sem,ayS,tyD,paD,paL,slD]
 refine QQ ra ?_
 simp(disch:=omega)only[go_sem,ayS,slD]
 refine Xb 10 i 0 rfl (by omega) fun k _ hk=>?_
 simp(disch:=omega)only[go_sem]
 refine QT (fun c=>?_) (fun c=>?_)
 ·have:=hd k (by omega)
  by_cases e1:(gt p.s (k:Int)).nd=(gt p.s (i:Int)).nd
  ·have e2:¬(gt p.s (k:Int)).ak=(gt p.s (i:Int)).ak:=fun e=>by have:=this e1 e;omega
   simp(disch:=omega)only[go_sem,ayS,slD,e1,e2]
   exact⟨k+1,by simp,by omega,by omega⟩
  ·simp(disch:=omega)only[go_sem,ayS,slD,e1]
   exact⟨k+1,by simp,by omega,by omega⟩
 ·simp(disch:=omega)only[go_sem]
theorem Qum(h:TyOk t){r:Ru}(hr:RuOk t r):FT 283 [tyD t,Q6 r] (.int .i64 0):=by
 have l:=QX hr.rg
 have r2:=Jn r.r.g
 rw[hr.rg] at r2
 have r3:=Qcm h hr.rg hr.rt
 have r4:=fun i hi=>Qul h hr.ri (i:=i) hi
 have hv:=hr.rv
 have he:=hr.re
 have hsl:=hr.rl
 simp only[gD,tyD,paD,paL] at r2 r3 r4
 rw[he,hv] at r4
 refine fo [] ?_
 conv in fnC ..=>reduce
 simp(disch:=omega)only[go_sem,ayS,Q6,ruL,tyD,paL,fbE,cyL,he]
 refine QQ r2 ?_
 simp(disch:=omega)only[go_sem,ayS]
 refine QQ r3 ?_
 simp(disch:=omega)only[go_sem,ayS,hv,Ye]
 refine Xb 6 r.r.s.length 0 rfl (by omega) fun k _ hk=>?_
 simp(disch:=omega)only[go_sem]
 refine QT (fun c=>?_) (fun c=>?_)
 ·simp(disch:=omega)only[go_sem,ayS]
  refine QQ (r4 k (by omega)) ?_
  simp(disch:=omega)only[go_sem,ayS]
  exact⟨k+1,by simp,by omega,by omega⟩
 ·simp(disch:=omega)only[go_sem]
theorem Qun(h:TyOk t){p:Pa}(hp:RiOk t p){a b:List Int}(ha:∀x∈a,(0≤x∧x<p.g.n.length)∧(gt t.n (gt p.g.n x)).ab=false)(hb:∀x∈b,(0≤x∧x<p.g.e.length)∧YF t (gt p.g.e x).t (gt p.g.n (gt p.g.e x).f) (gt p.g.n (gt p.g.e x).o)=true)(la:a.length≤100)(lb:b.length≤100):
  FT 286 [tyD t,gD p.g,.lst 1 (QR a),.lst 1 (QR b)] (.bool true):=by
 refine fo [[],[],[]] ?_
 conv in fnC ..=>reduce
 have l:=QX hp.g
 have l1:=h.ln
 have l2:=h.le
 simp(disch:=omega)only[go_sem,ayS,tyD,gD]
 refine Xb 9 a.length 0 rfl (by omega) fun i _ hi=>?_
 simp(disch:=omega)only[go_sem]
 refine QT (fun c=>?_) (fun c=>?_)
 ·obtain⟨⟨x1,x2⟩,x3⟩:=ha _ (gt_mem (l:=a) (j:=(i:Int)) (by omega) (by omega))
  have hy:=hp.ty.of ⟨x1,x2⟩
  obtain⟨y1,y2⟩:=hy
  simp(disch:=omega)only[go_sem,ayS,ntD,x3]
  exact⟨i+1,by simp,by omega,by omega⟩
 ·simp(disch:=omega)only[go_sem]
  refine Xb 10 b.length 0 rfl (by omega) fun i _ hi=>?_
  simp(disch:=omega)only[go_sem]
  refine QT (fun c=>?_) (fun c=>?_)
  ·obtain⟨⟨x1,x2⟩,x3⟩:=hb _ (gt_mem (l:=b) (j:=(i:Int)) (by omega) (by omega))
   obtain⟨k,hk⟩:∃k:Nat,gt b (i:Int)=k:=⟨_,(Int.toNat_of_nonneg x1).symm⟩
   rw[hk] at x1 x2 x3
   obtain⟨⟨f1,f2⟩,o1,o2⟩:=ZF hp.g (i:=k) (by omega)
   have rf:=Qdz h (k:=(gt p.g.e (k:Int)).t) (hp.ty.edg (by omega)) (hp.ty.of ⟨f1,f2⟩) (hp.ty.of ⟨o1,o2⟩)
   have x3':(Xh t (gt p.g.n (gt p.g.e (k:Int)).f) (gt t.e (gt p.g.e (k:Int)).t).f&&Xh t (gt p.g.n (gt p.g.e (k:Int)).o) (gt t.e (gt p.g.e (k:Int)).t).o)=true:=x3
   rw[x3'] at rf
   simp only[tyD] at rf
   simp(disch:=omega)only[go_sem,ayS,hk,edD]
   refine QQ rf ?_
   simp(disch:=omega)only[go_sem,ayS]
   exact⟨i+1,by simp,by omega,by omega⟩
  ·simp(disch:=omega)only[go_sem]
theorem Quo(h:TyOk t){r:Ru}(hr:RuOk t r):FT 284 [Q6 r] (.int .i64 0):=by
 have pl:=hr.k.len
 have r1:=Qgc r.l.g r.k (by unfold QS;omega) (by unfold QS;omega)
 rw[validP_ok.2 hr.k] at r1
 have r2:=Qgd r.l.g r.k hr.k.sm
 have e:exR r.l.g r.k=(ptG r.l.g r.k,r.k,0):=by unfold exR;rw[validP_ok.2 hr.k];rfl
 rw[e] at r2
 have r3:=Qcj (ptG r.l.g r.k) r.r.g r.i
 rw[mok.2 hr.i.ok] at r3
 have l:=QX hr.i.ok.va
 simp only[gD,mD,gA,mA] at r1 r2 r3
 generalize ptG r.l.g r.k=X at*
 refine fo [] ?_
 conv in fnC ..=>reduce
 simp(disch:=omega)only[go_sem,ayS,Q6,ruL,paL,fbE,cyL]
 refine QQ r1 ?_
 simp(disch:=omega)only[go_sem,ayS]
 refine QQ r2 ?_
 cases hfl:(eds X.e).all D.flatE<;>(
  simp(disch:=omega)only[go_sem,ayS,hfl]
  refine QQ r3 ?_
  simp(disch:=omega)only[go_sem,ayS])
theorem Qup{r:Ru}(hr:RuOk t r):FT 285 [Q6 r] (.tup [.arr 1 (QR (crL r.r.g.n.length r.i.n)),.arr 1 (QR (crL r.r.g.e.length r.i.e))]):=by
 have l:=QX hr.rg
 have l1:=hr.i.ok.ln
 have l2:=hr.i.ok.le
 have l3:=QX hr.i.ok.va
 have r1:=Qlk r.r.g.n.length (by omega) r.i.n (by omega)
 have r2:=Qlk r.r.g.e.length (by omega) r.i.e (by omega)
 refine fo [[(8,none,[],true),(12,(some 3584),[8],false),(16,(some 49152),[8],false)]] ?_
 conv in fnC ..=>reduce
 simp(disch:=omega)only[go_sem,ayS,Q6,ruL,paL,fbE,cyL]
 refine QQ r1 ?_
 simp(disch:=omega)only[go_sem,ayS]
 refine QQ r2 ?_
 simp(disch:=omega)only[go_sem,ayS]
theorem Qgv{n:Nat}{l:List Int}{x:Int}(hx:x∈crL n l):∃k:Nat,k<n∧x=k∧¬(k:Int)∈l:=by
 obtain⟨k,h1,h2,rfl⟩:=sel_mem.1 hx
 exact⟨k,h1,rfl,by simpa using h2⟩
theorem RuOk.crn{r:Ru}(h:RuOk t r):∀x∈crL r.r.g.n.length r.i.n,(0≤x∧x<r.r.g.n.length)∧(gt t.n (gt r.r.g.n x)).ab=false:=fun x hx=>by
 obtain⟨k,h1,rfl,h2⟩:=Qgv hx
 exact⟨by omega,h.cn k h1 h2⟩
theorem RuOk.cre{r:Ru}(h:RuOk t r):∀x∈crL r.r.g.e.length r.i.e,(0≤x∧x<r.r.g.e.length)∧YF t (gt r.r.g.e x).t (gt r.r.g.n (gt r.r.g.e x).f) (gt r.r.g.n (gt r.r.g.e x).o)=true:=fun x hx=>by
 obtain⟨k,h1,rfl,h2⟩:=Qgv hx
 exact⟨by omega,h.ce k h1 h2⟩
theorem Qd3{l:List Int}(h:l.Nodup):Yy l=true:=Qe h
theorem RuOk.nd{r:Ru}(h:RuOk t r):r.i.n.Nodup∧r.i.e.Nodup:=
 ⟨Qd1 fun i k hi hk e=>h.i.jn i k (by have:=h.i.ok.ln;omega) (by have:=h.i.ok.ln;omega) e,Qd1 fun i k hi hk e=>h.i.je i k (by have:=h.i.ok.le;omega) (by have:=h.i.ok.le;omega) e⟩
theorem Quq(h:TyOk t){r:Ru}(hr:RuOk t r):FT 201 [tyD t,Q6 r] (.int .i64 0):=by
 have l:=QX hr.rg
 have ll:=QX hr.l.g
 have l1:=hr.i.ok.ln
 have l2:=hr.i.ok.le
 have l3:=QX hr.i.ok.va
 have hk:=hr.k.len
 have hsl:=hr.rl
 have r0:=Qbz h
 have r1:=Qdx r.nm (by rw[hr.nm];exact Qae (by omega))
 have r2:=Qgm h hr.l
 have r3:=Qum h hr
 have r4:=Quo h hr
 have r5:=QdL r.i.n (by unfold QS;omega)
 have r6:=QdL r.i.e (by unfold QS;omega)
 rw[Qd3 hr.nd.1] at r5
 rw[Qd3 hr.nd.2] at r6
 have r7:=Qup hr
 have c1:(crL r.r.g.n.length r.i.n).length≤_:=YM _ _
 have c2:(crL r.r.g.e.length r.i.e).length≤_:=YM _ _
 have r8:=Qun h hr.ri hr.crn hr.cre (by omega) (by omega)
 have r9:=Qld h hr.l hr.c.all
 simp only[gD,mD,tyD,paD,Q6,ruL,paL,fbD,fbE,cyL,List.cons_append,List.nil_append] at r0 r2 r3 r4 r7 r8 r9
 refine fo [] ?_
 conv in fnC ..=>reduce
 simp(disch:=omega)only[go_sem,ayS,Q6,ruL,tyD,paL,fbE,cyL]
 refine QQ r0 ?_
 simp(disch:=omega)only[go_sem,ayS]
 refine QQ r1 ?_
 simp(disch:=omega)only[go_sem,ayS]
 refine QQ r2 ?_
 simp(disch:=omega)only[go_sem,ayS]
 refine QQ r3 ?_
 simp(disch:=omega)only[go_sem,ayS]
 refine QQ r4 ?_
 simp(disch:=omega)only[go_sem,ayS]
 refine QQ r5 ?_
 simp(disch:=omega)only[go_sem,ayS]
 refine QQ r6 ?_
 simp(disch:=omega)only[go_sem,ayS]
 refine QQ r7 ?_
 simp(disch:=omega)only[go_sem,ayS]
 refine QQ r8 ?_
 simp(disch:=omega)only[go_sem,ayS]
 refine QQ r9 ?_
 simp(disch:=omega)only[go_sem,ayS]
end
end Go.Am
