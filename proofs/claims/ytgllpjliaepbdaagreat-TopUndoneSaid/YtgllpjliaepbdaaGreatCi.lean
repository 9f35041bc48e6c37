/- Contracts and what they rest on: Ci. -/
import Derived.Test.YtgllpjliaepbdaaGreatCh
import Derived.Test.YtgllpjliaepbdaaGreatCg
import Derived.Test.YtgllpjliaepbdaaGreatCb
import Derived.Test.YtgllpjliaepbdaaGreatCa
import Derived.Test.YtgllpjliaepbdaaGreatCf
set_option linter.unusedVariables false
set_option linter.unusedSimpArgs false
set_option linter.unnecessarySimpa false
open Go Go.Proofs
namespace Go.Am
set_option maxRecDepth 100000
attribute [local irreducible] W
section
variable {t:Ty}
theorem Qmn{keep into m trk:List Int}{cn n:Nat}(hk:keep.length=into.length)(hd:into.Nodup)(kb:∀i:Nat,i<into.length→0≤gt keep (i:Int)∧gt keep (i:Int)<m.length):(List.range cn).map (Jq keep into (thr m trk) n)=Y3 cn keep into m trk n:=by
 refine List.map_congr_left fun i _=>?_
 unfold Jq QbC
 split
 ·rename_i hi
  obtain⟨j,hj,e⟩:=Xk hi
  rw[←e,QaT hd hj]
  obtain⟨q,hq,eq⟩:=gtI (kb j hj)
  rw[eq,X5 hq]
 ·rfl
theorem StPr.ptE{r:Ru}{x:Hs}{m:Mt}{d:Mo}(s:StPr t r x m d):(ptG x.g d).e++Yg r (stC r x m.m d) r.r.g.e.length=Xr r x m.m d:=by
 have e1:(ptG x.g d).e=d.e.map fun k=>⟨(gt x.g.e k).t,gt (stT x d).n (gt x.g.e k).f,gt (stT x d).n (gt x.g.e k).o⟩:=by
  simp only[ptG,exL]
  refine List.map_congr_left fun k hk=>?_
  obtain⟨p1,p2⟩:=s.pk.d k hk
  rw[(s.tin p1).1,(s.tin p2).1]
 rw[e1]
 rfl
theorem StPr.puk{r:Ru}{x:Hs}{m:Mt}{d:Mo}(s:StPr t r x m d)(hv:(m.v.length:Int)=r.r.v):∀y∈r.r.s,PuOk t ⟨stN r x d,Xr r x m.m d⟩ (Xp t r x d) (stC r x m.m d).n m.v y:=fun y hy=>by
 have hu:=s.ru.rs y hy
 obtain⟨i,hi,e⟩:=gtI hu.nd
 have hc:=s.cty hi
 obtain⟨p,hp,ep⟩:=gtI hc.1
 have hrow:=s.row0 p hp
 have hnd:=hu.nd
 have hvr:=hu.vr
 have hsub:=hc.2
 rw[ep,←e] at hsub
 have:=Qgl s.ty _ hrow.1.2 hsub
 have hak:=hu.ak
 refine⟨by rw[s.cl.1];exact hnd,by rw[e];exact hc.1,?_,?_,by omega,hu.ad⟩
 ·rw[e,ep];simp only;omega
 ·rw[e,ep];exact hrow.2.2.1
set_option maxHeartbeats 8000000 in
theorem QvZ(h:TyOk t){r:Ru}(hr:RuOk t r){x:Hs}(hx:HsOk t x){mt:Mt}(hm:SmOk t r.l.g x.g mt.m)(hj:r.inj=true→mt.m.n.Nodup∧mt.m.e.Nodup)(hs:XC r.l x mt.m=(mt.v,0)):
  (∃d,StOk t r x mt d∧FT 62 [tyD t,Q6 r,hsD x,mtD mt] (.tup [Xs (stS t r x mt d),.int .i64 0]))∨∃e:Int,e≠0∧FT 62 [tyD t,Q6 r,hsD x,mtD mt] (.tup [stZ,.int .i64 e]):=by
 have r1:=QlD h hr hx
 obtain⟨d,e,r2,he⟩:=Qu3 h hr hx hm hj hs
 by_cases h0:e=0
 case neg=>
  refine .inr ⟨e,h0,?_⟩
  simp only[tyD,Q6,fbE,cyL,ruL,paL,hsD,hsL,mtD,mtL,mA,List.cons_append,List.nil_append] at r1 r2 ⊢
  refine foZ [[(5,none,[],true),(8,(some 192),[5],false),(10,(some 512),[5],false)],[(16,none,[],true),(19,(some 393216),[16],false),(22,(some 3145728),[16],false),(26,(some 58720256),[16],false),(29,(some 268435456),[16],false),(31,(some 1073741824),[16],false)],[(0,none,[],true),(1,none,[],true),(3,none,[0,1],true),(4,(some 0),[3],false)]] ?_
  conv in fnC ..=>reduce
  simp(disch:=omega)only[go_sem,ayS]
  refine QQ r1 ?_
  simp(disch:=omega)only[go_sem,ayS]
  refine QQ r2 ?_
  simp(disch:=omega)only[go_sem,ayS,h0]
  rfl
 ·obtain⟨hc,hf⟩:=he h0
  subst h0
  have s:StPr t r x mt d:=⟨h,hr,hx,hm,hj,hs,hc,hf⟩
  have lb:=QX s.hs.g
  have ll:=QX s.ru.l.g
  have lr:=QX s.ru.rg
  have lk:=s.ru.k.len
  have ld:=s.pk.len
  have cl:=s.cl
  have ln:=s.sm.ln
  have le:=s.sm.le
  have ili:=s.sn.il
  have ile:=s.se.il
  have lv:=s.hs.ln
  have r3:=Qu5 h hx s.pk
  have hlp:(ptG x.g d).n.length=d.n.length:=by simp [ptG,thr]
  have hle:(ptG x.g d).e.length=d.e.length:=by simp [ptG,Qak]
  have tl:(stT x d).n.length=x.g.n.length∧(stT x d).e.length=x.g.e.length:=by simp [stT,Xy]
  have r4:=QlE mt.m.n (stT x d).n (by omega) (by omega) (fun i hi=>by have:=s.sn.bd i hi;omega)
  have r5:=QlE mt.m.e (stT x d).e (by omega) (by omega) (fun i hi=>by have:=s.se.bd i hi;omega)
  have r6:=QlI (keep:=r.k.n) (into:=r.i.n) (at_:=thr mt.m.n (stT x d).n) (cn:=r.r.g.n.length) (n:=d.n.length) (by omega) (by omega) (by omega) s.sn.nd (by omega) (by simp [thr];omega) (fun i hi=>by
   obtain⟨q,hq,e⟩:=s.sn.knat hi;rw[e];simp [thr];omega)
  have r7:=QlI (keep:=r.k.e) (into:=r.i.e) (at_:=thr mt.m.e (stT x d).e) (cn:=r.r.g.e.length) (n:=d.e.length) (by omega) (by omega) (by omega) s.se.nd (by omega) (by simp [thr];omega) (fun i hi=>by
   obtain⟨q,hq,e⟩:=s.se.knat hi;rw[e];simp [thr];omega)
  rw[Qmn (by omega) s.sn.nd (fun i hi=>by obtain⟨q,hq,e⟩:=s.sn.knat (a:=i) (by omega);rw[e];omega)] at r6
  rw[Qmn (by omega) s.se.nd (fun i hi=>by obtain⟨q,hq,e⟩:=s.se.knat (a:=i) (by omega);rw[e];omega)] at r7
  have e6:Y3 r.r.g.n.length r.k.n r.i.n mt.m.n (stT x d).n d.n.length=(stC r x mt.m d).n:=rfl
  have e7:Y3 r.r.g.e.length r.k.e r.i.e mt.m.e (stT x d).e d.e.length=(stC r x mt.m d).e:=rfl
  rw[e6] at r6
  rw[e7] at r7
  have hrl:∀y∈XH d.n x.v,y.length≤1000:=fun y hy=>by
   obtain⟨k,hk,rfl⟩:=Qv.1 hy
   obtain⟨i,hi,e⟩:=gtI (s.pk.n.b k hk)
   have:=s.hs.vl i hi
   have:=X7 h (s.hty hi).2
   rw[e];omega
  have hvl:(XH d.n x.v).length=d.n.length:=by simp [XH]
  have r8:=Qu6 (ptG x.g d) (XH d.n x.v) (by omega) (by omega) (by omega) hrl
  have r9:=Qu7 h hr (ptG x.g d) (XH d.n x.v) (stC r x mt.m d) (by omega) (by omega) (by omega) cl.1
  have eN:(ptG x.g d).n++XJ r r.r.g.n.length=stN r x d:=rfl
  have eV:XH d.n x.v++X9 t r r.r.g.n.length=Xp t r x d:=rfl
  rw[eN,s.ptE,eV] at r9
  have hvv:=Qd6 hs
  have hvb:=Qmc hs fun y hy=>⟨(hr.l.s y hy).ad,(QdT h hr.l hx hm hy).2.2.2⟩
  have hrv:=hr.rv
  have hlv:=hr.l.v
  have hpu:=s.puk (by omega)
  have hnl:=YC r x d
  have hel:=JN r x mt.m d
  have lc1:=QgC r.r.g.n.length r.i.n
  have lc2:=QgC r.r.g.e.length r.i.e
  have hVl:(Xp t r x d).length=(stN r x d).length:=by rw[JO,YC]
  have hzz:(Xp t r x d).length=0→r.r.s=[]:=fun hz=>List.eq_nil_iff_forall_not_mem.2 fun y hy=>by
   have:=(hpu y hy).cn
   simp only at this
   omega
  have r10:FT 135 [tyD t,Q6 r,.agg [.arr 1 (QR (stN r x d)),.arr 3 (eds (Xr r x mt.m d)),nsD (Xp t r x d)],mD (stC r x mt.m d),.lst 1 (QR mt.v)] (.tup [if puE t ⟨stN r x d,Xr r x mt.m d⟩ (stC r x mt.m d).n mt.v r.r.s=0 then .agg [.arr 1 (QR (stN r x d)),.arr 3 (eds (Xr r x mt.m d)),nsD (stA t r x mt d).v] else hsZ,.int .i64 (puE t ⟨stN r x d,Xr r x mt.m d⟩ (stC r x mt.m d).n mt.v r.r.s)]):=by
   by_cases hz:(Xp t r x d).length=0
   ·have hs0:=hzz hz
    have hv0:=List.length_eq_zero_iff.1 hz
    have e0:puE t ⟨stN r x d,Xr r x mt.m d⟩ (stC r x mt.m d).n mt.v r.r.s=0:=Ql9 (fun y hy=>by rw[hs0] at hy;cases hy) (fun y hy=>by rw[hs0] at hy;cases hy)
    have ev:(stA t r x mt d).v=[]:=by simp only[stA];rw[hs0,hv0];rfl
    rw[e0,if_pos rfl,ev,hv0]
    exact QvC h hr ⟨stN r x d,Xr r x mt.m d⟩ (stC r x mt.m d) mt.v hs0
   ·have:=QvB h hr ⟨stN r x d,Xr r x mt.m d⟩ (Xp t r x d) (stC r x mt.m d) mt.v ⟨by simp only;omega,by simp only;omega⟩ (fun y hy=>by obtain⟨i,hi,rfl⟩:=Xk hy;exact (s.row0 i hi).1) hVl (by omega) (by omega) (by omega) (fun y hy=>by have:=hvb y hy;omega) hpu
    rw[ZR (by omega)]
    exact this
  have hpe:puE t ⟨stN r x d,Xr r x mt.m d⟩ (stC r x mt.m d).n mt.v r.r.s=0→(∀y∈r.r.s,∀z∈r.r.s,gt (stC r x mt.m d).n y.nd=gt (stC r x mt.m d).n z.nd→y.ak=z.ak→Q1 y.vr y.ad mt.v=Q1 z.vr z.ad mt.v)∧∀y∈r.r.s,rgS t ⟨stN r x d,Xr r x mt.m d⟩ (stC r x mt.m d).n mt.v y:=fun hz=>by
   obtain⟨k1,k2⟩:=QvA hz
   exact⟨fun y hy z hz e1 e2=>Classical.byContradiction fun e3=>k1 y hy z hz ⟨e1,e2,e3⟩,k2⟩
  have eS:stS t r x mt d=⟨r,mt,x,stA t r x mt d,stT x d,stC r x mt.m d⟩:=rfl
  have eA:stN r x d=(stA t r x mt d).g.n:=rfl
  have eB:Xr r x mt.m d=(stA t r x mt d).g.e:=rfl
  have hAl:(stA t r x mt d).v.length=(Xp t r x d).length:=by rw[Qeb];exact hVl.symm
  obtain⟨E,R,hER⟩:∃(E:Int) (R:D),(puE t ⟨stN r x d,Xr r x mt.m d⟩ (stC r x mt.m d).n mt.v r.r.s≠0∧E=puE t ⟨stN r x d,Xr r x mt.m d⟩ (stC r x mt.m d).n mt.v r.r.s∧R=stZ)∨
    (puE t ⟨stN r x d,Xr r x mt.m d⟩ (stC r x mt.m d).n mt.v r.r.s=0∧(40<(stN r x d).length∨80<(Xr r x mt.m d).length)∧E=3∧R=stZ)∨
    (puE t ⟨stN r x d,Xr r x mt.m d⟩ (stC r x mt.m d).n mt.v r.r.s=0∧((stN r x d).length≤40∧(Xr r x mt.m d).length≤80)∧E=0∧R=Xs (stS t r x mt d)):=by
   by_cases p0:puE t ⟨stN r x d,Xr r x mt.m d⟩ (stC r x mt.m d).n mt.v r.r.s=0
   ·by_cases q:(stN r x d).length≤40∧(Xr r x mt.m d).length≤80
    ·exact⟨_,_,.inr (.inr ⟨p0,q,rfl,rfl⟩)⟩
    ·exact⟨_,_,.inr (.inl ⟨p0,by omega,rfl,rfl⟩)⟩
   ·exact⟨_,_,.inl ⟨p0,rfl,rfl⟩⟩
  suffices main:FT 62 [tyD t,Q6 r,hsD x,mtD mt] (.tup [R,.int .i64 E]) by
   rcases hER with⟨p0,rfl,rfl⟩|⟨_,_,rfl,rfl⟩|⟨p0,q,rfl,rfl⟩
   ·exact .inr ⟨_,p0,main⟩
   ·exact .inr ⟨_,by decide,main⟩
   ·obtain⟨k1,k2⟩:=hpe p0
    exact .inl ⟨d,⟨h,hr,hx,hm,hj,hs,hc,hf,k1,k2,q.1,q.2⟩,main⟩
  clear hpe hpu hzz hvb hrl hc hf
  rw[eS] at hER
  generalize puE t ⟨stN r x d,Xr r x mt.m d⟩ (stC r x mt.m d).n mt.v r.r.s=Z at*
  rw[eA,eB] at r9 r10 hER
  have hTn:Xy x.g.n.length d.n=(stT x d).n:=rfl
  have hTe:Xy x.g.e.length d.e=(stT x d).e:=rfl
  rw[hTn,hTe] at r3
  have hcase:(nsD (XH d.n x.v)=.arr 1 []∧(nsF (XH d.n x.v)).all D.flatE=true∧nsD (Xp t r x d)=.arr 1 []∧nsD (stA t r x mt d).v=.arr 1 []∧X8 (stA t r x mt d).v=[])∨(nsD (XH d.n x.v)=.arr 1 []∧(nsF (XH d.n x.v)).all D.flatE=true∧nsD (Xp t r x d)=.nst 1 (nsA (Xp t r x d))∧nsD (stA t r x mt d).v=.nst 1 (nsA (stA t r x mt d).v)∧X8 (stA t r x mt d).v=nsF (stA t r x mt d).v)∨
    (nsD (XH d.n x.v)=.nst 1 (nsA (XH d.n x.v))∧(nsF (XH d.n x.v)).all D.flatE=false∧nsD (Xp t r x d)=.nst 1 (nsA (Xp t r x d))∧nsD (stA t r x mt d).v=.nst 1 (nsA (stA t r x mt d).v)∧X8 (stA t r x mt d).v=nsF (stA t r x mt d).v):=by
   rcases QgL (XH d.n x.v) with⟨a1,a2⟩|⟨a1,a2⟩
   ·have a3:(nsF (XH d.n x.v)).all D.flatE=true:=by rw[List.length_eq_zero_iff.1 a1];rfl
    rcases QgL (Xp t r x d) with⟨b1,b2⟩|⟨b1,b2⟩
    ·exact .inl ⟨a2,a3,b2,by rw[List.length_eq_zero_iff.1 (by omega:(stA t r x mt d).v.length=0)];rfl,by rw[List.length_eq_zero_iff.1 (by omega:(stA t r x mt d).v.length=0)];rfl⟩
    ·exact .inr (.inl ⟨a2,a3,b2,ZR (by omega),rfl⟩)
   ·have a3:(nsF (XH d.n x.v)).all D.flatE=false:=by
     cases hq:XH d.n x.v with
     |nil=>rw[hq] at a1;cases a1
     |cons y l=>rfl
    exact .inr (.inr ⟨a2,a3,ZR (by omega),ZR (by omega),rfl⟩)
  generalize stA t r x mt d=A at*
  generalize stT x d=T at*
  generalize stC r x mt.m d=C at*
  generalize Xp t r x d=V0 at*
  generalize XH d.n x.v=V1 at*
  generalize ptG x.g d=Q at*
  have eF:X8 V1=nsF V1:=rfl
  simp only[tyD,Q6,fbE,cyL,ruL,paL,hsD,hsL,mtD,mtL,mA,mD,gD,eF,List.cons_append,List.nil_append] at r1 r2 r3 r8 r9 r10 ⊢
  refine foZ [[(5,none,[],true),(8,(some 192),[5],false),(10,(some 512),[5],false)],[(16,none,[],true),(19,(some 393216),[16],false),(22,(some 3145728),[16],false),(26,(some 58720256),[16],false),(29,(some 268435456),[16],false),(31,(some 1073741824),[16],false)],[(0,none,[],true),(1,none,[],true),(3,none,[0,1],true),(4,(some 0),[3],false)]] ?_
  conv in fnC ..=>reduce
  simp(disch:=omega)only[go_sem,ayS]
  refine QQ r1 ?_
  simp(disch:=omega)only[go_sem,ayS]
  refine QQ r2 ?_
  simp(disch:=omega)only[go_sem,ayS]
  refine QQ r3 ?_
  rcases hcase with⟨q1,q2,q3,q4,q5⟩|⟨q1,q2,q3,q4,q5⟩|⟨q1,q2,q3,q4,q5⟩<;>(
   rw[q1] at r8
   rw[q1,q3] at r9
   rw[q3,q4] at r10
   simp(disch:=omega)only[go_sem,ayS,q2]
   refine QQ r4 ?_
   simp(disch:=omega)only[go_sem,ayS]
   refine QQ r5 ?_
   simp(disch:=omega)only[go_sem,ayS]
   refine QQ r6 ?_
   simp(disch:=omega)only[go_sem,ayS]
   refine QQ r7 ?_
   simp(disch:=omega)only[go_sem,ayS]
   refine QQ r8 ?_
   simp(disch:=omega)only[go_sem,ayS]
   refine QQ r9 ?_
   simp(disch:=omega)only[go_sem,ayS]
   refine QQ r10 ?_
   rcases hER with⟨p0,rfl,rfl⟩|⟨p0,p1,rfl,rfl⟩|⟨p0,p1,rfl,rfl⟩
   ·simp(disch:=omega)only[go_sem,ayS,p0,hsZ]
    rfl
   ·simp(disch:=omega)only[go_sem,ayS,p0]
    refine QT (fun c=>?_) (fun c=>?_)
    ·simp(disch:=omega)only[go_sem,ayS]
     rfl
    ·simp(disch:=omega)only[go_sem,ayS]
     try rfl
   ·simp(disch:=omega)only[go_sem,ayS,p0]
    simp only[Xs,X0,ruL,paL,fbE,cyL,mtL,hsL,List.cons_append,List.nil_append,q5])
def ApC(t:Ty)(r:Ru)(x:Hs)(m:Mt)(q:Mo×Int):Prop:=(q.2=0→StOk t r x m q.1)∧FT 62 [tyD t,Q6 r,hsD x,mtD m] (.tup [if q.2=0 then Xs (stS t r x m q.1) else stZ,.int .i64 q.2])
theorem Qv0(h:TyOk t){r:Ru}(hr:RuOk t r){x:Hs}(hx:HsOk t x):∃f:Mt→Mo×Int,∀m∈mtF r.l x (Xu (seS t r.l x r.inj)),ApC t r x m (f m):=by
 have key:∀m:Mt,∃q:Mo×Int,m∈mtF r.l x (Xu (seS t r.l x r.inj))→ApC t r x m q:=fun m=>by
  by_cases hm:m∈mtF r.l x (Xu (seS t r.l x r.inj))
  ·unfold mtF at hm
   obtain⟨mo,h1,h2⟩:=List.mem_filterMap.1 hm
   have hF:=Qk1 mo h1
   split at h2
   ·rename_i h3
    have e:=Option.some.inj h2
    subst e
    rcases QvZ h hr hx (mt:=⟨mo,(XC r.l x mo).1⟩) hF.sm hF.jn (Prod.ext rfl h3) with⟨d,s,hd⟩|⟨e,he,hd⟩
    ·exact⟨(d,0),fun _=>⟨fun _=>s,hd⟩⟩
    ·exact⟨(m0,e),fun _=>⟨fun z=>absurd z he,by rw[if_neg he];exact hd⟩⟩
   ·cases h2
  ·exact⟨(m0,0),fun z=>absurd z hm⟩
 exact Classical.axiomOfChoice key
def apF(f:Mt→Mo×Int)(l:List Mt):List Mt:=l.filter fun m=>decide ((f m).2=0)
theorem Qv1(f:Mt→Mo×Int)(l:List Mt)(m:Mt):apF f (l++[m])=if (f m).2=0 then apF f l++[m] else apF f l:=by
 unfold apF;rw[List.filter_append];split<;>simp_all
theorem Qmo(f:Mt→Mo×Int)(l:List Mt):(apF f l).length≤l.length:=List.length_filter_le _ _
set_option maxHeartbeats 4000000 in
theorem Qv2(h:TyOk t){r:Ru}(hr:RuOk t r){x:Hs}(hx:HsOk t x):∃(f:Mt→Mo×Int) (L:List Mt) (e:Int),(∀m∈L,(f m).2=0∧ApC t r x m (f m))∧L.length≤5000∧FT 61 [tyD t,Q6 r,hsD x] (.tup [.arr 3 (YG L),.int .i64 e]):=by
 obtain⟨f,hf⟩:=Qv0 h hr hx
 have rm:=QtG h hr.l hx r.inj
 have rg:=QlD h hr hx
 have hl0:(Xu (seS t r.l x r.inj)).length≤5001:=JK _ _ _ _ (by simp)
 have hl1:=Qk8 r.l x (Xu (seS t r.l x r.inj))
 by_cases c:5000<(Xu (seS t r.l x r.inj)).length
 ·rw[if_pos c] at rm
  refine⟨f,[],3,fun m hm=>absurd hm List.not_mem_nil,Nat.zero_le _,?_⟩
  simp only[tyD,Q6,fbE,cyL,ruL,paD,paL,hsD,hsL,List.cons_append,List.nil_append] at rg rm ⊢
  refine fo [[]] ?_
  conv in fnC ..=>reduce
  simp(disch:=omega)only[go_sem,ayS]
  refine QQ rg ?_
  simp(disch:=omega)only[go_sem,ayS]
  refine QQ rm ?_
  simp(disch:=omega)only[go_sem,ayS]
  try rfl
 ·rw[if_neg c] at rm
  have hle:(mtF r.l x (Xu (seS t r.l x r.inj))).length≤5000:=by omega
  clear hl0 hl1 c
  generalize mtF r.l x (Xu (seS t r.l x r.inj))=M at*
  refine⟨f,apF f M,0,fun m hm=>?_,Qt (Qmo f M) hle,?_⟩
  ·unfold apF at hm
   obtain⟨h1,h2⟩:=List.mem_filter.1 hm
   exact⟨of_decide_eq_true h2,hf m h1⟩
  ·have ra:=fun m hm=>(hf m hm).2
   simp only[tyD,Q6,fbE,cyL,ruL,paD,paL,hsD,hsL,mtD,mtL,List.cons_append,List.nil_append] at rg rm ra ⊢
   refine fo [[]] ?_
   conv in fnC ..=>reduce
   simp(disch:=omega)only[go_sem,ayS]
   refine QQ rg ?_
   simp(disch:=omega)only[go_sem,ayS]
   refine QQ rm ?_
   cases hfl:(YG M).all D.flatE<;>(
    simp(disch:=omega)only[go_sem,ayS,hfl]
    refine Q8 12 M.length (fun i=>[(11,.sl 4 0 (apF f (M.take i)).length)]) (fun i=>[(4,.arr 3 (YG (apF f (M.take i))))]) (fun _=>True) (by simp(disch:=omega)only[go_sem];rfl) trivial fun i hi _=>?_
    have hln:=Qmo f (M.take i)
    rw[List.length_take_of_le hi] at hln
    simp(disch:=omega)only[go_sem]
    refine QT (fun c=>?_) (fun c=>?_)
    ·have hsn:=Qv1 f (M.take i) (gt M (i:Int))
     rw[←Xm (by omega)] at hsn
     have r:=ra _ (gt_mem (l:=M) (j:=(i:Int)) (by omega) (by omega))
     by_cases d:(f (gt M (i:Int))).2=0
     ·rw[if_pos d] at hsn
      rw[if_pos d,d] at r
      simp only[Xs,X0,ruL,paL,fbE,cyL,mtL,hsL,List.cons_append,List.nil_append] at r
      simp(disch:=omega)only[go_sem,mtD,mtL]
      refine QQ r ?_
      simp(disch:=omega)only[go_sem,ayS,mtD,mtL]
      exact⟨i+1,by rw[hsn];simp [YG,mtD,mtL],by omega,by omega⟩
     ·rw[if_neg d] at hsn
      rw[if_neg d] at r
      simp(disch:=omega)only[go_sem,mtD,mtL]
      refine QQ r ?_
      simp(disch:=omega)only[go_sem,ayS,stZ,dcF d,mtD,mtL]
      exact⟨i+1,by rw[hsn];simp,by omega,by omega⟩
    ·obtain rfl:i=M.length:=by omega
     rw[List.take_length] at*
     simp(disch:=omega)only[go_sem])
def Qas(l:List Ste):List D:=l.map Xs
theorem Qv3(l:List Ste):(Qas l).length=l.length:=by simp [Qas]
theorem Qv4{l:List Ste}{i:Nat}(h:i<l.length):(Qas l)[i]?=some (Xs (gt l (i:Int))):=by
 unfold Qas;rw[List.getElem?_map,Qn h,QV h];rfl
attribute [go_sem] Qv3
attribute [go_sem low] Qv4
set_option maxHeartbeats 4000000 in
theorem Qv5(h:TyOk t){r:Ru}(hr:RuOk t r){x:Hs}(hx:HsOk t x):∃L:List Ste,(∀s∈L,∃m d,StOk t r x m d∧s=stS t r x m d)∧L.length≤20∧FT 22 [tyD t,Q6 r,hsD x,.int .i64 20] (.lst 38 (Qas L)):=by
 obtain⟨f,M,e,hM,hl,ra⟩:=Qv2 h hr hx
 have hK:∃K:Nat,K≤20∧K≤M.length∧(K=20∨K=M.length):=by
  rcases Nat.le_total 20 M.length with z|z
  ·exact⟨20,by omega,z,.inl rfl⟩
  ·exact⟨M.length,z,by omega,.inr rfl⟩
 obtain⟨K,k1,k2,k3⟩:=hK
 refine⟨(M.take K).map fun m=>stS t r x m (f m).1,fun s hs=>?_,by simp;omega,?_⟩
 ·obtain⟨m,hm,rfl⟩:=Qv.1 hs
  obtain⟨h1,h2⟩:=hM m (Qw hm)
  exact⟨m,_,h2.1 h1,rfl⟩
 ·have rs:∀m∈M,FT 62 [tyD t,Q6 r,hsD x,mtD m] (.tup [Xs (stS t r x m (f m).1),.int .i64 0]):=fun m hm=>by
   obtain⟨h1,h2⟩:=hM m hm
   have:=h2.2
   rw[if_pos h1,h1] at this
   exact this
  clear hM
  have hS:∀j:Nat,j<K→(M.take (j+1)).map (fun m=>stS t r x m (f m).1)=(M.take j).map (fun m=>stS t r x m (f m).1)++[stS t r x (gt M (j:Int)) (f (gt M (j:Int))).1]:=fun j hj=>by
   rw[Xm (by omega)];simp
  have hL:∀j:Nat,j≤K→((M.take j).map fun m=>stS t r x m (f m).1).length=j:=fun j hj=>by simp;omega
  simp only[tyD,Q6,fbE,cyL,ruL,paD,paL,hsD,hsL,mtD,mtL,List.cons_append,List.nil_append] at ra rs ⊢
  refine foF [[]] ?_
  conv in fnC ..=>reduce
  simp(disch:=omega)only[go_sem,ayS]
  refine QQ ra ?_
  cases hfl:(YG M).all D.flatE<;>(
   simp(disch:=omega)only[go_sem,ayS,hfl]
   refine Q8 12 K (fun i=>[(11,.sl 4 0 i)]) (fun i=>[(4,.arr 38 (Qas ((M.take i).map fun m=>stS t r x m (f m).1)))]) (fun _=>True) (by simp(disch:=omega)only[go_sem];rfl) trivial fun i hi _=>?_
   have hL:=hL i hi
   have hS:=hS i
   by_cases c:i<K
   ·have hS:=hS c
    have rs:=rs (gt M (i:Int)) (gt_mem (by omega) (by omega))
    simp only[Xs,X0,ruL,paL,fbE,cyL,mtL,hsL,List.cons_append,List.nil_append] at rs
    simp(disch:=omega)only[go_sem,ayS,mtD,mtL]
    refine QQ rs ?_
    simp(disch:=omega)only[go_sem,ayS,hL]
    exact⟨i+1,by rw[hS];simp [Qas,Xs,X0,ruL,paL,fbE,cyL,mtL,hsL],by omega,by omega⟩
   ·obtain rfl:i=K:=by omega
    have hcase:(i<M.length∧¬i<20)∨¬i<M.length:=by omega
    rcases hcase with⟨z1,z2⟩|z1
    ·simp(disch:=omega)only[go_sem,ayS]
    ·simp(disch:=omega)only[go_sem,ayS])
end
def P8(x:Pr):Prop:=XA x.a∧XA x.b
theorem Qv6{α:Type}[Inhabited α](l:List α)(i:Nat):gt l (i:Int)∈l∨gt l (i:Int)=default:=by
 by_cases h:i<l.length
 ·rw[QV h];exact .inl (List.getElem_mem h)
 ·refine .inr ?_
  unfold gt
  rw[List.getD_eq_getElem?_getD,List.getElem?_eq_none (by simpa using h)];rfl
theorem QcD{l:List Pr}(h:∀x∈l,P8 x)(i:Nat):P8 (gt l (i:Int)):=by
 rcases Qv6 l i with c|c
 ·exact h _ c
 ·rw[c];exact⟨⟨Int.le_refl 0,by decide⟩,Int.le_refl 0,by decide⟩
theorem tmB{a n:Int}(ha:0≤a)(hn:0<n):0≤a.tmod n∧a.tmod n<n:=⟨Int.tmod_nonneg _ ha,Int.tmod_lt_of_pos _ hn⟩
def atM(i:Nat)(y:Int):List Atr:=if y.tmod 4=1 then [⟨Yj (117+i), -3,3+(y.tdiv 4).tmod 9,[]⟩] else if y.tmod 4=2 then [⟨Yj (117+i),0,1,[Qbw,sOn]⟩] else []
def ntM(i:Nat)(x:Pr):NT:=⟨Yj (65+i),x.a.tmod ((i:Int)+1)-1,decide ((x.a.tdiv 16).tmod 4=3),atM i x.b⟩
def etM(m:Int)(i:Nat)(x:Pr):ET:=⟨Yj (101+i),x.a.tmod m,x.b.tmod m,0, -1,0, -1⟩
def tyN(l:List Pr)(n:Nat):List NT:=(List.range n).map fun i:Nat=>ntM i (gt l (i:Int))
def tyE(m:Int)(l:List Pr)(n:Nat):List ET:=(List.range n).map fun i:Nat=>etM m i (gt l (i:Int))
def Yq(l:List Pr):Nat:=max 1 (min 6 l.length)
def tyM(l e:List Pr):Ty:=⟨tyN l (Yq l),tyE (Yq l) e (min 5 e.length)⟩
theorem Qv7{l:List Pr}{n i:Nat}(h:i<n):gt (tyN l n) (i:Int)=ntM i (gt l (i:Int)):=by
 rw[QV (by simpa [tyN] using h)];simp [tyN]
theorem Qv8{m:Int}{l:List Pr}{n i:Nat}(h:i<n):gt (tyE m l n) (i:Int)=etM m i (gt l (i:Int)):=by
 rw[QV (by simpa [tyE] using h)];simp [tyE]
theorem Qmp{l e:List Pr}(hl:∀x∈l,P8 x)(he:∀x∈e,P8 x):TyOk (tyM l e) where
 pos:=by simp [tyM,tyN,Yq];omega
 ln:=by simp [tyM,tyN,Yq];omega
 le:=by simp [tyM,tyE];omega
 n:=fun i hi=>by
  have hi:i<Yq l:=by simpa [tyM,tyN] using hi
  simp only[tyM]
  rw[Qv7 hi]
  obtain⟨⟨a0,a1⟩,b0,b1⟩:=QcD hl i
  have hp:=tmB (n:=(i:Int)+1) a0 (by omega)
  refine⟨rfl,by simp only[ntM];omega,by simp only[ntM];omega,?_,fun a ha=>?_⟩
  ·simp only[ntM,atM];split
   ·simp
   ·split<;>simp
  ·simp only[ntM,atM] at ha
   split at ha
   ·rw[Qm.1 ha]
    have hq:=tmB (a:=(gt l (i:Int)).b.tdiv 4) (n:=9) (Int.tdiv_nonneg b0 (by decide)) (by decide)
    exact⟨rfl,.inl ⟨rfl,rfl,by simp only;omega,by simp only;omega⟩⟩
   ·split at ha
    ·rw[Qm.1 ha]
     exact⟨rfl,.inr ⟨rfl,rfl,rfl⟩⟩
    ·cases ha
 e:=fun i hi=>by
  have hi:i<min 5 e.length:=by simpa [tyM,tyE] using hi
  have hc:0<Yq l:=by simp [Yq];omega
  have hn:((tyM l e).n.length:Int)=Yq l:=by simp [tyM,tyN]
  simp only[tyM] at hn ⊢
  rw[Qv8 hi]
  obtain⟨⟨a0,a1⟩,b0,b1⟩:=QcD he i
  have hp:=tmB (n:=(Yq l:Int)) a0 (by omega)
  have hq:=tmB (n:=(Yq l:Int)) b0 (by omega)
  refine⟨rfl,?_,?_,rfl,rfl,rfl,rfl⟩
  ·simp only[etM];omega
  ·simp only[etM];omega
def Xn(t:Ty):List Int:=sel (fun i:Nat=>!(gt t.n (i:Int)).ab) t.n.length
def pick(l:List Int)(x:Int):Int:=gt l (x.tmod l.length)
theorem QbH{l:List Int}{x:Int}(hx:0≤x)(hl:0<l.length):pick l x∈l:=by
 have:=tmB (n:=(l.length:Int)) hx (by omega)
 exact gt_mem this.1 this.2
theorem QbI{t:Ty}{x:Int}(h:x∈Xn t):IsT t x∧(gt t.n x).ab=false:=by
 obtain⟨k,h1,h2,rfl⟩:=sel_mem.1 h
 exact⟨⟨by omega,by omega⟩,by simpa using h2⟩
def ZU(A:List Atr)(y:Int):List Int:=(List.range A.length).map fun k:Nat=>(gt A (k:Int)).lo+(y+7*k).tmod ((gt A (k:Int)).hi-(gt A (k:Int)).lo+1)
def hnN(t:Ty)(l:List Pr):List Int:=l.map fun x=>pick (Xn t) x.a
def hnV(t:Ty)(l:List Pr):List (List Int):=l.map fun x=>ZU (Q0 t (pick (Xn t) x.a)) x.b
def edM(te n:Int)(x:E):E:=⟨x.t.tmod te,x.f.tmod n,x.o.tmod n⟩
def fiO(t:Ty)(ns:List Int)(x:E):Option E:=if YF t (edM t.e.length ns.length x).t (gt ns (edM t.e.length ns.length x).f) (gt ns (edM t.e.length ns.length x).o)=true then some (edM t.e.length ns.length x) else none
def hnE(t:Ty)(ns:List Int)(l:List E):List E:=l.filterMap (fiO t ns)
def hsM(t:Ty)(n:List Pr)(e:List E):Hs:=⟨⟨hnN t (if (Xn t).length=0 then [] else n),hnE t (hnN t (if (Xn t).length=0 then [] else n)) (if (hnN t (if (Xn t).length=0 then [] else n)).length=0∨t.e.length=0 then [] else e)⟩,hnV t (if (Xn t).length=0 then [] else n)⟩
def E8(x:E):Prop:=XA x.t∧XA x.f∧XA x.o
theorem Qmq{t:Ty}{ns:List Int}{l:List E}(hl:∀x∈l,E8 x)(hn:0<ns.length)(hte:0<t.e.length):∀y∈hnE t ns l,(0≤y.t∧y.t<t.e.length)∧(0≤y.f∧y.f<ns.length)∧(0≤y.o∧y.o<ns.length)∧YF t y.t (gt ns y.f) (gt ns y.o)=true:=fun y hy=>by
 obtain⟨x,hx,e⟩:=List.mem_filterMap.1 hy
 obtain⟨h1,h2,h3⟩:=hl x hx
 unfold fiO at e
 split at e
 ·rename_i hf
  rw[←Option.some.inj e]
  exact⟨tmB h1.1 (by omega),tmB h2.1 (by omega),tmB h3.1 (by omega),hf⟩
 ·cases e
theorem Qmr{t:Ty}(ht:TyOk t){a:Int}(ha:IsT t a){y:Int}(hy:0≤y):(ZU (Q0 t a) y).length=(Q0 t a).length∧∀k:Nat,k<(ZU (Q0 t a) y).length→(gt (Q0 t a) (k:Int)).lo≤gt (ZU (Q0 t a) y) (k:Int)∧gt (ZU (Q0 t a) y) (k:Int)≤(gt (Q0 t a) (k:Int)).hi:=by
 have hl:(ZU (Q0 t a) y).length=(Q0 t a).length:=by simp [ZU]
 refine⟨hl,fun k hk=>?_⟩
 rw[hl] at hk
 have hb:=Qca ht ha.2 (gt_mem (l:=Q0 t a) (j:=(k:Int)) (by omega) (by omega))
 have hg:gt (ZU (Q0 t a) y) (k:Int)=(gt (Q0 t a) (k:Int)).lo+(y+7*k).tmod ((gt (Q0 t a) (k:Int)).hi-(gt (Q0 t a) (k:Int)).lo+1):=by
  rw[QV (by rw[hl];exact hk)];simp [ZU]
 rw[hg]
 have:=tmB (a:=y+7*k) (n:=(gt (Q0 t a) (k:Int)).hi-(gt (Q0 t a) (k:Int)).lo+1) (by omega) (by omega)
 omega
theorem Qv9{t:Ty}(ht:TyOk t){n:List Pr}{e:List E}(hn:∀x∈n,P8 x)(he:∀x∈e,E8 x)(ln:n.length≤40)(le:e.length≤80):HsOk t (hsM t n e):=by
 have hn2:∀x∈(if (Xn t).length=0 then [] else n),P8 x∧0<(Xn t).length:=fun x hx=>by
  split at hx
  ·cases hx
  ·exact⟨hn x hx,by omega⟩
 have ln2:(if (Xn t).length=0 then [] else n).length≤40:=by
  split
  ·exact Nat.zero_le _
  ·exact ln
 unfold hsM
 generalize (if (Xn t).length=0 then [] else n)=N at*
 have hk:∀x∈N,pick (Xn t) x.a∈Xn t:=fun x hx=>QbH (hn2 x hx).1.1.1 (hn2 x hx).2
 have hN:∀i:Nat,i<(hnN t N).length→∃x∈N,gt (hnN t N) (i:Int)=pick (Xn t) x.a∧gt (hnV t N) (i:Int)=ZU (Q0 t (pick (Xn t) x.a)) x.b:=fun i hi=>by
  have hi:i<N.length:=by simpa [hnN] using hi
  exact⟨gt N (i:Int),gt_mem (by omega) (by omega),by unfold hnN;rw[ZB hi],by unfold hnV;rw[ZB hi]⟩
 have hE:∀y∈hnE t (hnN t N) (if (hnN t N).length=0∨t.e.length=0 then [] else e),(0≤y.t∧y.t<t.e.length)∧(0≤y.f∧y.f<(hnN t N).length)∧(0≤y.o∧y.o<(hnN t N).length)∧YF t y.t (gt (hnN t N) y.f) (gt (hnN t N) y.o)=true:=fun y hy=>by
  by_cases c:(hnN t N).length=0∨t.e.length=0
  ·rw[if_pos c] at hy;cases hy
  ·rw[if_neg c] at hy;exact Qmq he (by omega) (by omega) y hy
 have hEl:(hnE t (hnN t N) (if (hnN t N).length=0∨t.e.length=0 then [] else e)).length≤80:=by
  unfold hnE
  refine Qt (List.length_filterMap_le _ _) ?_
  by_cases c:(hnN t N).length=0∨t.e.length=0
  ·rw[if_pos c];exact Nat.zero_le _
  ·rw[if_neg c];exact le
 have hty:∀x∈hnN t N,IsT t x∧(gt t.n x).ab=false:=fun x hx=>by
  obtain⟨y,hy,rfl⟩:=Qv.1 hx
  exact QbI (hk y hy)
 have hln:=ht.ln
 have hle:=ht.le
 refine⟨JE (by simpa [hnN] using ln2) hEl (fun x hx=>?_) (fun x hx=>?_),by simp [hnN,hnV],⟨fun x hx=>(hty x hx).1,fun x hx=>(hE x hx).1⟩,fun i hi=>(hty _ (gt_mem (by omega) (by simp only at hi;omega))).2,fun i hi=>?_,fun i hi=>?_,fun k hk=>(hE _ (gt_mem (by omega) (by simp only at hk;omega))).2.2.2⟩
 ·obtain⟨⟨h1,h2⟩,_⟩:=hty x hx
  simp only[okN,Ql];omega
 ·obtain⟨h1,h2,h3,_⟩:=hE x hx
  exact JC (by omega) (by omega) (by omega)
 ·obtain⟨x,hx,e1,e2⟩:=hN i hi
  simp only
  rw[e1,e2]
  exact (Qmr ht (QbI (hk x hx)).1 (hn2 x hx).1.2.1).1
 ·obtain⟨x,hx,e1,e2⟩:=hN i hi
  simp only
  rw[e1,e2]
  exact (Qmr ht (QbI (hk x hx)).1 (hn2 x hx).1.2.1).2
structure Q4 where
 a:Int
 b:Int
 c:Int
 d:Int
 deriving DecidableEq,Inhabited
def amL(t:Ty)(ns:List Int)(k:Int):List Int:=sel (fun i:Nat=>Xh t (gt ns (i:Int)) k) ns.length
def peO(t:Ty)(ns:List Int)(x:E):Option E:=if 0<(amL t ns (gt t.e (x.t.tmod t.e.length)).f).length∧0<(amL t ns (gt t.e (x.t.tmod t.e.length)).o).length then some ⟨x.t.tmod t.e.length,pick (amL t ns (gt t.e (x.t.tmod t.e.length)).f) x.f,pick (amL t ns (gt t.e (x.t.tmod t.e.length)).o) x.o⟩ else none
def pgN(t:Ty)(l:List Int):List Int:=l.map fun v=>v.tmod t.n.length
def pgE(t:Ty)(ns:List Int)(l:List E):List E:=l.filterMap (peO t ns)
def pgM(t:Ty)(d:Dr):G:=⟨pgN t (d.n.take 8),pgE t (pgN t (d.n.take 8)) (if t.e.length=0 then [] else d.e.take 10)⟩
theorem Qms{t:Ty}{ns:List Int}{k x:Int}(h:x∈amL t ns k):0≤x∧x<ns.length:=by
 obtain⟨i,h1,_,rfl⟩:=sel_mem.1 h
 omega
theorem Qec{t:Ty}(ht:TyOk t){d:Dr}(hd:d.ok):(QZ (pgM t d)=0∧Typ t (pgM t d))∧(pgM t d).n.length≤8∧(pgM t d).e.length≤10:=by
 have hp:=ht.pos
 have hln:=ht.ln
 have hle:=ht.le
 have hn:∀x∈(pgM t d).n,IsT t x:=fun x hx=>by
  obtain⟨v,hv,rfl⟩:=Qv.1 hx
  exact tmB (hd.1 v (Qw hv)).1 (by omega)
 have he:∀x∈(pgM t d).e,(0≤x.t∧x.t<t.e.length)∧(0≤x.f∧x.f<(pgM t d).n.length)∧(0≤x.o∧x.o<(pgM t d).n.length):=fun x hx=>by
  obtain⟨v,hv,e⟩:=List.mem_filterMap.1 hx
  by_cases c:t.e.length=0
  ·rw[if_pos c] at hv;cases hv
  ·rw[if_neg c] at hv
   obtain⟨b1,b2,b3⟩:=hd.2 v (Qw hv)
   unfold peO at e
   split at e
   ·rename_i h2
    rw[←Option.some.inj e]
    exact⟨tmB b1.1 (by omega),Qms (QbH b2.1 h2.1),Qms (QbH b3.1 h2.2)⟩
   ·cases e
 have l1:(pgM t d).n.length≤8:=by simp [pgM,pgN];omega
 have l2:(pgM t d).e.length≤10:=by
  refine Qt (List.length_filterMap_le _ _) ?_
  by_cases c:t.e.length=0
  ·rw[if_pos c];exact Nat.zero_le _
  ·rw[if_neg c];simp;omega
 refine⟨⟨JE (by omega) (by omega) (fun x hx=>?_) fun x hx=>?_,hn,fun x hx=>(he x hx).1⟩,l1,l2⟩
 ·obtain⟨h1,h2⟩:=hn x hx
  simp only[okN,Ql];omega
 ·obtain⟨h1,h2,h3⟩:=he x hx
  exact JC (by omega) (by omega) (by omega)
def alL(t:Ty)(ns:List Int):List Pr:=(List.range ns.length).flatMap fun i:Nat=>(List.range (Q0 t (gt ns (i:Int))).length).map fun k:Nat=>⟨i,k⟩
theorem Qmt{t:Ty}{ns:List Int}{x:Pr}(h:x∈alL t ns):(0≤x.a∧x.a<ns.length)∧0≤x.b∧x.b<(Q0 t (gt ns x.a)).length:=by
 simp only[alL,Qr,Qv,List.mem_range] at h
 obtain⟨i,hi,k,hk,rfl⟩:=h
 simp only
 omega
def slV(x:E)(v:Int):(Int×Int)×Int:=if v≤x.f.tmod 5-1 then (if 3<v+1 then ((0,0),3) else ((v,0),v+1)) else ((x.f.tmod 5-1,x.o.tmod 5-2),v)
def slN(al:List Pr):List E→List Slo×Int→List Slo×Int
 |[],st=>st
 |x::l,st=>slN al l (st.1++[⟨(gt al (x.t.tmod al.length)).a,(gt al (x.t.tmod al.length)).b,(slV x st.2).1.1,(slV x st.2).1.2⟩],(slV x st.2).2)
def teM(v:Int)(x:Q4):Te:=⟨1+(((x.a.tmod 4+4).tmod 4).tdiv 3),(x.b.tmod (v+1)+(v+1)).tmod (v+1)-1,0,(x.c.tmod (v+1)+(v+1)).tmod (v+1)-1,x.d.tmod 12⟩
def paM(t:Ty)(d:Dr)(s:List E)(q:List Q4):Pa:=
 ⟨pgM t d,(slN (alL t (pgM t d).n) (if (alL t (pgM t d).n).length=0 then [] else s.take 4) ([],0)).1,(slN (alL t (pgM t d).n) (if (alL t (pgM t d).n).length=0 then [] else s.take 4) ([],0)).2,
  (q.take 3).map (teM (slN (alL t (pgM t d).n) (if (alL t (pgM t d).n).length=0 then [] else s.take 4) ([],0)).2)⟩
structure SlI(al:List Pr)(st:List Slo×Int):Prop where
 v:0≤st.2∧st.2≤3
 s:∀x∈st.1,(⟨x.nd,x.ak⟩:Pr)∈al∧(-1≤x.vr∧x.vr<st.2)∧ -100≤x.ad∧x.ad≤100
 o:∀v:Int,0≤v→v<st.2→∃x∈st.1,x.vr=v
theorem Qwa{x:E}(hx:E8 x){v:Int}(h:0≤v∧v≤3):(-1≤(slV x v).1.1∧(slV x v).1.1<(slV x v).2)∧(-100≤(slV x v).1.2∧(slV x v).1.2≤100)∧(v≤(slV x v).2∧(slV x v).2≤3)∧((slV x v).2=v∨(slV x v).2=v+1∧(slV x v).1.1=v):=by
 have h1:=tmB (n:=5) hx.2.1.1 (by decide)
 have h2:=tmB (n:=5) hx.2.2.1 (by decide)
 by_cases c:v≤x.f.tmod 5-1
 ·by_cases d:3<v+1
  ·have e:slV x v=((0,0),3):=by unfold slV;rw[if_pos c,if_pos d]
   rw[e]
   exact⟨⟨by decide,by decide⟩,⟨by decide,by decide⟩,⟨h.2,by decide⟩,.inl (show (3:Int)=v by omega)⟩
  ·have e:slV x v=((v,0),v+1):=by unfold slV;rw[if_pos c,if_neg d]
   rw[e]
   exact⟨⟨show -1≤v by omega,show v<v+1 by omega⟩,⟨show (-100:Int)≤0 by decide,show (0:Int)≤100 by decide⟩,⟨show v≤v+1 by omega,show v+1≤3 by omega⟩,.inr ⟨rfl,rfl⟩⟩
 ·have e:slV x v=((x.f.tmod 5-1,x.o.tmod 5-2),v):=by unfold slV;rw[if_neg c]
  rw[e]
  exact⟨⟨show -1≤x.f.tmod 5-1 by omega,show x.f.tmod 5-1<v by omega⟩,⟨show -100≤x.o.tmod 5-2 by omega,show x.o.tmod 5-2≤100 by omega⟩,⟨show v≤v by omega,show v≤3 by omega⟩,.inl rfl⟩
theorem tmL(z n:Int)(h:0<n): -n<z.tmod n:=by
 have h1:=Int.tmod_lt_of_pos (-z) h
 rw[Int.neg_tmod] at h1
 omega
theorem Qmu{al:List Pr}(ha:0<al.length):∀(l:List E)(st:List Slo×Int),(∀x∈l,E8 x)→SlI al st→SlI al (slN al l st)∧(slN al l st).1.length=st.1.length+l.length
 |[],st,_,h=>⟨h,rfl⟩
 |x::l,st,hx,h=>by
  obtain⟨k1,k2,k3,k4⟩:=Qwa (hx x List.mem_cons_self) h.v
  have hb:=tmB (n:=(al.length:Int)) (hx x List.mem_cons_self).1.1 (by omega)
  have ih:=Qmu ha l (st.1++[⟨(gt al (x.t.tmod al.length)).a,(gt al (x.t.tmod al.length)).b,(slV x st.2).1.1,(slV x st.2).1.2⟩],(slV x st.2).2) (fun y hy=>hx y (Qu _ hy)) ⟨by have:=h.v;simp only;omega,fun y hy=>by
   rcases Qd.1 hy with hy|hy
   ·obtain⟨a,b,c⟩:=h.s y hy
    exact⟨a,by simp only;omega,c⟩
   ·rw[Qm.1 hy]
    exact⟨gt_mem hb.1 hb.2,k1,k2⟩,fun v v0 v1=>by
   simp only at v1
   by_cases c:v<st.2
   ·obtain⟨y,hy,e⟩:=h.o v v0 c
    exact⟨y,List.mem_append_left _ hy,e⟩
   ·refine⟨_,List.mem_append_right _ (Qm.2 rfl),?_⟩
    simp only
    omega⟩
  refine⟨ih.1,?_⟩
  rw[slN,ih.2]
  simp;omega
theorem QgN{t:Ty}(ht:TyOk t){d:Dr}(hd:d.ok){s:List E}(hs:∀x∈s,E8 x){q:List Q4}:PaOk t (paM t d s q)∧(paM t d s q).v≤3∧(paM t d s q).g=pgM t d:=by
 obtain⟨⟨h1,h2⟩,h3,h4⟩:=Qec ht hd
 have hS:SlI (alL t (pgM t d).n) (slN (alL t (pgM t d).n) (if (alL t (pgM t d).n).length=0 then [] else s.take 4) ([],0))∧(slN (alL t (pgM t d).n) (if (alL t (pgM t d).n).length=0 then [] else s.take 4) ([],0)).1.length≤4:=by
  have i0:SlI (alL t (pgM t d).n) ([],0):=⟨⟨Int.le_refl 0,show (0:Int)≤3 by decide⟩,fun x hx=>absurd hx List.not_mem_nil,fun v v0 v1=>absurd (show v<0 from v1) (by omega)⟩
  by_cases c:(alL t (pgM t d).n).length=0
  ·rw[if_pos c];exact⟨i0,Nat.zero_le _⟩
  ·rw[if_neg c]
   obtain⟨k1,k2⟩:=Qmu (by omega:0<(alL t (pgM t d).n).length) (s.take 4) _ (fun x hx=>hs x (Qw hx)) i0
   exact⟨k1,by rw[k2];simp;omega⟩
 unfold paM
 generalize slN (alL t (pgM t d).n) (if (alL t (pgM t d).n).length=0 then [] else s.take 4) ([],0)=st at*
 obtain⟨S,hSl⟩:=hS
 have hv:=S.v
 refine⟨⟨h1,h2,by simp only;omega,by simp only;omega,by simp;omega,fun x hx=>?_,fun x hx=>?_,S.o⟩,S.v.2,rfl⟩
 ·obtain⟨a,b,c⟩:=S.s x hx
  obtain⟨a1,a2⟩:=Qmt a
  exact⟨a1,a2,b,c⟩
 ·obtain⟨y,hy,rfl⟩:=Qv.1 hx
  have n1:∀z:Int, -1≤(z.tmod (st.2+1)+(st.2+1)).tmod (st.2+1)-1∧(z.tmod (st.2+1)+(st.2+1)).tmod (st.2+1)-1<st.2:=fun z=>by
   have m1: -(st.2+1)<z.tmod (st.2+1):=by
    have:=tmL z (st.2+1) (by omega)
    omega
   have:=tmB (a:=z.tmod (st.2+1)+(st.2+1)) (n:=st.2+1) (by omega) (by omega)
   omega
  have k0: -4<y.a.tmod 4:=tmL y.a 4 (by decide)
  have k1:=tmB (a:=y.a.tmod 4+4) (n:=4) (by omega) (by decide)
  have k2:((y.a.tmod 4+4).tmod 4).tdiv 3=0∨((y.a.tmod 4+4).tmod 4).tdiv 3=1:=by
   generalize (y.a.tmod 4+4).tmod 4=z at*
   have:z=0∨z=1∨z=2∨z=3:=by omega
   rcases this with rfl|rfl|rfl|rfl<;>decide
  have k3: -12<y.d.tmod 12:=tmL y.d 12 (by decide)
  have k4:y.d.tmod 12<12:=Int.tmod_lt_of_pos _ (by decide)
  refine⟨by simp only[teM];omega,n1 _,by simp [teM],n1 _,by simp only[teM];omega⟩
theorem Qmv{l:List Int}{n:Nat}(h:n≤l.length):thr (QY 0 n) l=l.take n:=by
 refine List.ext_getElem (by simp [thr,QY];omega) fun i h1 h2=>?_
 have hi:i<n:=by simp [thr,QY] at h1;exact h1
 have:=X5 (l:=QY 0 n) (b:=l) (i:=i) (by simp [QY];exact hi)
 rw[YO hi,QV h1,QV (by omega:i<l.length)] at this
 rw[this,List.getElem_take]
theorem QgO{k g:G}(hk:QZ k=0)(hg:QZ g=0)(hn:∀i:Nat,i<k.n.length→i<g.n.length∧gt g.n (i:Int)=gt k.n (i:Int))(he:∀i:Nat,i<k.e.length→i<g.e.length∧gt g.e (i:Int)=gt k.e (i:Int)):Emb k g (idM k):=by
 refine⟨⟨hk,hg,by simp [idM,Yp],by simp [idM,Yp],fun i hi=>?_,fun i hi=>?_⟩,fun i j hi hj e=>?_,fun i j hi hj e=>?_⟩
 ·simp only[idM]
  rw[YO hi]
  have:=hn i hi
  exact⟨by omega,this.2⟩
 ·simp only[idM]
  rw[YO hi]
  obtain⟨h1,h2⟩:=he i hi
  obtain⟨_,f2,f3⟩:=Zj hk (i:=i) (by omega)
  obtain⟨a,ha,ea⟩:=gtI f2
  obtain⟨b,hb,eb⟩:=gtI f3
  rw[h2]
  refine⟨by omega,rfl,?_,?_⟩
  ·rw[ea,YO ha]
  ·rw[eb,YO hb]
 ·simp only[idM] at e;rw[YO hi,YO hj] at e;omega
 ·simp only[idM] at e;rw[YO hi,YO hj] at e;omega
theorem Qmw{α:Type}[Inhabited α]{l:List α}{x:α}:gt (l++[x]) (l.length:Int)=x:=by
 rw[QV (by simp)];simp
structure RD where
 l:Dr
 s:List E
 q:List Q4
 k:Int
 n:List Int
 e:List E
 sl:List E
 pl:Bool
 inj:Bool
 fb:Q4
 or:List Int
structure RD.ok(d:RD):Prop where
 l:d.l.ok
 s:∀x∈d.s,E8 x
 n:∀x∈d.n,XA x
 e:∀x∈d.e,E8 x
 sl:∀x∈d.sl,E8 x
 fb:XA d.fb.a∧XA d.fb.b∧XA d.fb.c∧XA d.fb.d
 or:∀x∈d.or,XA x
def gwN(t:Ty)(k:List Int)(n:List Int):List Int:=k++(if (Xn t).length=0 then [] else (n.take 2).map (pick (Xn t)))
def gwM(t:Ty)(k:G)(n:List Int)(e:List E):G:=⟨gwN t k.n n,k.e++hnE t (gwN t k.n n) (if (gwN t k.n n).length=0∨t.e.length=0 then [] else e.take 2)⟩
def Qa0(t:Ty)(g:G)(v:Int)(x:E):Option Slo:=if (Q0 t (gt g.n (x.t.tmod g.n.length))).length=0 then none else some ⟨x.t.tmod g.n.length,x.f.tmod (Q0 t (gt g.n (x.t.tmod g.n.length))).length,(x.f.tdiv 16).tmod (v+1)-1,x.o.tmod 3⟩
def twS(s:Slo)(l:List Slo):Bool:=l.any fun y=>decide (y.nd=s.nd)&&decide (y.ak=s.ak)
def QcE(l:List Slo):Option Slo→List Slo
 |none=>l
 |some s=>if twS s l=true then l else l++[s]
def Y5(t:Ty)(g:G)(v:Int):List E→List Slo→List Slo
 |[],o=>o
 |x::l,o=>Y5 t g v l (QcE o (Qa0 t g v x))
def Js(t:Ty)(g:G)(v:Int)(l:List E):List Slo:=Y5 t g v (if g.n.length=0 then [] else l.take 3) []
def foM(t:Ty)(p:Pa)(x:Q4):Fb:=
 if x.a.tmod 4=1 then .no (idM p.g) ⟨p.g.n++[x.b.tmod t.n.length],p.g.e⟩ p.v
 else if x.a.tmod 4=2 then (if p.g.n.length=0∨t.e.length=0 then .tt else .no (idM p.g) ⟨p.g.n,p.g.e++[⟨x.b.tmod t.e.length,x.c.tmod p.g.n.length,x.d.tmod p.g.n.length⟩]⟩ p.v)
 else .tt
def shO(n:Nat)(o:List Int):List Int:=ZP n o (min n o.length)
def rdL(t:Ty)(d:RD):Pa:=paM t d.l d.s d.q
def rdK(t:Ty)(d:RD):Mo:=Qcg (rdL t d).g d.k
def rdG(t:Ty)(d:RD):G:=gwM t (ptG (rdL t d).g (rdK t d)) d.n d.e
def rdP(t:Ty)(d:RD):Mo:=⟨shO (rdG t d).n.length d.or,shO (rdG t d).e.length d.or⟩
def rdJ(t:Ty)(d:RD):Mo:=⟨(rdP t d).n.take (rdK t d).n.length,(rdP t d).e.take (rdK t d).e.length⟩
def rdR(t:Ty)(d:RD):G:=reO (rdG t d) (rdP t d)
def ruM(t:Ty)(d:RD):Ru:=if d.pl=true then ⟨Yj 114,⟨(rdL t d).g,[],0,[]⟩,⟨rdR t d,[],0,[]⟩,rdK t d,rdJ t d,d.inj,.tt⟩ else ⟨Yj 114,rdL t d,⟨rdR t d,Js t (rdR t d) (rdL t d).v d.sl,(rdL t d).v,[]⟩,rdK t d,rdJ t d,d.inj,foM t (rdL t d) d.fb⟩
theorem Qed(n:Nat){o:List Int}(ho:∀x∈o,XA x):PermI (shO n o) n:=PermI.of (Qj5 ho (min n o.length) (by omega) (by omega))
structure SloI(t:Ty)(g:G)(v:Int)(l:List Slo):Prop where
 s:∀x∈l,SlOk t g v x
 d:∀i k:Nat,i<l.length→k<l.length→(gt l (i:Int)).nd=(gt l (k:Int)).nd→(gt l (i:Int)).ak=(gt l (k:Int)).ak→i=k
theorem Qwb{s:Slo}{l:List Slo}(h:twS s l=false){y:Slo}(hy:y∈l):¬(y.nd=s.nd∧y.ak=s.ak):=fun e=>by
 have:twS s l=true:=by
  unfold twS
  rw[List.any_eq_true]
  exact⟨y,hy,by simp [e.1,e.2]⟩
 rw[h] at this;cases this
theorem QcF{t:Ty}{g:G}{v:Int}(hv:0≤v)(hg:0<g.n.length):∀(l:List E)(o:List Slo),(∀x∈l,E8 x)→SloI t g v o→SloI t g v (Y5 t g v l o)∧(Y5 t g v l o).length≤o.length+l.length
 |[],o,_,h=>⟨h,Qg _⟩
 |x::l,o,hx,h=>by
  have hl:=fun y hy=>hx y (Qu _ hy)
  have b:=hx x List.mem_cons_self
  rw[Y5]
  cases hs:Qa0 t g v x with
  |none=>
   have:=QcF hv hg l o hl h
   exact⟨this.1,by simp only[QcE,List.length_cons];omega⟩
  |some s=>
   simp only[QcE]
   by_cases c:twS s o=true
   ·rw[if_pos c]
    have:=QcF hv hg l o hl h
    exact⟨this.1,by simp only[List.length_cons];omega⟩
   ·rw[if_neg c]
    have ok:SlOk t g v s:=by
     unfold Qa0 at hs
     split at hs
     ·cases hs
     ·rename_i ha
      rw[←Option.some.inj hs]
      have q1:=tmB (a:=(x.f.tdiv 16)) (n:=v+1) (Int.tdiv_nonneg b.2.1.1 (by decide)) (by omega)
      have q2:=tmB (a:=x.o) (n:=3) b.2.2.1 (by decide)
      exact⟨tmB b.1.1 (by omega),tmB (n:=((Q0 t (gt g.n (x.t.tmod g.n.length))).length:Int)) b.2.1.1 (by omega),by simp only;omega,by simp only;omega⟩
    have:=QcF hv hg l (o++[s]) hl ⟨fun y hy=>by
     rcases Qd.1 hy with hy|hy
     ·exact h.s y hy
     ·rw[Qm.1 hy];exact ok,fun i k hi hk e1 e2=>by
     simp only[Qj,List.length_cons,List.length_nil] at hi hk
     have hf:=fun {y:Slo}=>Qwb (s:=s) (l:=o) (by simpa using c) (y:=y)
     by_cases ci:i<o.length
     ·rw[Qce ci] at e1 e2
      by_cases ck:k<o.length
      ·rw[Qce ck] at e1 e2
       exact h.d i k ci ck e1 e2
      ·obtain rfl:k=o.length:=by omega
       rw[Qmw] at e1 e2
       exact absurd ⟨e1,e2⟩ (hf (gt_mem (by omega) (by omega)))
     ·obtain rfl:i=o.length:=by omega
      rw[Qmw] at e1 e2
      by_cases ck:k<o.length
      ·rw[Qce ck] at e1 e2
       exact absurd ⟨e1.symm,e2.symm⟩ (hf (gt_mem (by omega) (by omega)))
      ·omega⟩
    refine⟨this.1,?_⟩
    have h2:=this.2
    simp only[Qj,List.length_cons,List.length_nil] at h2 ⊢
    omega
theorem Qwc{t:Ty}{g:G}{v:Int}(hv:0≤v){l:List E}(hl:∀x∈l,E8 x):SloI t g v (Js t g v l)∧(Js t g v l).length≤3:=by
 have i0:SloI t g v []:=⟨fun x hx=>absurd hx List.not_mem_nil,fun i k hi=>absurd hi (Nat.not_lt_zero _)⟩
 unfold Js
 by_cases c:g.n.length=0
 ·rw[if_pos c];exact⟨i0,Nat.zero_le _⟩
 ·rw[if_neg c]
  have:=QcF (t:=t) hv (by omega:0<g.n.length) (l.take 3) [] (fun x hx=>hl x (Qw hx)) i0
  refine⟨this.1,Qt this.2 ?_⟩
  simp;omega
theorem Qmx{t:Ty}(ht:TyOk t){p:Pa}(hp:PaOk t p)(hn:p.g.n.length≤8)(he:p.g.e.length≤10){x:Q4}(hx:XA x.a∧XA x.b∧XA x.c∧XA x.d):FbOk t p (foM t p x):=by
 have hpos:=ht.pos
 have hln:=ht.ln
 have hle:=ht.le
 have vs:=XZ hp.g
 unfold foM
 split
 ·have b:=tmB (n:=(t.n.length:Int)) hx.2.1.1 (by omega)
  have hv:QZ ⟨p.g.n++[x.b.tmod t.n.length],p.g.e⟩=0:=JE (by simp;omega) (by simp only;omega) (fun y hy=>by
   rcases Qd.1 hy with hy|hy
   ·exact vs.2.2.1 y hy
   ·rw[Qm.1 hy];simp only[okN,Ql];omega) fun y hy=>by
    obtain⟨f1,f2,f3⟩:=Qbt (vs.2.2.2 y hy)
    exact JC f1 (by simp;omega) (by simp;omega)
  exact⟨rfl,⟨fun y hy=>by
   rcases Qd.1 hy with hy|hy
   ·exact hp.ty.n y hy
   ·rw[Qm.1 hy];exact b,hp.ty.e⟩,QgO hp.g hv (fun i hi=>⟨by simp;omega,Qce hi⟩) (fun i hi=>⟨hi,rfl⟩),by simp,by simp⟩
 ·split
  ·split
   ·trivial
   ·rename_i c
    have b1:=tmB (n:=(t.e.length:Int)) hx.2.1.1 (by omega)
    have b2:=tmB (n:=(p.g.n.length:Int)) hx.2.2.1.1 (by omega)
    have b3:=tmB (n:=(p.g.n.length:Int)) hx.2.2.2.1 (by omega)
    have hv:QZ ⟨p.g.n,p.g.e++[⟨x.b.tmod t.e.length,x.c.tmod p.g.n.length,x.d.tmod p.g.n.length⟩]⟩=0:=JE (by simp only;omega) (by simp;omega) vs.2.2.1 fun y hy=>by
     rcases Qd.1 hy with hy|hy
     ·exact vs.2.2.2 y hy
     ·rw[Qm.1 hy];exact JC (by simp only;omega) b2 b3
    exact⟨rfl,⟨hp.ty.n,fun y hy=>by
     rcases Qd.1 hy with hy|hy
     ·exact hp.ty.e y hy
     ·rw[Qm.1 hy];exact b1⟩,QgO hp.g hv (fun i hi=>⟨hi,rfl⟩) (fun i hi=>⟨by simp;omega,Qce hi⟩),by simp,by simp⟩
  ·trivial
structure GrOk(t:Ty)(k g:G):Prop where
 v:QZ g=0
 y:Typ t g
 n:∀i:Nat,i<k.n.length→i<g.n.length∧gt g.n (i:Int)=gt k.n (i:Int)
 e:∀i:Nat,i<k.e.length→i<g.e.length∧gt g.e (i:Int)=gt k.e (i:Int)
 cn:∀i:Nat,k.n.length≤i→i<g.n.length→(gt t.n (gt g.n (i:Int))).ab=false
 ce:∀i:Nat,k.e.length≤i→i<g.e.length→YF t (gt g.e (i:Int)).t (gt g.n (gt g.e (i:Int)).f) (gt g.n (gt g.e (i:Int)).o)=true
theorem Qmy{α:Type}[Inhabited α]{l m:List α}{i:Nat}(h:l.length≤i)(h2:i<(l++m).length):gt (l++m) (i:Int)∈m:=by
 rw[QV h2,List.getElem_append_right h]
 exact List.getElem_mem _
theorem Qmz{t:Ty}(ht:TyOk t){k:G}(hk:QZ k=0)(tk:Typ t k)(k1:k.n.length≤8)(k2:k.e.length≤10){n:List Int}(hn:∀x∈n,XA x){e:List E}(he:∀x∈e,E8 x):GrOk t k (gwM t k n e):=by
 have hpos:=ht.pos
 have hln:=ht.ln
 have hle:=ht.le
 have vs:=XZ hk
 have hN:∀x∈(if (Xn t).length=0 then [] else (n.take 2).map (pick (Xn t))),IsT t x∧(gt t.n x).ab=false:=fun x hx=>by
  split at hx
  ·cases hx
  ·rename_i c
   obtain⟨y,hy,rfl⟩:=Qv.1 hx
   exact QbI (QbH (hn y (Qw hy)).1 (by omega))
 have lN:(if (Xn t).length=0 then [] else (n.take 2).map (pick (Xn t))).length≤2:=by
  split
  ·exact Nat.zero_le _
  ·simp;omega
 unfold gwM gwN
 generalize (if (Xn t).length=0 then [] else (n.take 2).map (pick (Xn t)))=N at*
 have hE:∀y∈hnE t (k.n++N) (if (k.n++N).length=0∨t.e.length=0 then [] else e.take 2),(0≤y.t∧y.t<t.e.length)∧(0≤y.f∧y.f<(k.n++N).length)∧(0≤y.o∧y.o<(k.n++N).length)∧YF t y.t (gt (k.n++N) y.f) (gt (k.n++N) y.o)=true:=fun y hy=>by
  by_cases c:(k.n++N).length=0∨t.e.length=0
  ·rw[if_pos c] at hy;cases hy
  ·rw[if_neg c] at hy;exact Qmq (fun x hx=>he x (Qw hx)) (by omega) (by omega) y hy
 have lE:(hnE t (k.n++N) (if (k.n++N).length=0∨t.e.length=0 then [] else e.take 2)).length≤2:=by
  refine Qt (List.length_filterMap_le _ _) ?_
  split
  ·exact Nat.zero_le _
  ·simp;omega
 generalize hnE t (k.n++N) (if (k.n++N).length=0∨t.e.length=0 then [] else e.take 2)=F at*
 have tn:∀x∈k.n++N,IsT t x:=fun x hx=>by
  rcases Qd.1 hx with hx|hx
  ·exact tk.n x hx
  ·exact (hN x hx).1
 have te:∀x∈k.e++F,0≤x.t∧x.t<t.e.length:=fun x hx=>by
  rcases Qd.1 hx with hx|hx
  ·exact tk.e x hx
  ·exact (hE x hx).1
 have la:(k.n++N).length=k.n.length+N.length:=Qj
 have lb:(k.e++F).length=k.e.length+F.length:=Qj
 refine⟨JE (by simp only;omega) (by simp only;omega) (fun x hx=>?_) (fun x hx=>?_),⟨tn,te⟩,fun i hi=>⟨by simp only;omega,?_⟩,fun i hi=>⟨by simp only;omega,?_⟩,fun i h1 h2=>(hN _ (Qmy h1 h2)).2,fun i h1 h2=>(hE _ (Qmy h1 h2)).2.2.2⟩
 ·obtain⟨a1,a2⟩:=tn x hx
  simp only[okN,Ql];omega
 ·rcases Qd.1 hx with hx|hx
  ·obtain⟨f1,f2,f3⟩:=Qbt (vs.2.2.2 x hx)
   exact JC f1 (by simp only;omega) (by simp only;omega)
  ·obtain⟨f1,f2,f3,_⟩:=hE x hx
   exact JC (by omega) f2 f3
 ·simp only;rw[QV (by omega),QV hi,List.getElem_append_left hi]
 ·simp only;rw[QV (by omega),QV hi,List.getElem_append_left hi]
theorem QmA{g:G}{p:Mo}:(ptG g p).n.length=p.n.length∧(ptG g p).e.length=p.e.length:=by simp [ptG,X4,exL]
theorem QgP{t:Ty}{g:G}{p:Mo}(h:PK g p)(ht:Typ t g):Typ t (ptG g p):=by
 refine⟨fun x hx=>?_,fun x hx=>?_⟩
 ·simp only[ptG,thr] at hx
  obtain⟨y,hy,rfl⟩:=Qv.1 hx
  have:=h.n.b y hy
  exact ht.n _ (gt_mem this.1 this.2)
 ·simp only[ptG,exL] at hx
  obtain⟨y,hy,rfl⟩:=Qv.1 hx
  have:=h.e.b y hy
  exact ht.e (gt g.e y) (gt_mem this.1 this.2)
theorem QmB{t:Ty}(ht:TyOk t){d:RD}(hd:d.ok):RuOk t (ruM t d):=by
 obtain⟨hl,hlv,hlg⟩:PaOk t (rdL t d)∧(rdL t d).v≤3∧(rdL t d).g=pgM t d.l:=QgN ht hd.l (q:=d.q) hd.s
 obtain⟨_,g1,g2⟩:=Qec ht hd.l
 have g1:(rdL t d).g.n.length≤8:=by rw[show (rdL t d).g=pgM t d.l from hlg];exact g1
 have g2:(rdL t d).g.e.length≤10:=by rw[show (rdL t d).g=pgM t d.l from hlg];exact g2
 have hK:PK (rdL t d).g (rdK t d):=Qj2 hl.g
 have hX:=Qf9 hK
 obtain⟨p1,p2⟩:=QmA (g:=(rdL t d).g) (p:=rdK t d)
 have q1:(rdK t d).n.length≤(rdL t d).g.n.length:=Z5 hK.n
 have q2:(rdK t d).e.length≤(rdL t d).g.e.length:=Z5 hK.e
 have hG:GrOk t (ptG (rdL t d).g (rdK t d)) (rdG t d):=Qmz ht hX.va (QgP hK hl.ty) (by omega) (by omega) hd.n hd.e
 have hP1:PermI (rdP t d).n (rdG t d).n.length:=Qed _ hd.or
 have hP2:PermI (rdP t d).e (rdG t d).e.length:=Qed _ hd.or
 have hO:=QrX hG.v hP1 hP2
 have hO1:MOk (rdG t d) (rdR t d) (rdP t d):=hO.1
 have hE:Emb (rdG t d) (rdR t d) (rdP t d):=Emb.mk' hO1 hP1.nodup hP2.nodup
 have hJ:=QgO hX.va hG.v hG.n hG.e
 have n1:(rdK t d).n.length≤(rdG t d).n.length:=by
  rcases Nat.eq_zero_or_pos (rdK t d).n.length with z|z
  ·omega
  ·have:=(hG.n ((rdK t d).n.length-1) (by omega)).1;omega
 have n2:(rdK t d).e.length≤(rdG t d).e.length:=by
  rcases Nat.eq_zero_or_pos (rdK t d).e.length with z|z
  ·omega
  ·have:=(hG.e ((rdK t d).e.length-1) (by omega)).1;omega
 have l1:=hP1.l
 have l2:=hP2.l
 have hI:Emb (ptG (rdL t d).g (rdK t d)) (rdR t d) (rdJ t d):=by
  have:=hJ.comp hE
  have e:Jl (idM (ptG (rdL t d).g (rdK t d))) (rdP t d)=rdJ t d:=by
   unfold Jl idM rdJ
   simp only
   rw[p1,p2,Qmv (by omega),Qmv (by omega)]
  rwa [e] at this
 have r1:(rdR t d).n.length=(rdG t d).n.length:=Qai _ _ _ _
 have r2:(rdR t d).e.length=(rdG t d).e.length:=Qai _ _ _ _
 have fN:∀j:Nat,j<(rdR t d).n.length→∃i:Nat,i<(rdG t d).n.length∧gt (rdP t d).n (i:Int)=(j:Int)∧gt (rdR t d).n (j:Int)=gt (rdG t d).n (i:Int):=fun j hj=>by
  obtain⟨i,hi,e⟩:=hP1.cov (by omega:j<(rdG t d).n.length)
  refine⟨i,hi,e,?_⟩
  rw[←e]
  exact (hO1.nd i hi).2
 have fE:∀j:Nat,j<(rdR t d).e.length→∃i:Nat,i<(rdG t d).e.length∧gt (rdP t d).e (i:Int)=(j:Int)∧(gt (rdR t d).e (j:Int)).t=(gt (rdG t d).e (i:Int)).t∧gt (rdR t d).n (gt (rdR t d).e (j:Int)).f=gt (rdG t d).n (gt (rdG t d).e (i:Int)).f∧gt (rdR t d).n (gt (rdR t d).e (j:Int)).o=gt (rdG t d).n (gt (rdG t d).e (i:Int)).o:=fun j hj=>by
  obtain⟨i,hi,e⟩:=hP2.cov (by omega:j<(rdG t d).e.length)
  refine⟨i,hi,e,?_⟩
  obtain⟨_,e1,e2,e3⟩:=hO1.ed i hi
  obtain⟨_,b2,b3⟩:=Zj hG.v (i:=i) (by omega)
  obtain⟨a,ha,ea⟩:=gtI b2
  obtain⟨b,hb,eb⟩:=gtI b3
  rw[←e,←e1,←e2,←e3,ea,eb]
  exact⟨rfl,(hO1.nd a ha).2,(hO1.nd b hb).2⟩
 have hT:Typ t (rdR t d):=⟨fun x hx=>by
  obtain⟨j,hj,rfl⟩:=Xk hx
  obtain⟨i,hi,_,e⟩:=fN j hj
  rw[e];exact hG.y.n _ (gt_mem (by omega) (by omega)),fun x hx=>by
  obtain⟨j,hj,rfl⟩:=Xk hx
  obtain⟨i,hi,_,e,_⟩:=fE j hj
  rw[e];exact hG.y.e _ (gt_mem (by omega) (by omega))⟩
 have tk:∀{l:List Int}{n i:Nat},i<n→n≤l.length→gt l (i:Int)∈l.take n:=fun {l n i} h1 h2=>by
  rw[QV (by omega)]
  exact List.mem_take_iff_getElem.2 ⟨i,by omega,rfl⟩
 have hcn:∀j:Nat,j<(rdR t d).n.length→¬(j:Int)∈(rdJ t d).n→(gt t.n (gt (rdR t d).n (j:Int))).ab=false:=fun j hj hn=>by
  obtain⟨i,hi,e1,e2⟩:=fN j hj
  rw[e2]
  refine hG.cn i ?_ hi
  rw[p1]
  refine Nat.le_of_not_lt fun c=>hn ?_
  rw[←e1]
  exact tk c (by omega)
 have hce:∀j:Nat,j<(rdR t d).e.length→¬(j:Int)∈(rdJ t d).e→YF t (gt (rdR t d).e (j:Int)).t (gt (rdR t d).n (gt (rdR t d).e (j:Int)).f) (gt (rdR t d).n (gt (rdR t d).e (j:Int)).o)=true:=fun j hj hn=>by
  obtain⟨i,hi,e1,e2,e3,e4⟩:=fE j hj
  rw[e2,e3,e4]
  refine hG.ce i ?_ hi
  rw[p2]
  refine Nat.le_of_not_lt fun c=>hn ?_
  rw[←e1]
  exact tk c (by omega)
 unfold ruM
 by_cases c:d.pl=true
 ·rw[if_pos c]
  exact⟨rfl,⟨hl.g,hl.ty,⟨Int.le_refl 0,show (0:Int)≤12 by decide⟩,Nat.zero_le _,Nat.zero_le _,fun x hx=>absurd hx List.not_mem_nil,fun x hx=>absurd hx List.not_mem_nil,fun v v0 v1=>absurd (show v<0 from v1) (by omega)⟩,hO1.vb,hT,rfl,rfl,Nat.zero_le _,fun x hx=>absurd hx List.not_mem_nil,fun i k hi=>absurd hi (Nat.not_lt_zero _),hK,hI,hcn,hce,trivial⟩
 ·rw[if_neg c]
  obtain⟨s1,s2⟩:=Qwc (t:=t) (g:=rdR t d) hl.v.1 hd.sl
  have hF:=Qmx ht hl g1 g2 hd.fb
  generalize Js t (rdR t d) (rdL t d).v d.sl=S at*
  generalize foM t (rdL t d) d.fb=C at*
  generalize rdR t d=R at*
  generalize rdL t d=L at*
  exact⟨rfl,hl,hO1.vb,hT,rfl,rfl,Qt s2 (by decide),s1.s,s1.d,hK,hI,hcn,hce,hF⟩
def p8D(x:Pr):D:=.agg [.int .u8 x.a,.int .u8 x.b]
def p8s(l:List Pr):List D:=l.map p8D
theorem QmC(l:List Pr):(p8s l).length=l.length:=by simp [p8s]
theorem Qwd{l:List Pr}{i:Nat}(h:i<l.length):(p8s l)[i]?=some (.agg [.int .u8 (gt l (i:Int)).a,.int .u8 (gt l (i:Int)).b]):=by
 rw[QV h];simp [p8s,p8D,h]
attribute [go_sem] QmC Qwd
section
variable {t:Ty}
theorem QmD(n:Nat):sel (fun i:Nat=>!(gt t.n (i:Int)).ab) (n+1)=if (gt t.n (n:Int)).ab=true then sel (fun i:Nat=>!(gt t.n (i:Int)).ab) n else sel (fun i:Nat=>!(gt t.n (i:Int)).ab) n++[(n:Int)]:=by
 unfold sel
 rw[List.range_succ,List.filter_append,List.map_append]
 by_cases c:(gt t.n (n:Int)).ab=true
 ·rw[if_pos c];simp [c]
 ·rw[if_neg c];simp [c]
theorem QmE(f:Nat→Bool)(n:Nat):(sel f n).length≤n:=by
 unfold sel
 rw[QC]
 exact Qt (List.length_filter_le _ _) (by simp)
theorem Qwe(h:TyOk t):FT 115 [tyD t] (.arr 1 (QR (Xn t))):=by
 refine fo [] ?_
 conv in fnC ..=>reduce
 have ln:=h.ln
 simp(disch:=omega)only[go_sem,ayS,tyD]
 refine Q8 4 t.n.length (fun i=>[(3,.sl 1 0 (sel (fun i:Nat=>!(gt t.n (i:Int)).ab) i).length)]) (fun i=>[(1,.arr 1 (QR (sel (fun i:Nat=>!(gt t.n (i:Int)).ab) i)))]) (fun i=>(sel (fun i:Nat=>!(gt t.n (i:Int)).ab) i).length≤i) (by simp(disch:=omega)only[go_sem];rfl) (Qg 0) fun i hi hI=>?_
 have hs:=QmD (t:=t) i
 have hu:Xn t=sel (fun i:Nat=>!(gt t.n (i:Int)).ab) t.n.length:=rfl
 generalize hS:sel (fun i:Nat=>!(gt t.n (i:Int)).ab) i=S at*
 simp(disch:=omega)only[go_sem]
 refine QT (fun c=>?_) (fun c=>?_)
 ·by_cases c2:(gt t.n (i:Int)).ab=true
  ·rw[if_pos c2] at hs
   simp(disch:=omega)only[go_sem,ayS,ntD,c2]
   exact⟨i+1,by rw[hs];simp,⟨by omega,by rw[hs];omega⟩,by omega⟩
  ·rw[if_neg c2] at hs
   simp(disch:=omega)only[go_sem,ayS,ntD,c2]
   exact⟨i+1,by rw[hs];simp [QR],⟨by omega,by rw[hs];simp;omega⟩,by omega⟩
 ·obtain rfl:i=t.n.length:=by omega
  simp(disch:=omega)only[go_sem,ayS]
  rw[hu,hS]
theorem Qwf(h:TyOk t):FT 190 [tyD t] (.arr 1 (QR (Xn t))):=by
 refine fo [] ?_
 conv in fnC ..=>reduce
 have ln:=h.ln
 simp(disch:=omega)only[go_sem,ayS,tyD]
 refine Q8 4 t.n.length (fun i=>[(3,.sl 1 0 (sel (fun i:Nat=>!(gt t.n (i:Int)).ab) i).length)]) (fun i=>[(1,.arr 1 (QR (sel (fun i:Nat=>!(gt t.n (i:Int)).ab) i)))]) (fun i=>(sel (fun i:Nat=>!(gt t.n (i:Int)).ab) i).length≤i) (by simp(disch:=omega)only[go_sem];rfl) (Qg 0) fun i hi hI=>?_
 have hs:=QmD (t:=t) i
 have hu:Xn t=sel (fun i:Nat=>!(gt t.n (i:Int)).ab) t.n.length:=rfl
 generalize hS:sel (fun i:Nat=>!(gt t.n (i:Int)).ab) i=S at*
 simp(disch:=omega)only[go_sem]
 refine QT (fun c=>?_) (fun c=>?_)
 ·by_cases c2:(gt t.n (i:Int)).ab=true
  ·rw[if_pos c2] at hs
   simp(disch:=omega)only[go_sem,ayS,ntD,c2]
   exact⟨i+1,by rw[hs];simp,⟨by omega,by rw[hs];omega⟩,by omega⟩
  ·rw[if_neg c2] at hs
   simp(disch:=omega)only[go_sem,ayS,ntD,c2]
   exact⟨i+1,by rw[hs];simp [QR],⟨by omega,by rw[hs];simp;omega⟩,by omega⟩
 ·obtain rfl:i=t.n.length:=by omega
  simp(disch:=omega)only[go_sem,ayS]
  rw[hu,hS]
theorem QgQ(x n:Int)(hn:0<n)(h1:n≤1000)(hx: -1000≤x∧x≤1000):FT 271 [.int .i64 x,.int .i64 n] (.int .i64 ((x.tmod n+n).tmod n)):=by
 have m1:=tmL x n hn
 have m2:=Int.tmod_lt_of_pos x hn
 refine fo [] ?_
 conv in fnC ..=>reduce
 simp(disch:=omega)only[go_sem,ayS]
def q4D(k:IntKind)(x:Q4):D:=.agg [.int k x.a,.int k x.b,.int k x.c,.int k x.d]
theorem Qwg(v:Int)(x:Q4)(hv:0≤v∧v≤3)(hx:(-128≤x.a∧x.a≤127)∧(-128≤x.b∧x.b≤127)∧(-128≤x.c∧x.c≤127)∧(-128≤x.d∧x.d≤127)):FT 189 [.int .i64 v,q4D .i8 x] (teD (teM v x)):=by
 have r1:=QgQ x.a 4 (by omega) (by omega) (by omega)
 have r2:=QgQ x.b (v+1) (by omega) (by omega) (by omega)
 have r3:=QgQ x.c (v+1) (by omega) (by omega) (by omega)
 have n1:∀z:Int,0≤(z.tmod (v+1)+(v+1)).tmod (v+1)∧(z.tmod (v+1)+(v+1)).tmod (v+1)<v+1:=fun z=>by
  have:=tmL z (v+1) (by omega)
  exact tmB (by omega) (by omega)
 have k0:=tmL x.a 4 (by decide)
 have k1:=tmB (a:=x.a.tmod 4+4) (n:=4) (by omega) (by decide)
 have k2:0≤((x.a.tmod 4+4).tmod 4).tdiv 3∧((x.a.tmod 4+4).tmod 4).tdiv 3≤1:=by
  generalize (x.a.tmod 4+4).tmod 4=z at*
  have:z=0∨z=1∨z=2∨z=3:=by omega
  rcases this with rfl|rfl|rfl|rfl<;>decide
 have n2:=n1 x.b
 have n3:=n1 x.c
 refine fo [[(5,none,[],true),(8,(some 128),[5],false)]] ?_
 conv in fnC ..=>reduce
 simp(disch:=omega)only[go_sem,ayS,q4D]
 refine QQ r1 ?_
 simp(disch:=omega)only[go_sem,ayS]
 refine QQ r2 ?_
 simp(disch:=omega)only[go_sem,ayS]
 refine QQ r3 ?_
 simp(disch:=omega)only[go_sem,ayS]
 rfl
theorem Qwh(l:List Pr)(n:Nat):tyN l (n+1)=tyN l n++[ntM n (gt l (n:Int))]:=by simp [tyN,List.range_succ]
theorem Qwi(m:Int)(l:List Pr)(n:Nat):tyE m l (n+1)=tyE m l n++[etM m n (gt l (n:Int))]:=by simp [tyE,List.range_succ]
theorem Qwj(l:List Pr)(n:Nat):(tyN l n).length=n:=by simp [tyN]
theorem Qwk(m:Int)(l:List Pr)(n:Nat):(tyE m l n).length=n:=by simp [tyE]
theorem Qa1(l:List NT)(x:NT):Y0 (l++[x])=Y0 l++[ntD x]:=by simp [Y0]
theorem QcG(l:List ET)(x:ET):Y1 (l++[x])=Y1 l++[etD x]:=by simp [Y1]
theorem arr_sz(L:List UInt8):({toList:=L}:Array UInt8).size=L.length:=rfl
theorem Qee(L:List UInt8)(i:Nat):ByteArray.extract ⟨{toList:=L}⟩ i ((i:Int)+1).toNat=bs ((L.drop i).take 1):=by
 have e:((i:Int)+1).toNat=i+1:=by omega
 rw[e]
 apply ByteArray.ext
 apply Array.toList_inj.1
 simp [ByteArray.data_extract,bs,List.extract_eq_take_drop]
set_option maxHeartbeats 4000000 in
theorem Qwl(l e:List Pr)(hl:∀x∈l,P8 x)(he:∀x∈e,P8 x):FT 54 [.lst 2 (p8s l),.lst 2 (p8s e)] (tyD (tyM l e)):=by
 have hc:1≤Yq l∧Yq l≤6:=by unfold Yq;omega
 have hcl:Yq l≤l.length∨Yq l=1:=by unfold Yq;omega
 have hcl2:Yq l=6∨l.length≤Yq l:=by unfold Yq;omega
 refine foF [[],[(1,none,[],true),(23,none,[1],false)]] ?_
 conv in fnC ..=>reduce
 simp(disch:=omega)only[go_sem,ayS]
 refine Q8 6 (Yq l) (fun _=>[]) (fun i=>[(3,.arr 4 (Y0 (tyN l i))),(5,.box [.sl 3 0 i,.sl 4 0 0])]) (fun _=>True) (by simp(disch:=omega)only[go_sem];rfl) trivial fun i hi _=>?_
 have tl:=Qwj l i
 have ts:=Qwh l i
 by_cases c:i<Yq l
 ·by_cases c1:i<l.length
  ·obtain⟨⟨a0,a1⟩,b0,b1⟩:=QcD hl i
   have w1:IntKind.u8.wrap ((gt l (i:Int)).a.tdiv 16)=(gt l (i:Int)).a.tdiv 16:=by
    rw[Int.tdiv_eq_ediv_of_nonneg a0]
    show ((gt l (i:Int)).a/16)%256=_
    omega
   have w2:IntKind.u8.wrap ((gt l (i:Int)).b.tdiv 4)=(gt l (i:Int)).b.tdiv 4:=by
    rw[Int.tdiv_eq_ediv_of_nonneg b0]
    show ((gt l (i:Int)).b/4)%256=_
    omega
   have q1:=tmB (n:=(i:Int)+1) a0 (by omega)
   have q2:=tmB (a:=(gt l (i:Int)).b.tdiv 4) (n:=9) (Int.tdiv_nonneg b0 (by decide)) (by decide)
   have q3:0≤(gt l (i:Int)).b.tdiv 4∧(gt l (i:Int)).b.tdiv 4≤255:=by
    rw[Int.tdiv_eq_ediv_of_nonneg b0];omega
   have h3:((gt l (i:Int)).b.tmod 4=1∧True)∨(¬(gt l (i:Int)).b.tmod 4=1∧(gt l (i:Int)).b.tmod 4=2)∨(¬(gt l (i:Int)).b.tmod 4=1∧¬(gt l (i:Int)).b.tmod 4=2):=by
    rcases Classical.em ((gt l (i:Int)).b.tmod 4=1) with k1|k1
    ·exact .inl ⟨k1,trivial⟩
    ·rcases Classical.em ((gt l (i:Int)).b.tmod 4=2) with k2|k2
     ·exact .inr (.inl ⟨k1,k2⟩)
     ·exact .inr (.inr ⟨k1,k2⟩)
   rcases h3 with⟨m1,m2⟩|⟨m1,m2⟩|⟨m1,m2⟩<;>(
    first
    |(have hM:ntM i (gt l (i:Int))=⟨Yj (65+i),(gt l (i:Int)).a.tmod ((i:Int)+1)-1,decide (((gt l (i:Int)).a.tdiv 16).tmod 4=3),[⟨Yj (117+i), -3,3+((gt l (i:Int)).b.tdiv 4).tmod 9,[]⟩]⟩:=by simp only[ntM,atM];rw[if_pos m1])
    |(have hM:ntM i (gt l (i:Int))=⟨Yj (65+i),(gt l (i:Int)).a.tmod ((i:Int)+1)-1,decide (((gt l (i:Int)).a.tdiv 16).tmod 4=3),[⟨Yj (117+i),0,1,[Qbw,sOn]⟩]⟩:=by simp only[ntM,atM];rw[if_neg m1,if_pos m2])
    |(have hM:ntM i (gt l (i:Int))=⟨Yj (65+i),(gt l (i:Int)).a.tmod ((i:Int)+1)-1,decide (((gt l (i:Int)).a.tdiv 16).tmod 4=3),[]⟩:=by simp only[ntM,atM];rw[if_neg m1,if_neg m2])
    rw[hM] at ts
    by_cases c0:i=0
    ·subst c0
     simp(disch:=omega)only[go_sem,ayS,arr_sz,Qee,List.length_cons,List.length_nil,m1,m2,w1,w2]
     exact⟨0+1,by rw[ts,Qa1];rfl,by omega,by omega⟩
    ·simp(disch:=omega)only[go_sem,ayS,c0,arr_sz,Qee,List.length_cons,List.length_nil,m1,m2,w1,w2]
     have hx:i=1∨i=2∨i=3∨i=4∨i=5:=by omega
     rcases hx with rfl|rfl|rfl|rfl|rfl
     ·exact⟨1+1,by rw[ts,Qa1];rfl,by omega,by omega⟩
     ·exact⟨2+1,by rw[ts,Qa1];rfl,by omega,by omega⟩
     ·exact⟨3+1,by rw[ts,Qa1];rfl,by omega,by omega⟩
     ·exact⟨4+1,by rw[ts,Qa1];rfl,by omega,by omega⟩
     ·exact⟨5+1,by rw[ts,Qa1];rfl,by omega,by omega⟩)
  ·have c0:i=0:=by omega
   subst c0
   have z:l=[]:=List.length_eq_zero_iff.1 (by omega)
   subst z
   simp(disch:=omega)only[go_sem,ayS,arr_sz,Qee,List.length_cons,List.length_nil,Int.zero_tmod,Int.zero_tdiv]
   exact⟨0+1,by rw[ts,Qa1];rfl,by omega,by omega⟩
 ·obtain rfl:i=Yq l:=by omega
  have c0:¬Yq l=0:=by omega
  have hte:tyM l e=⟨tyN l (Yq l),tyE (Yq l) e (min 5 e.length)⟩:=rfl
  rw[hte]
  generalize hC:Yq l=n at*
  have hK:min 5 e.length≤5∧min 5 e.length≤e.length∧(min 5 e.length=5∨min 5 e.length=e.length):=by omega
  generalize min 5 e.length=K at*
  have main:∀k:Nat,k≤K→True:=fun _ _=>trivial
  by_cases c1:n<l.length<;>(
   first
   |(have c2:¬n<6:=by omega)
   |(have c2:True:=trivial)
   simp(disch:=omega)only[go_sem,ayS,c0]
   refine Q8 10 K (fun _=>[]) (fun k=>[(4,.arr 7 (Y1 (tyE n e k))),(5,.box [.sl 3 0 n,.sl 4 0 k])]) (fun _=>True) (by simp(disch:=omega)only[go_sem];rfl) trivial fun k hk _=>?_
   have el:=Qwk n e k
   have es:=Qwi n e k
   by_cases c3:k<K
   ·obtain⟨⟨a0,a1⟩,b0,b1⟩:=QcD he k
    have q1:=tmB (n:=(n:Int)) a0 (by omega)
    have q2:=tmB (n:=(n:Int)) b0 (by omega)
    simp(disch:=omega)only[go_sem,ayS,arr_sz,Qee,List.length_cons,List.length_nil]
    have hx:k=0∨k=1∨k=2∨k=3∨k=4:=by omega
    rcases hx with rfl|rfl|rfl|rfl|rfl
    ·exact⟨0+1,by rw[es,QcG];rfl,by omega,by omega⟩
    ·exact⟨1+1,by rw[es,QcG];rfl,by omega,by omega⟩
    ·exact⟨2+1,by rw[es,QcG];rfl,by omega,by omega⟩
    ·exact⟨3+1,by rw[es,QcG];rfl,by omega,by omega⟩
    ·exact⟨4+1,by rw[es,QcG];rfl,by omega,by omega⟩
   ·obtain rfl:k=K:=by omega
    by_cases c4:k<e.length
    ·simp(disch:=omega)only[go_sem,ayS]
     rfl
    ·simp(disch:=omega)only[go_sem,ayS]
     rfl)
theorem Qwm(f:Nat→Bool)(n:Nat):sel f (n+1)=if f n=true then sel f n++[(n:Int)] else sel f n:=by
 unfold sel
 rw[List.range_succ,List.filter_append,List.map_append]
 by_cases c:f n=true
 ·rw[if_pos c];simp [c]
 ·rw[if_neg c];simp [c]
theorem QmF(h:TyOk t)(g:G)(hg:g.n.length≤1000)(ht:∀x∈g.n,IsT t x){k:Int}(hk:IsT t k):FT 270 [tyD t,gD g,.int .i64 k] (.arr 1 (QR (amL t g.n k))):=by
 refine fo [[]] ?_
 conv in fnC ..=>reduce
 have ln:=h.ln
 simp(disch:=omega)only[go_sem,ayS,tyD,gD]
 refine Q8 8 g.n.length (fun i=>[(7,.sl 2 0 (sel (fun i:Nat=>Xh t (gt g.n (i:Int)) k) i).length)]) (fun i=>[(2,.arr 1 (QR (sel (fun i:Nat=>Xh t (gt g.n (i:Int)) k) i)))]) (fun i=>(sel (fun i:Nat=>Xh t (gt g.n (i:Int)) k) i).length≤i) (by simp(disch:=omega)only[go_sem];rfl) (Qg 0) fun i hi hI=>?_
 have hs:=Qwm (fun i:Nat=>Xh t (gt g.n (i:Int)) k) i
 have hu:amL t g.n k=sel (fun i:Nat=>Xh t (gt g.n (i:Int)) k) g.n.length:=rfl
 generalize hS:sel (fun i:Nat=>Xh t (gt g.n (i:Int)) k) i=S at*
 simp(disch:=omega)only[go_sem]
 refine QT (fun c=>?_) (fun c=>?_)
 ·have hi2:IsT t (gt g.n (i:Int)):=ht _ (gt_mem (by omega) (by omega))
  have r:=Qcb h (gt g.n (i:Int)) hi2.2 k (by have:=hi2.1;omega) hk.1
  simp only[tyD] at r
  cases hc:Xh t (gt g.n (i:Int)) k<;>rw[hc] at r hs
  ·rw[if_neg (by decide)] at hs
   simp(disch:=omega)only[go_sem,ayS]
   refine QQ r ?_
   simp(disch:=omega)only[go_sem,ayS]
   exact⟨i+1,by rw[hs];simp,⟨by omega,by rw[hs];omega⟩,by omega⟩
  ·rw[if_pos rfl] at hs
   simp(disch:=omega)only[go_sem,ayS]
   refine QQ r ?_
   simp(disch:=omega)only[go_sem,ayS]
   exact⟨i+1,by rw[hs];simp [QR],⟨by omega,by rw[hs];simp;omega⟩,by omega⟩
 ·obtain rfl:i=g.n.length:=by omega
  simp(disch:=omega)only[go_sem,ayS]
  rw[hu,hS]
theorem Qwn{ns:List Int}{l:List E}{i:Nat}(h:i<l.length):pgE t ns (l.take (i+1))=match peO t ns (gt l (i:Int)) with
  |some x=>pgE t ns (l.take i)++[x]
  |none=>pgE t ns (l.take i):=by
 unfold pgE
 rw[Xm h,List.filterMap_append,List.filterMap_cons,List.filterMap_nil]
 cases peO t ns (gt l (i:Int))<;>simp
theorem Qwo(ns:List Int)(l:List E):(pgE t ns l).length≤l.length:=List.length_filterMap_le _ _
set_option maxHeartbeats 4000000 in
theorem Qwp(h:TyOk t){d:Dr}(hd:d.ok):FT 188 [tyD t,drD d,.bool true] (gA (pgM t d)):=by
 have ln:=h.ln
 have hp:=h.pos
 have le:=h.le
 refine fo [[(1,none,[],true),(14,none,[1],false)],[],[(8,none,[],true),(9,(some 0),[8],false),(10,(some 0),[8],false),(12,(some 2048),[8],false),(14,(some 14336),[8],false),(16,(some 63488),[8],false)],[(1,none,[],true),(30,none,[1],false)]] ?_
 conv in fnC ..=>reduce
 simp(disch:=omega)only[go_sem,ayS,tyD,drD]
 have nS:∀i:Nat,QY 0 (i+1)=QY 0 i++[(i:Int)]:=fun i=>by simp [QY,List.range_succ]
 have nL:∀i:Nat,(QY 0 i).length=i:=fun i=>by simp [QY]
 refine Q8 8 t.n.length (fun i=>[(7,.sl 5 0 i)]) (fun i=>[(5,.arr 1 (QR (QY 0 i)))]) (fun _=>True) (by simp(disch:=omega)only[go_sem];rfl) trivial fun i hi _=>?_
 have n1:=nS i
 have n2:=nL i
 simp(disch:=omega)only[go_sem]
 refine QT (fun c=>?_) (fun c=>?_)
 ·simp(disch:=omega)only[go_sem,ayS,ntD]
  exact⟨i+1,by rw[n1];simp [QR],by omega,by omega⟩
 ·obtain rfl:i=t.n.length:=by omega
  have nG:∀x:Int,0≤x→x<t.n.length→gt (QY 0 t.n.length) x=x:=fun x h0 h1=>by
   obtain⟨j,hj,rfl⟩:=gtI ⟨h0,h1⟩
   exact YO hj
  have hE:pgM t d=⟨pgN t (d.n.take 8),pgE t (pgN t (d.n.take 8)) (if t.e.length=0 then [] else d.e.take 10)⟩:=rfl
  rw[hE]
  have hK:min 8 d.n.length≤8∧min 8 d.n.length≤d.n.length∧(min 8 d.n.length=8∨min 8 d.n.length=d.n.length):=by omega
  have hk2:d.n.take 8=d.n.take (min 8 d.n.length):=by
   rcases Nat.le_total 8 d.n.length with z|z
   ·rw[Nat.min_eq_left z]
   ·rw[Nat.min_eq_right z,Qq z,Qq (Qg _)]
  rw[hk2]
  generalize min 8 d.n.length=K at*
  simp(disch:=omega)only[go_sem,ayS]
  refine Q8 10 K (fun _=>[]) (fun j=>[(6,.arr 1 (QR (pgN t (d.n.take j)))),(8,.box [.sl 6 0 j,.sl 7 0 0])]) (fun _=>True) (by simp(disch:=omega)only[go_sem];rfl) trivial fun j hj _=>?_
  have pl:(pgN t (d.n.take j)).length=j:=by simp [pgN];omega
  have pS:j<d.n.length→pgN t (d.n.take (j+1))=pgN t (d.n.take j)++[(gt d.n (j:Int)).tmod t.n.length]:=fun hj=>by rw[Xm hj];simp [pgN]
  by_cases c:j<K
  ·have pS:=pS (by omega)
   have q0:=hd.1 _ (gt_mem (l:=d.n) (j:=(j:Int)) (by omega) (by omega))
   unfold XA at q0
   have q1:=tmB (n:=(t.n.length:Int)) (hd.1 _ (gt_mem (l:=d.n) (j:=(j:Int)) (by omega) (by omega))).1 (by omega)
   have g1:=nG _ q1.1 q1.2
   have hL:=nL t.n.length
   simp(disch:=omega)only[go_sem,ayS,hL,g1]
   exact⟨j+1,by rw[pS];simp [QR],by omega,by omega⟩
  ·obtain rfl:j=K:=by omega
   have hty:∀x∈pgN t (d.n.take j),IsT t x:=fun x hx=>by
    obtain⟨v,hv,rfl⟩:=Qv.1 hx
    exact tmB (hd.1 v (Qw hv)).1 (by omega)
   have hM:∃M:Nat,M≤10∧M≤d.e.length∧(M=10∨M=d.e.length∨t.e.length=0)∧(t.e.length=0→M=0)∧(if t.e.length=0 then [] else d.e.take 10)=d.e.take M:=by
    by_cases z:t.e.length=0
    ·exact⟨0,by omega,by omega,by omega,fun _=>rfl,by rw[if_pos z];rfl⟩
    ·rw[if_neg z]
     rcases Nat.le_total 10 d.e.length with z2|z2
     ·exact⟨10,by omega,z2,by omega,fun z3=>absurd z3 z,rfl⟩
     ·exact⟨d.e.length,z2,by omega,by omega,fun z3=>absurd z3 z,by rw[Qq z2,Qq (Qg _)]⟩
   obtain⟨M,m1,m2,m3,m4,m5⟩:=hM
   rw[m5]
   generalize pgN t (d.n.take j)=N at*
   have hs0:=fun k=>Qwn (t:=t) (ns:=N) (l:=d.e) (i:=k)
   have hl0:∀k:Nat,(pgE t N (d.e.take k)).length≤k:=fun k=>Qt (Qwo _ _) (by simp;omega)
   by_cases c1:j<d.n.length<;>(
    simp(disch:=omega)only[go_sem,ayS]
    refine Q8 11 M (fun _=>[]) (fun k=>[(6,.arr 3 (eds (pgE t N (d.e.take k)))),(7,.box [.sl 5 0 j,.sl 6 0 (pgE t N (d.e.take k)).length])]) (fun _=>True) (by simp(disch:=omega)only[go_sem];rfl) trivial fun k hk _=>?_
    have hs:=hs0 k
    have hl:=hl0 k
    by_cases c2:k<M
    ·have hs:=hs (by omega)
     obtain⟨⟨a0,a1⟩,⟨b0,b1⟩,d0,d1⟩:=hd.2 _ (gt_mem (l:=d.e) (j:=(k:Int)) (by omega) (by omega))
     have te0:0<t.e.length:=by omega
     obtain⟨x,hx,ex⟩:=gtI (tmB (n:=(t.e.length:Int)) a0 (by omega))
     have hE:=h.e x hx
     have r1:=QmF h ⟨N,pgE t N (d.e.take k)⟩ (by simp only;omega) hty (k:=(gt t.e (x:Int)).f) hE.f
     have r2:=QmF h ⟨N,pgE t N (d.e.take k)⟩ (by simp only;omega) hty (k:=(gt t.e (x:Int)).o) hE.o
     unfold peO at hs
     rw[ex] at hs
     simp only[tyD,gD] at r1 r2
     generalize amL t N (gt t.e (x:Int)).f=A at*
     generalize amL t N (gt t.e (x:Int)).o=B at*
     generalize pgE t N (d.e.take k)=F at*
     simp(disch:=omega)only[go_sem,ayS,ex,etD]
     refine QQ r1 ?_
     simp(disch:=omega)only[go_sem,ayS,ex,etD]
     refine QQ r2 ?_
     by_cases zA:0<A.length
     ·have u1:=tmB (n:=(A.length:Int)) b0 (by omega)
      by_cases zB:0<B.length
      ·have u2:=tmB (n:=(B.length:Int)) d0 (by omega)
       rw[if_pos ⟨zA,zB⟩] at hs
       have hs2:pgE t N (d.e.take (k+1))=F++[⟨x,pick A (gt d.e (k:Int)).f,pick B (gt d.e (k:Int)).o⟩]:=hs
       simp(disch:=omega)only[go_sem,ayS,ex]
       exact⟨k+1,by rw[hs2];simp [pick,eds,edD],by omega,by omega⟩
      ·rw[if_neg fun z=>zB z.2] at hs
       have hs2:pgE t N (d.e.take (k+1))=F:=hs
       simp(disch:=omega)only[go_sem,ayS,ex]
       exact⟨k+1,by rw[hs2];simp,by omega,by omega⟩
     ·rw[if_neg fun z=>zA z.1] at hs
      have hs2:pgE t N (d.e.take (k+1))=F:=hs
      simp(disch:=omega)only[go_sem,ayS,ex]
      exact⟨k+1,by rw[hs2];simp,by omega,by omega⟩
    ·obtain rfl:k=M:=by omega
     by_cases c5:k<d.e.length
     ·by_cases c6:k<10
      ·have c7:t.e.length=0:=by omega
       simp(disch:=omega)only[go_sem,ayS,c7]
       rfl
      ·simp(disch:=omega)only[go_sem,ayS]
       rfl
     ·simp(disch:=omega)only[go_sem,ayS]
      rfl)
def q4s(k:IntKind)(l:List Q4):List D:=l.map (q4D k)
theorem Qwq(k:IntKind)(l:List Q4):(q4s k l).length=l.length:=by simp [q4s]
theorem Qwr{k:IntKind}{l:List Q4}{i:Nat}(h:i<l.length):(q4s k l)[i]?=some (.agg [.int k (gt l (i:Int)).a,.int k (gt l (i:Int)).b,.int k (gt l (i:Int)).c,.int k (gt l (i:Int)).d]):=by
 rw[QV h];simp [q4s,q4D,h]
attribute [go_sem] Qwq Qwr
def alN(t:Ty)(ns:List Int)(n:Nat):List Pr:=(List.range n).flatMap fun i:Nat=>(List.range (Q0 t (gt ns (i:Int))).length).map fun k:Nat=>⟨i,k⟩
theorem QmG(al:List Pr)(x:E):∀(l:List E)(st:List Slo×Int),slN al (l++[x]) st=((slN al l st).1++[⟨(gt al (x.t.tmod al.length)).a,(gt al (x.t.tmod al.length)).b,(slV x (slN al l st).2).1.1,(slV x (slN al l st).2).1.2⟩],(slV x (slN al l st).2).2)
 |[],st=>rfl
 |y::l,st=>by rw[List.cons_append,slN,QmG al x l,slN]
set_option maxHeartbeats 4000000 in
theorem Qws(h:TyOk t){d:Dr}(hd:d.ok){s:List E}(hs:∀x∈s,E8 x){q:List Q4}(hq:∀x∈q,(-128≤x.a∧x.a≤127)∧(-128≤x.b∧x.b≤127)∧(-128≤x.c∧x.c≤127)∧(-128≤x.d∧x.d≤127)):
  FT 108 [tyD t,.agg [.lst 1 (u8s d.n),.lst 3 (trs d.e),.lst 3 (trs s),.lst 4 (q4s .i8 q)]] (paD (paM t d s q)):=by
 have r1:=Qwp h hd
 obtain⟨⟨v1,v2⟩,v3,v4⟩:=Qec h hd
 have hE:paM t d s q=⟨pgM t d,(slN (alL t (pgM t d).n) (if (alL t (pgM t d).n).length=0 then [] else s.take 4) ([],0)).1,(slN (alL t (pgM t d).n) (if (alL t (pgM t d).n).length=0 then [] else s.take 4) ([],0)).2,(q.take 3).map (teM (slN (alL t (pgM t d).n) (if (alL t (pgM t d).n).length=0 then [] else s.take 4) ([],0)).2)⟩:=rfl
 rw[hE]
 generalize pgM t d=g at*
 simp only[tyD,drD,gA] at r1
 refine foZ [[],[(1,none,[],true),(9,none,[1],false),(10,none,[1],false)]] ?_
 conv in fnC ..=>reduce
 simp(disch:=omega)only[go_sem,ayS,tyD]
 refine QQ r1 ?_
 simp(disch:=omega)only[go_sem,ayS]
 have hal:∀i:Nat,alN t g.n (i+1)=alN t g.n i++(List.range (Q0 t (gt g.n (i:Int))).length).map fun k:Nat=>(⟨i,k⟩:Pr):=fun i=>by simp [alN,List.range_succ,List.flatMap_append]
 have hall:∀i:Nat,i≤g.n.length→(alN t g.n i).length≤6*i:=fun i=>by
  induction i with
  |zero=>intro _;simp [alN]
  |succ i ih=>
   intro hi
   have:=ih (by omega)
   have h6:=X7 h (v2.n _ (gt_mem (l:=g.n) (j:=(i:Int)) (by omega) (by omega))).2
   rw[hal,Qj,QC,List.length_range]
   omega
 refine Q8 7 g.n.length (fun i=>[(6,.sl 12 0 (alN t g.n i).length)]) (fun i=>[(12,.arr 2 (prs (alN t g.n i)))]) (fun _=>True) (by simp(disch:=omega)only[go_sem];rfl) trivial fun i hi _=>?_
 have ha:=hal i
 have hb:=hall i hi
 simp(disch:=omega)only[go_sem]
 refine QT (fun c=>?_) (fun c=>?_)
 ·have hty:=v2.n _ (gt_mem (l:=g.n) (j:=(i:Int)) (by omega) (by omega))
  have ra:=Qag h hty
  have h6:=X7 h hty.2
  generalize Q0 t (gt g.n (i:Int))=A at*
  generalize alN t g.n i=L at*
  simp only[tyD] at ra
  simp(disch:=omega)only[go_sem,ayS]
  refine QQ ra ?_
  simp(disch:=omega)only[go_sem,ayS]
  refine Q8 10 A.length (fun k=>[(6,.sl 12 0 (L.length+k))]) (fun k=>[(12,.arr 2 (prs (L++(List.range k).map fun k:Nat=>(⟨i,k⟩:Pr))))]) (fun _=>True) (by simp(disch:=omega)only[go_sem,List.range_zero,List.map_nil,List.append_nil]) trivial fun k hk _=>?_
  have hl:(L++(List.range k).map fun k:Nat=>(⟨i,k⟩:Pr)).length=L.length+k:=by simp
  have hr:(L++(List.range (k+1)).map fun k:Nat=>(⟨i,k⟩:Pr))=(L++(List.range k).map fun k:Nat=>(⟨i,k⟩:Pr))++[⟨i,k⟩]:=by simp [List.range_succ]
  simp(disch:=omega)only[go_sem]
  refine QT (fun c=>?_) (fun c=>?_)
  ·generalize (L++(List.range k).map fun k:Nat=>(⟨i,k⟩:Pr))=R at*
   simp(disch:=omega)only[go_sem,ayS,hl]
   exact⟨k+1,by rw[hr];simp [prs,prD,QA],by omega,by omega⟩
  ·obtain rfl:k=A.length:=by omega
   rw[←ha] at hl ⊢
   simp(disch:=omega)only[go_sem,ayS,hl]
   exact⟨i+1,by rw[hl];simp,by omega,by omega⟩
 ·obtain rfl:i=g.n.length:=by omega
  have hA:alL t g.n=alN t g.n g.n.length:=rfl
  rw[hA]
  have am:∀x∈alN t g.n g.n.length,(0≤x.a∧x.a<g.n.length)∧0≤x.b∧x.b<(Q0 t (gt g.n x.a)).length:=fun x hx=>Qmt hx
  generalize alN t g.n g.n.length=L at*
  have hM:∃M:Nat,M≤4∧M≤s.length∧(M=4∨M=s.length∨L.length=0)∧(L.length=0→M=0)∧(if L.length=0 then [] else s.take 4)=s.take M:=by
   by_cases z:L.length=0
   ·exact⟨0,by omega,by omega,by omega,fun _=>rfl,by rw[if_pos z];rfl⟩
   ·rw[if_neg z]
    rcases Nat.le_total 4 s.length with z2|z2
    ·exact⟨4,by omega,z2,by omega,fun z3=>absurd z3 z,rfl⟩
    ·exact⟨s.length,z2,by omega,by omega,fun z3=>absurd z3 z,by rw[Qq z2,Qq (Qg _)]⟩
  obtain⟨M,m1,m2,m3,m4,m5⟩:=hM
  rw[m5]
  simp(disch:=omega)only[go_sem,ayS]
  refine Q8 11 M (fun _=>[]) (fun k=>[(8,.arr 4 (XI (slN L (s.take k) ([],0)).1)),(10,.box [.sl 6 0 g.n.length,.sl 7 0 g.e.length,.sl 8 0 k,.int .i64 (slN L (s.take k) ([],0)).2,.sl 9 0 0])]) (fun k=>(0≤(slN L (s.take k) ([],0)).2∧(slN L (s.take k) ([],0)).2≤3)) (by simp(disch:=omega)only[go_sem];rfl) (by simp [slN]) fun k hk hv=>?_
  have hst:k<s.length→slN L (s.take (k+1)) ([],0)=((slN L (s.take k) ([],0)).1++[⟨(gt L ((gt s (k:Int)).t.tmod L.length)).a,(gt L ((gt s (k:Int)).t.tmod L.length)).b,(slV (gt s (k:Int)) (slN L (s.take k) ([],0)).2).1.1,(slV (gt s (k:Int)) (slN L (s.take k) ([],0)).2).1.2⟩],(slV (gt s (k:Int)) (slN L (s.take k) ([],0)).2).2):=fun hk=>by rw[Xm hk,QmG]
  have hlen:(slN L (s.take k) ([],0)).1.length=k:=by
   have:∀(l:List E)(st:List Slo×Int),(slN L l st).1.length=st.1.length+l.length:=fun l=>by
    induction l with
    |nil=>intro st;rfl
    |cons x l ih=>intro st;rw[slN,ih];simp;omega
   rw[this];simp;omega
  have hsl:(XI (slN L (s.take k) ([],0)).1).length=k:=by simp [XI,hlen]
  by_cases c1:k<M
  ·have hst:=hst (by omega)
   have h8:=hs _ (gt_mem (l:=s) (j:=(k:Int)) (by omega) (by omega))
   obtain⟨⟨a0,a1⟩,⟨b0,b1⟩,d0,d1⟩:=h8
   obtain⟨x,hx,ex⟩:=gtI (tmB (n:=(L.length:Int)) a0 (by omega))
   have u1:=tmB (n:=5) b0 (by decide)
   have u2:=tmB (n:=5) d0 (by decide)
   rw[ex] at hst
   generalize slN L (s.take k) ([],0)=S at*
   by_cases c2:S.2≤(gt s (k:Int)).f.tmod 5-1
   ·by_cases c3:3<S.2+1
    ·have e:slV (gt s (k:Int)) S.2=((0,0),3):=by unfold slV;rw[if_pos c2,if_pos c3]
     rw[e] at hst
     simp(disch:=omega)only[go_sem,ayS,ex,hlen,hsl]
     exact⟨k+1,by rw[hst];simp [XI,slD],⟨by omega,by rw[hst];simp⟩,by omega⟩
    ·have e:slV (gt s (k:Int)) S.2=((S.2,0),S.2+1):=by unfold slV;rw[if_pos c2,if_neg c3]
     rw[e] at hst
     simp(disch:=omega)only[go_sem,ayS,ex,hlen,hsl]
     exact⟨k+1,by rw[hst];simp [XI,slD],⟨by omega,by rw[hst];simp only;omega⟩,by omega⟩
   ·have e:slV (gt s (k:Int)) S.2=(((gt s (k:Int)).f.tmod 5-1,(gt s (k:Int)).o.tmod 5-2),S.2):=by unfold slV;rw[if_neg c2]
    rw[e] at hst
    simp(disch:=omega)only[go_sem,ayS,ex,hlen,hsl]
    exact⟨k+1,by rw[hst];simp [XI,slD],⟨by omega,by rw[hst];exact hv⟩,by omega⟩
  ·obtain rfl:k=M:=by omega
   generalize slN L (s.take k) ([],0)=S at*
   have hK:∃K:Nat,K≤3∧K≤q.length∧(K=3∨K=q.length)∧q.take 3=q.take K:=by
    rcases Nat.le_total 3 q.length with z2|z2
    ·exact⟨3,by omega,z2,by omega,rfl⟩
    ·exact⟨q.length,z2,by omega,by omega,by rw[Qq z2,Qq (Qg _)]⟩
   obtain⟨K,n1,n2,n3,n4⟩:=hK
   rw[n4]
   have main:True:=trivial
   have hcase:(k<s.length∧k<4∧L.length=0)∨(k<s.length∧¬k<4)∨¬k<s.length:=by omega
   rcases hcase with⟨z1,z2,z3⟩|⟨z1,z2⟩|z1<;>(
    first
    |simp(disch:=omega)only[go_sem,ayS,z3]
    |simp(disch:=omega)only[go_sem,ayS]
    refine Q8 15 K (fun _=>[]) (fun j=>[(9,.arr 5 (Ye ((q.take j).map (teM S.2)))),(10,.box [.sl 6 0 g.n.length,.sl 7 0 g.e.length,.sl 8 0 k,.int .i64 S.2,.sl 9 0 j])]) (fun _=>True) (by simp(disch:=omega)only[go_sem];rfl) trivial fun j hj _=>?_
    have tl:(Ye ((q.take j).map (teM S.2))).length=j:=by simp [Ye];omega
    have tS:j<q.length→(q.take (j+1)).map (teM S.2)=(q.take j).map (teM S.2)++[teM S.2 (gt q (j:Int))]:=fun hj=>by rw[Xm hj];simp
    by_cases y1:j<K
    ·have tS:=tS (by omega)
     have rT:=Qwg S.2 (gt q (j:Int)) hv (hq _ (gt_mem (by omega) (by omega)))
     simp only[q4D,teD] at rT
     simp(disch:=omega)only[go_sem,ayS,tl]
     refine QQ rT ?_
     simp(disch:=omega)only[go_sem,ayS,tl]
     exact⟨j+1,by rw[tS];simp [Ye,teD],by omega,by omega⟩
    ·obtain rfl:j=K:=by omega
     by_cases y2:j<q.length
     ·simp(disch:=omega)only[go_sem,ayS,tl]
      rfl
     ·simp(disch:=omega)only[go_sem,ayS,tl]
      rfl)
theorem QmH{ns:List Int}{l:List E}{i:Nat}(h:i<l.length):hnE t ns (l.take (i+1))=if YF t (edM t.e.length ns.length (gt l (i:Int))).t (gt ns (edM t.e.length ns.length (gt l (i:Int))).f) (gt ns (edM t.e.length ns.length (gt l (i:Int))).o)=true then hnE t ns (l.take i)++[edM t.e.length ns.length (gt l (i:Int))] else hnE t ns (l.take i):=by
 unfold hnE
 rw[Xm h,List.filterMap_append,List.filterMap_cons,List.filterMap_nil]
 unfold fiO
 split
 ·rename_i c
  split at c<;>simp_all
 ·rename_i c
  split at c<;>simp_all
theorem QmI(ns:List Int)(l:List E):(hnE t ns l).length≤l.length:=List.length_filterMap_le _ _
theorem QcH{α:Type}(l:List α)(b:Nat)(c:Prop)[Decidable c]:∃K:Nat,K≤b∧K≤l.length∧(K=b∨K=l.length∨c)∧(c→K=0)∧(if c then [] else l.take b)=l.take K:=by
 by_cases z:c
 ·exact⟨0,by omega,by omega,.inr (.inr z),fun _=>rfl,by rw[if_pos z];rfl⟩
 ·rw[if_neg z]
  rcases Nat.le_total b l.length with z2|z2
  ·exact⟨b,by omega,z2,.inl rfl,fun z3=>absurd z3 z,rfl⟩
  ·exact⟨l.length,z2,by omega,.inr (.inl rfl),fun z3=>absurd z3 z,by rw[Qq z2,Qq (Qg _)]⟩
set_option maxHeartbeats 4000000 in
theorem Qwt(h:TyOk t){n:List Pr}{e:List E}(hn:∀x∈n,P8 x)(he:∀x∈e,E8 x):FT 57 [tyD t,.agg [.lst 2 (p8s n),.lst 3 (trs e)]] (hsD (hsM t (n.take 8) (e.take 10))):=by
 have hc:=Qwe h
 have ln:=h.ln
 have le:=h.le
 have hp:=h.pos
 obtain⟨K,a1,a2,a3,a4,a5⟩:=QcH n 8 ((Xn t).length=0)
 have hcm:∀x∈Xn t,IsT t x:=fun x hx=>(QbI hx).1
 have hE:hsM t (n.take 8) (e.take 10)=⟨⟨hnN t (if (Xn t).length=0 then [] else n.take 8),hnE t (hnN t (if (Xn t).length=0 then [] else n.take 8)) (if (hnN t (if (Xn t).length=0 then [] else n.take 8)).length=0∨t.e.length=0 then [] else e.take 10)⟩,hnV t (if (Xn t).length=0 then [] else n.take 8)⟩:=rfl
 rw[hE,a5]
 have hN:∀j:Nat,j<n.length→hnN t (n.take (j+1))=hnN t (n.take j)++[pick (Xn t) (gt n (j:Int)).a]:=fun j hj=>by rw[Xm hj];simp [hnN]
 have hV:∀j:Nat,j<n.length→hnV t (n.take (j+1))=hnV t (n.take j)++[ZU (Q0 t (pick (Xn t) (gt n (j:Int)).a)) (gt n (j:Int)).b]:=fun j hj=>by rw[Xm hj];simp [hnV]
 have lN:∀j:Nat,j≤n.length→(hnN t (n.take j)).length=j∧(hnV t (n.take j)).length=j:=fun j hj=>by simp [hnN,hnV];omega
 have cl:(Xn t).length≤6:=Qt (QmE _ _) ln
 have hpk:∀x,pick (Xn t) x=gt (Xn t) (x.tmod (Xn t).length):=fun _=>rfl
 have hty0:∀j:Nat,((Xn t).length=0→j=0)→∀x∈hnN t (n.take j),IsT t x:=fun j hj x hx=>by
  obtain⟨y,hy,rfl⟩:=Qv.1 hx
  refine hcm _ (QbH (hn y (Qw hy)).1.1 ?_)
  rcases Nat.eq_zero_or_pos (Xn t).length with z|z
  ·rw[hj z] at hy;cases hy
  ·exact z
 generalize Xn t=C at*
 refine foZ [[],[(2,none,[],true),(4,none,[2],true),(5,none,[],true),(7,(some 64),[4,5],true),(9,(some 256),[2,4,5,7],false)],[],[]] ?_
 conv in fnC ..=>reduce
 simp(disch:=omega)only[go_sem,ayS,tyD]
 simp only[tyD] at hc
 refine QQ hc ?_
 simp(disch:=omega)only[go_sem,ayS]
 refine Q8 7 K (fun _=>[]) (fun j=>[(6,.arr 1 (QR (hnN t (n.take j)))),(8,.arr 1 (X8 (hnV t (n.take j)))),(9,.box [.sl 6 0 j,.sl 7 0 0,.sl 8 0 j])]) (fun _=>True) (by simp(disch:=omega)only[go_sem];rfl) trivial fun j hj _=>?_
 obtain⟨b1,b2⟩:=lN j (by omega)
 have b3:(X8 (hnV t (n.take j))).length=j:=by simp [X8,b2]
 by_cases c:j<K
 ·have hN:=hN j (by omega)
  have hV:=hV j (by omega)
  obtain⟨⟨a0,a01⟩,d0,d1⟩:=QcD hn j
  have hC:0<C.length:=by omega
  obtain⟨x,hx,ex⟩:=gtI (tmB (n:=(C.length:Int)) a0 (by omega))
  have hty:=hcm _ (gt_mem (l:=C) (j:=(x:Int)) (by omega) (by omega))
  rw[hpk,ex] at hN hV
  have ra:=Qag h hty
  have h6:=X7 h hty.2
  have hb:=fun y (hy:y∈Q0 t (gt C (x:Int)))=>Qca h hty.2 hy
  generalize Q0 t (gt C (x:Int))=A at*
  simp only[tyD] at ra
  simp(disch:=omega)only[go_sem,ayS,ex]
  refine QQ ra ?_
  simp(disch:=omega)only[go_sem,ayS]
  have hR:ZU A (gt n (j:Int)).b=(List.range A.length).map fun k:Nat=>(gt A (k:Int)).lo+((gt n (j:Int)).b+7*k).tmod ((gt A (k:Int)).hi-(gt A (k:Int)).lo+1):=rfl
  rw[hR] at hV
  refine Q8 12 A.length (fun k=>[(11,.sl 12 0 k)]) (fun k=>[(12,.arr 1 (QR ((List.range k).map fun k:Nat=>(gt A (k:Int)).lo+((gt n (j:Int)).b+7*k).tmod ((gt A (k:Int)).hi-(gt A (k:Int)).lo+1))))]) (fun _=>True) (by simp(disch:=omega)only[go_sem];rfl) trivial fun k hk _=>?_
  have hl:((List.range k).map fun k:Nat=>(gt A (k:Int)).lo+((gt n (j:Int)).b+7*k).tmod ((gt A (k:Int)).hi-(gt A (k:Int)).lo+1)).length=k:=by simp
  have hr:((List.range (k+1)).map fun k:Nat=>(gt A (k:Int)).lo+((gt n (j:Int)).b+7*k).tmod ((gt A (k:Int)).hi-(gt A (k:Int)).lo+1))=((List.range k).map fun k:Nat=>(gt A (k:Int)).lo+((gt n (j:Int)).b+7*k).tmod ((gt A (k:Int)).hi-(gt A (k:Int)).lo+1))++[(gt A (k:Int)).lo+((gt n (j:Int)).b+7*k).tmod ((gt A (k:Int)).hi-(gt A (k:Int)).lo+1)]:=by simp [List.range_succ]
  simp(disch:=omega)only[go_sem]
  refine QT (fun c=>?_) (fun c=>?_)
  ·have hbb:=hb _ (gt_mem (l:=A) (j:=(k:Int)) (by omega) (by omega))
   have q:=tmB (a:=(gt n (j:Int)).b+7*k) (n:=(gt A (k:Int)).hi-(gt A (k:Int)).lo+1) (by omega) (by omega)
   generalize ((List.range k).map fun k:Nat=>(gt A (k:Int)).lo+((gt n (j:Int)).b+7*k).tmod ((gt A (k:Int)).hi-(gt A (k:Int)).lo+1))=R at*
   simp(disch:=omega)only[go_sem,ayS,hl,atD]
   exact⟨k+1,by rw[hr];simp [QR],by omega,by omega⟩
  ·obtain rfl:k=A.length:=by omega
   simp(disch:=omega)only[go_sem,ayS,hl,b3]
   exact⟨j+1,by rw[hN,hV];simp [QR,X8],by omega,by omega⟩
 ·obtain rfl:j=K:=by omega
  have hcase:(j<n.length∧j<8∧C.length=0)∨(j<n.length∧¬j<8)∨¬j<n.length:=by omega
  have hty:=hty0 j (by omega)
  obtain⟨M,m1,m2,m3,m4,m5⟩:=QcH e 10 ((hnN t (n.take j)).length=0∨t.e.length=0)
  rw[m5]
  have m6:(hnN t (n.take j)).length=0→M=0:=fun z=>m4 (.inl z)
  generalize hnV t (n.take j)=V at*
  generalize hnN t (n.take j)=N at*
  have hs0:=fun k=>QmH (t:=t) (ns:=N) (l:=e) (i:=k)
  have hl0:∀k:Nat,(hnE t N (e.take k)).length≤k:=fun k=>Qt (QmI _ _) (by simp;omega)
  rcases hcase with⟨z1,z2,z3⟩|⟨z1,z2⟩|z1<;>(
   first
   |simp(disch:=omega)only[go_sem,ayS,z3]
   |simp(disch:=omega)only[go_sem,ayS]
   refine Q8 14 M (fun _=>[]) (fun k=>[(7,.arr 3 (eds (hnE t N (e.take k)))),(9,.box [.sl 6 0 j,.sl 7 0 (hnE t N (e.take k)).length,.sl 8 0 j])]) (fun _=>True) (by simp(disch:=omega)only[go_sem];rfl) trivial fun k hk _=>?_
   have hs:=hs0 k
   have hl:=hl0 k
   by_cases c2:k<M
   ·have hs:=hs (by omega)
    obtain⟨⟨e0,e1⟩,⟨f0,f1⟩,d0,d1⟩:=he _ (gt_mem (l:=e) (j:=(k:Int)) (by omega) (by omega))
    have te0:0<t.e.length:=by omega
    have n0:0<N.length:=by omega
    have z8:¬C.length=0:=fun z=>by have:=a4 z;omega
    first
    |exact absurd z3 z8
    |(
     have q1:=tmB (n:=(t.e.length:Int)) e0 (by omega)
     obtain⟨u,hu,eu⟩:=gtI (tmB (n:=(N.length:Int)) f0 (by omega))
     obtain⟨w,hw,ew⟩:=gtI (tmB (n:=(N.length:Int)) d0 (by omega))
     have r:=Qdz h (k:=(gt e (k:Int)).t.tmod t.e.length) (a:=gt N (u:Int)) (b:=gt N (w:Int)) q1 (hty _ (gt_mem (by omega) (by omega))) (hty _ (gt_mem (by omega) (by omega)))
     have hf:(Xh t (gt N (u:Int)) (gt t.e ((gt e (k:Int)).t.tmod t.e.length)).f&&Xh t (gt N (w:Int)) (gt t.e ((gt e (k:Int)).t.tmod t.e.length)).o)=YF t ((gt e (k:Int)).t.tmod t.e.length) (gt N (u:Int)) (gt N (w:Int)):=rfl
     rw[hf] at r
     unfold edM at hs
     rw[eu,ew] at hs
     simp only[tyD] at r
     generalize YF t ((gt e (k:Int)).t.tmod t.e.length) (gt N (u:Int)) (gt N (w:Int))=B at*
     generalize hnE t N (e.take k)=F at*
     rw[b1] at eu ew
     simp(disch:=omega)only[go_sem,ayS,eu,ew]
     refine QQ r ?_
     cases B
     ·rw[if_neg (by decide)] at hs
      simp(disch:=omega)only[go_sem,ayS]
      exact⟨k+1,by rw[hs];simp,by omega,by omega⟩
     ·rw[if_pos rfl] at hs
      simp(disch:=omega)only[go_sem,ayS]
      exact⟨k+1,by rw[hs];simp [eds,edD],by omega,by omega⟩)
   ·obtain rfl:k=M:=by omega
    have hcase2:(k<e.length∧¬k<10)∨((k<e.length∧k<10)∧N.length=0)∨((k<e.length∧k<10)∧0<N.length∧t.e.length=0)∨¬k<e.length:=by omega
    rcases hcase2 with⟨y1,y2⟩|⟨⟨y1,y2⟩,y3⟩|⟨⟨y1,y2⟩,y3,y4⟩|y1
    ·first
     |omega
     |(simp(disch:=omega)only[go_sem,ayS];rfl)
    ·first
     |omega
     |(simp(disch:=omega)only[go_sem,ayS];rfl)
    ·first
     |omega
     |(simp(disch:=omega)only[go_sem,ayS,y4];rfl)
    ·first
     |omega
     |(simp(disch:=omega)only[go_sem,ayS];rfl))
end
end Go.Am
