/- Contracts and what they rest on: Cg. -/
import Derived.Test.YtgllpjliaepbdaaGreatCf
import Derived.Test.YtgllpjliaepbdaaGreatCe
import Derived.Test.YtgllpjliaepbdaaGreatAmPi
import Derived.Test.YtgllpjliaepbdaaGreatAmEv
import Derived.Test.YtgllpjliaepbdaaGreatCb
import Derived.Test.YtgllpjliaepbdaaGreatCa
set_option linter.unusedVariables false
set_option linter.unusedSimpArgs false
set_option linter.unnecessarySimpa false
open Go Go.Proofs
namespace Go.Am
set_option maxRecDepth 100000
attribute [local irreducible] W
section
variable {t:Ty}
theorem QlJ(a:List Int)(b:List E)(v:List (List Int)):XK (.agg [.arr 1 (QR a),.arr 3 (eds b),.nst 1 (nsA v)])=true:=by
 simp only[go_sem]
theorem Qgz(w:List (List Int)):(w.length=0∧nsE w=.arr 1 [])∨(0<w.length∧nsE w=.nst 1 (nsL w) none):=by
 cases w with
 |nil=>exact .inl ⟨rfl,rfl⟩
 |cons a w=>exact .inr ⟨by simp,rfl⟩
def XJ(r:Ru)(i:Nat):List Int:=thr (crL i r.i.n) r.r.g.n
def X9(t:Ty)(r:Ru)(i:Nat):List (List Int):=(crL i r.i.n).map fun k=>Zk t (gt r.r.g.n k)
def Yg(r:Ru)(c:Mo)(i:Nat):List E:=(crL i r.i.e).map fun k=>⟨(gt r.r.g.e k).t,gt c.n (gt r.r.g.e k).f,gt c.n (gt r.r.g.e k).o⟩
theorem QlK(r:Ru)(i:Nat):XJ r (i+1)=if decide ((i:Int)∈r.i.n)=true then XJ r i else XJ r i++[gt r.r.g.n (i:Int)]:=by
 unfold XJ;rw[Qap];split<;>simp [thr]
theorem QlL(t:Ty)(r:Ru)(i:Nat):X9 t r (i+1)=if decide ((i:Int)∈r.i.n)=true then X9 t r i else X9 t r i++[Zk t (gt r.r.g.n (i:Int))]:=by
 unfold X9;rw[Qap];split<;>simp
theorem QlM(r:Ru)(c:Mo)(i:Nat):Yg r c (i+1)=if decide ((i:Int)∈r.i.e)=true then Yg r c i else Yg r c i++[⟨(gt r.r.g.e (i:Int)).t,gt c.n (gt r.r.g.e (i:Int)).f,gt c.n (gt r.r.g.e (i:Int)).o⟩]:=by
 unfold Yg;rw[Qap];split<;>simp
theorem QlN(r:Ru)(i:Nat):(XJ r i).length≤i:=by simp only[XJ,thr,QC];exact YM _ _
theorem QlO(t:Ty)(r:Ru)(i:Nat):(X9 t r i).length=(XJ r i).length:=by simp [XJ,X9,thr]
theorem QlP(r:Ru)(c:Mo)(i:Nat):(Yg r c i).length≤i:=by simp only[Yg,QC];exact YM _ _
set_option maxHeartbeats 8000000 in
theorem Qu7(h:TyOk t){r:Ru}(hr:RuOk t r)(g:G)(v:List (List Int))(cm:Mo)(h1:g.n.length≤1000)(h2:g.e.length≤1000)(h3:v.length≤1000)(hc:cm.n.length=r.r.g.n.length):FT 133 [tyD t,Q6 r,.agg [.arr 1 (QR g.n),.arr 3 (eds g.e),nsD v],mD cm] (.agg [.arr 1 (QR (g.n++XJ r r.r.g.n.length)),.arr 3 (eds (g.e++Yg r cm r.r.g.e.length)),nsD (v++X9 t r r.r.g.n.length)]):=by
 have lr:=QX hr.rg
 have li:=hr.i.ok.ln
 have le:=hr.i.ok.le
 have lp:=QX hr.i.ok.va
 have main:∀(E:Ent)(D0:D),(v=[]∧E=.arr 1 []∧D0=.arr 1 [])∨(v≠[]∧E=.nst 1 (nsL v) none∧D0=.nst 1 (nsA v))→FT 133 [tyD t,Q6 r,.agg [.arr 1 (QR g.n),.arr 3 (eds g.e),D0],mD cm] (.agg [.arr 1 (QR (g.n++XJ r r.r.g.n.length)),.arr 3 (eds (g.e++Yg r cm r.r.g.e.length)),nsD (v++X9 t r r.r.g.n.length)]):=by
  intro E D0 hE
  rcases hE with⟨hv,rfl,rfl⟩|⟨hv,rfl,rfl⟩<;>(
   refine fo [[(2,none,[],true),(8,none,[2],false)],[],[(2,none,[],true),(18,none,[2],false)]] ?_ (hok:=(by simp only[List.all_cons,List.all_nil,Bool.and_true,ru1,QlJ];first|done|rfl))
   conv in fnC ..=>reduce
   simp(disch:=omega)only[go_sem,ayS,tyD,Q6,ruL,paL,fbE,cyL,mD]
   refine Q8 10 r.r.g.n.length (fun _=>[]) (fun i=>[(2,.arr 1 (QR (g.n++XJ r i))),(4,nsE (v++X9 t r i)),(5,.box [.sl 2 0 (g.n.length+(XJ r i).length),.sl 3 0 g.e.length,.sl 4 0 (v.length+(XJ r i).length)])]) (fun _=>True) (by simp(disch:=omega)only[go_sem,hv,List.nil_append,show XJ r 0=[] from rfl,show X9 t r 0=[] from rfl,nsE]) trivial fun i hi _=>?_
   have gl:=QlN r i
   have gv:=QlO t r i
   have sN:=QlK r i
   have sV:=QlL t r i
   have hw:(v++X9 t r i).length=v.length+(XJ r i).length:=by rw[Qj,gv]
   have hn:(g.n++XJ r i).length=g.n.length+(XJ r i).length:=Qj
   have r1:=QlF r.i.n (by omega) (i:Int)
   rcases Qgz (v++X9 t r i) with⟨z1,z2⟩|⟨z1,z2⟩<;>(
    rw[z2]
    simp(disch:=omega)only[go_sem]
    refine QT (fun c=>?_) (fun c=>?_)
    ·simp(disch:=omega)only[go_sem]
     refine QQ r1 ?_
     cases d:decide ((i:Int)∈r.i.n)<;>rw[d] at sN sV
     ·have ra:=Qag h (hr.rt.of (x:=(i:Int)) ⟨by omega,by omega⟩)
      have g6:=X7 h (hr.rt.of (x:=(i:Int)) ⟨by omega,by omega⟩).2
      have hL:Zk t (gt r.r.g.n (i:Int))=(Q0 t (gt r.r.g.n (i:Int))).map (·.lo):=rfl
      rw[hL] at sV
      generalize Q0 t (gt r.r.g.n (i:Int))=A at*
      simp(disch:=omega)only[go_sem,ayS,hn]
      simp only[tyD] at ra
      refine QQ ra ?_
      simp(disch:=omega)only[go_sem,ayS]
      refine Q8 14 A.length (fun k=>[(13,.sl 13 0 k)]) (fun k=>[(13,.arr 1 (QR ((A.take k).map (·.lo))))]) (fun _=>True) (by simp(disch:=omega)only[go_sem];rfl) trivial fun k hk _=>?_
      have hA:((A.take k).map (·.lo)).length=k:=by simp;omega
      have eN:XJ r (i+1)=XJ r i++[gt r.r.g.n (i:Int)]:=sN
      have eV:X9 t r (i+1)=X9 t r i++[A.map (·.lo)]:=sV
      simp(disch:=omega)only[go_sem]
      refine QT (fun c=>?_) (fun c=>?_)
      ·simp(disch:=omega)only[go_sem,ayS,hA,atD]
       exact⟨k+1,by rw[Xm (by omega)];simp,by omega,by omega⟩
      ·obtain rfl:k=A.length:=by omega
       rw[List.take_length] at*
       have z3:nsE (v++X9 t r (i+1))=.nst 1 (nsL (v++X9 t r i++[A.map (·.lo)])) none:=by
        rw[eV,←Qx];exact Qcs (by simp;omega)
       simp(disch:=omega)only[go_sem,ayS,hA,hw]
       exact⟨i+1,by rw[z3,eN];first|(have hz:=List.length_eq_zero_iff.1 z1;have hz2:=List.append_eq_nil_iff.1 hz;have hz3:XJ r i=[]:=List.length_eq_zero_iff.1 (by rw[←gv,hz2.2];rfl);simp [hz2.1,hz2.2,hz3,nsL])|(simp;omega),by omega,by omega⟩
     ·simp(disch:=omega)only[go_sem,ayS]
      have eN:XJ r (i+1)=XJ r i:=sN
      have eV:X9 t r (i+1)=X9 t r i:=sV
      exact⟨i+1,by rw[eN,eV,z2];simp,by omega,by omega⟩
    ·obtain rfl:i=r.r.g.n.length:=by omega
     have sE:=fun k=>QlM r cm k
     simp(disch:=omega)only[go_sem,ayS]
     refine Q8 15 r.r.g.e.length (fun _=>[]) (fun k=>[(2,.arr 3 (eds (g.e++Yg r cm k))),(4,.box [.sl 1 0 (g.n.length+(XJ r r.r.g.n.length).length),.sl 2 0 (g.e.length+(Yg r cm k).length),.sl 3 0 (v.length+(XJ r r.r.g.n.length).length)])]) (fun _=>True) (by simp(disch:=omega)only[go_sem,show Yg r cm 0=[] from rfl];try rfl) trivial fun k hk _=>?_
     have gE:=QlP r cm k
     have he:(g.e++Yg r cm k).length=g.e.length+(Yg r cm k).length:=Qj
     have r2:=QlF r.i.e (by omega) (k:Int)
     have sE:=sE k
     simp(disch:=omega)only[go_sem]
     refine QT (fun c=>?_) (fun c=>?_)
     ·simp(disch:=omega)only[go_sem]
      refine QQ r2 ?_
      have:=ZF hr.rg (i:=k) (by omega)
      obtain⟨⟨f1,f2⟩,o1,o2⟩:=this
      cases d:decide ((k:Int)∈r.i.e)<;>rw[d] at sE
      ·have eE:Yg r cm (k+1)=_:=sE
       simp(disch:=omega)only[go_sem,he]
       exact⟨k+1,by rw[eE];simp [QA],by omega,by omega⟩
      ·have eE:Yg r cm (k+1)=Yg r cm k:=sE
       simp(disch:=omega)only[go_sem,ayS]
       exact⟨k+1,by rw[eE];simp,by omega,by omega⟩
     ·obtain rfl:k=r.r.g.e.length:=by omega
      simp(disch:=omega)only[go_sem,ayS,hn,he,hw]
      first|(rw[ZR z1];done)|(rw[List.length_eq_zero_iff.1 z1];rfl)))
 by_cases hv:v=[]
 ·exact main _ _ (.inl ⟨hv,rfl,by rw[hv];rfl⟩)
 ·exact main _ _ (.inr ⟨hv,rfl,ZR (List.length_pos_iff.2 hv)⟩)
end
def fiL(f:Nat→Int)(z:Int)(n i:Nat):List Int:=(List.range n).map fun j=>if j<i then f j else z
theorem Qd7(f:Nat→Int)(z:Int)(n i:Nat):(fiL f z n i).length=n:=by simp [fiL]
theorem QgA{f:Nat→Int}{z:Int}{n i:Nat}:(fiL f z n i).set i (f i)=fiL f z n (i+1):=by
 apply List.ext_getElem (by simp [fiL])
 intro j h1 h2
 simp only[List.getElem_set,fiL,List.getElem_map,List.getElem_range]
 by_cases e:i=j
 ·subst e;simp
 ·have:(j<i+1)=(j<i):=by apply propext;omega
  simp [e,this]
theorem QlQ(f:Nat→Int)(z:Int)(n:Nat):fiL f z n 0=List.replicate n z:=by
 apply List.ext_getElem (by simp [fiL])
 intro j h1 h2
 simp [fiL]
theorem QlR(f:Nat→Int)(z:Int)(n:Nat):fiL f z n n=(List.range n).map f:=by
 refine List.map_congr_left fun j hj=>?_
 rw[if_pos (List.mem_range.1 hj)]
section
variable {t:Ty}
theorem Qu8(h:TyOk t){r:Ru}(hr:RuOk t r){x:Hs}(hx:HsOk t x){mt:Mt}(hm:SmOk t r.l.g x.g mt.m)(hj:r.inj=true→mt.m.n.Nodup∧mt.m.e.Nodup)(hs:XC r.l x mt.m=(mt.v,0)):FT 139 [tyD t,Q6 r,hsD x,mtD mt] (.int .i64 0):=by
 have ln:=hm.ln
 have le:=hm.le
 have l1:=QX hr.l.g
 have l2:=QX hx.g
 have l3:=hx.ln
 have hv:=Qd6 hs
 have hvv:=hr.l.v
 have r1:=Qgj h hr.l.g hx.g hr.l.ty hx.ty hm r.inj hj
 have r2:=Qk9 h hr.l hx hm
 rw[hs] at r2
 have r3:=ZC mt.v mt.v (by unfold QS;omega)
 rw[Qe rfl] at r3
 simp only[gD,mD,gA,mA,tyD,paD,paL,hsD,hsL,mtD,mtL,List.cons_append,List.nil_append] at r1 r2
 refine fo [] ?_
 conv in fnC ..=>reduce
 simp(disch:=omega)only[go_sem,ayS,Q6,ruL,tyD,paL,fbE,cyL,hsD,hsL,mtD,mtL]
 refine QQ r1 ?_
 simp(disch:=omega)only[go_sem,ayS]
 refine QQ r2 ?_
 simp(disch:=omega)only[go_sem,ayS]
 refine QQ r3 ?_
 simp(disch:=omega)only[go_sem,ayS]
theorem Qu9(m:Mt)(h1:m.m.n.length≤1000)(h2:m.m.e.length≤1000)(h3:m.v.length≤1000):FT 143 [mtD m] (.agg [.arr 1 (QR m.m.n),.arr 1 (QR m.m.e),.arr 1 (QR m.v)]):=by
 have r1:=Z4 m.m.n (by omega)
 have r2:=Z4 m.m.e (by omega)
 have r3:=Z4 m.v (by omega)
 refine fo [[(3,none,[],true),(6,(some 48),[3],false),(7,none,[],true),(10,(some 512),[3,7],false)]] ?_
 conv in fnC ..=>reduce
 simp(disch:=omega)only[go_sem,ayS,mtD,mtL]
 refine QQ r1 ?_
 simp(disch:=omega)only[go_sem,ayS]
 refine QQ r2 ?_
 simp(disch:=omega)only[go_sem,ayS]
 refine QQ r3 ?_
 simp(disch:=omega)only[go_sem,ayS]
theorem Qva(h:TyOk t){a:Int}(ha:IsT t a):FT 238 [tyD t,.int .i64 a] (.arr 1 (QR (Zk t a))):=by
 have g6:=X7 h ha.2
 have ra:=QbD h ha
 have hL:Zk t a=(Q0 t a).map (·.lo):=rfl
 rw[hL]
 generalize Q0 t a=A at*
 simp only[tyD] at ra
 refine fo [] ?_
 conv in fnC ..=>reduce
 simp(disch:=omega)only[go_sem,ayS,tyD]
 refine QQ ra ?_
 simp(disch:=omega)only[go_sem,ayS]
 refine Q8 19 A.length (fun k=>[(7,.sl 0 0 k)]) (fun k=>[(0,.arr 1 (QR ((A.take k).map (·.lo))))]) (fun _=>True) (by simp(disch:=omega)only[go_sem];rfl) trivial fun k hk _=>?_
 have hA:((A.take k).map (·.lo)).length=k:=by simp;omega
 simp(disch:=omega)only[go_sem]
 refine QT (fun c=>?_) (fun c=>?_)
 ·simp(disch:=omega)only[go_sem,ayS,hA,atD]
  exact⟨k+1,by rw[Xm (by omega)];simp,by omega,by omega⟩
 ·obtain rfl:k=A.length:=by omega
  rw[List.take_length] at*
  simp(disch:=omega)only[go_sem,ayS,hA]
def Qcu(d:List Int)(i:Nat):Int:=if (i:Int)∈d then (Xq d i:Int) else -1
theorem QlS{d:List Int}{n:Nat}(hd:d.Pairwise (·<·))(hl:d.length≤1000)(hn:n≤1000):FT 145 [.int .i64 n,.lst 1 (QR d)] (.arr 1 (QR (Xy n d))):=by
 refine fo [] ?_
 conv in fnC ..=>reduce
 simp(disch:=omega)only[go_sem]
 refine Q8 13 n (fun _=>[]) (fun i=>[(0,.arr 1 (QR (fiL (Qcu d) 0 n i)))]) (fun _=>True) (by simp(disch:=omega)only[go_sem,QlQ]) trivial fun i hi _=>?_
 have hf:=Qd7 (Qcu d) 0 n i
 simp(disch:=omega)only[go_sem,hf]
 refine QT (fun c=>?_) (fun c=>?_)
 ·have r:=Qge d (i:Int) hd (by omega)
  simp(disch:=omega)only[go_sem,hf]
  refine QQ r ?_
  have hs:=QgA (f:=Qcu d) (z:=0) (n:=n) (i:=i)
  by_cases c:(i:Int)∈d
  ·have e:Qcu d i=(Xq d (i:Int):Int):=if_pos c
   rw[e] at hs
   simp(disch:=omega)only[go_sem,ayS,c,hf,hs]
   exact⟨i+1,by simp,by omega,by omega⟩
  ·have e:Qcu d i= -1:=if_neg c
   rw[e] at hs
   simp(disch:=omega)only[go_sem,ayS,c,hf,hs]
   exact⟨i+1,by simp,by omega,by omega⟩
 ·obtain rfl:i=n:=by omega
  simp(disch:=omega)only[go_sem,ayS,hf]
  rw[QlR]
  rfl
def cmK(keep into mt trk:List Int)(i:Nat):Int:=gt trk (gt mt (gt keep (idx (fun y=>decide ((i:Int)=y)) into 0)))
def cmA(keep into mt trk:List Int)(cn a:Nat):List Int:=(List.range cn).map fun j:Nat=>if (j:Int)∈into.take a then cmK keep into mt trk j else -1
def cmB(keep into mt trk:List Int)(cn n i:Nat):List Int:=(List.range cn).map fun j:Nat=>if (j:Int)∈into then cmK keep into mt trk j else if j<i then (n:Int)+(Xq (crL j into) j:Int) else -1
section
variable {keep into mt trk:List Int} {cn n:Nat}
theorem Qcv(a:Nat):(cmA keep into mt trk cn a).length=cn:=by simp [cmA]
theorem QgB(i:Nat):(cmB keep into mt trk cn n i).length=cn:=by simp [cmB]
theorem Qvb:cmA keep into mt trk cn 0=List.replicate cn (-1):=by
 apply List.ext_getElem (by simp [cmA])
 intro j h1 h2
 simp [cmA]
theorem Qvc{a:Nat}(hd:into.Nodup)(ha:a<into.length)(hb:0≤gt into (a:Int)):(cmA keep into mt trk cn a).set (gt into (a:Int)).toNat (gt trk (gt mt (gt keep (a:Int))))=cmA keep into mt trk cn (a+1):=by
 apply List.ext_getElem (by simp [cmA])
 intro j h1 h2
 simp only[List.getElem_set,cmA,List.getElem_map,List.getElem_range]
 rw[Xm ha]
 by_cases e:(gt into (a:Int)).toNat=j
 ·have e2:(j:Int)=gt into (a:Int):=by omega
  rw[if_pos e,if_pos (by simp [e2])]
  unfold cmK
  rw[e2,QaT hd ha]
 ·have e2:¬(j:Int)=gt into (a:Int):=by omega
  rw[if_neg e]
  simp [e2]
theorem Qvd:cmA keep into mt trk cn into.length=cmB keep into mt trk cn n 0:=by
 refine List.map_congr_left fun j hj=>?_
 rw[List.take_length,if_neg (Nat.not_lt_zero j)]
theorem Qve{i:Nat}(h:(i:Int)∈into):cmB keep into mt trk cn n (i+1)=cmB keep into mt trk cn n i:=by
 refine List.map_congr_left fun j hj=>?_
 by_cases e:j=i
 ·subst e;rw[if_pos h,if_pos h]
 ·have:(j<i+1)=(j<i):=propext (by omega)
  simp [this]
theorem Qvf{i:Nat}(h:¬(i:Int)∈into):(cmB keep into mt trk cn n i).set i ((n:Int)+((crL i into).length:Int))=cmB keep into mt trk cn n (i+1):=by
 apply List.ext_getElem (by simp [cmB])
 intro j h1 h2
 simp only[List.getElem_set,cmB,List.getElem_map,List.getElem_range]
 by_cases e:i=j
 ·subst e;rw[if_pos rfl,if_neg h,if_pos (by omega),QlH]
 ·have:(j<i+1)=(j<i):=propext (by omega)
  simp [this,e]
theorem Qvg:cmB keep into mt trk cn n cn=Y3 cn keep into mt trk n:=by
 refine List.map_congr_left fun j hj=>?_
 unfold QbC cmK
 rw[if_pos (List.mem_range.1 hj)]
theorem Qvh{i:Nat}(hi:i<cn):gt (cmB keep into mt trk cn n i) (i:Int)=if (i:Int)∈into then cmK keep into mt trk i else -1:=by
 rw[QV (by rw[QgB];exact hi)]
 simp [cmB]
theorem QlT(hc:cn≤1000)(hn:n≤1000)(hi:into.length≤1000)(hd:into.Nodup)(hk:keep.length=into.length)(hm:mt.length≤1000)(ht:trk.length≤1000)(ib:∀i:Nat,i<into.length→0≤gt into (i:Int)∧gt into (i:Int)<cn)(kb:∀i:Nat,i<into.length→0≤gt keep (i:Int)∧gt keep (i:Int)<mt.length)(mb:∀i:Nat,i<into.length→0≤gt mt (gt keep (i:Int))∧gt mt (gt keep (i:Int))<trk.length)(tb:∀i:Nat,i<into.length→0≤gt trk (gt mt (gt keep (i:Int)))):
  FT 146 [.int .i64 cn,.lst 1 (QR keep),.lst 1 (QR into),.lst 1 (QR mt),.lst 1 (QR trk),.int .i64 n] (.arr 1 (QR (Y3 cn keep into mt trk n))):=by
 have r:FT 186 [.lst 1 [.int .i64 (-1)],.int .i64 cn] (.arr 1 (QR (cmA keep into mt trk cn 0))):=by
  rw[Qvb];exact Qli (-1) cn (by omega)
 refine fo [] ?_
 conv in fnC ..=>reduce
 simp(disch:=omega)only[go_sem]
 refine QQ r ?_
 simp(disch:=omega)only[go_sem]
 refine Q8 22 into.length (fun _=>[]) (fun a=>[(0,.arr 1 (QR (cmA keep into mt trk cn a)))]) (fun _=>True) (by simp(disch:=omega)only[go_sem,Qcv];try rfl) trivial fun a ha _=>?_
 have lA:=Qcv (keep:=keep) (into:=into) (mt:=mt) (trk:=trk) (cn:=cn) a
 simp(disch:=omega)only[go_sem,lA,Qcv]
 refine QT (fun c=>?_) (fun c=>?_)
 ·have b1:=ib a (by omega)
  have b2:=kb a (by omega)
  have b3:=mb a (by omega)
  have hs:=Qvc (keep:=keep) (mt:=mt) (trk:=trk) (cn:=cn) hd (a:=a) (by omega) b1.1
  simp(disch:=omega)only[go_sem,ayS,lA,Qcv,hs]
  exact⟨a+1,by simp,by omega,by omega⟩
 ·obtain rfl:a=into.length:=by omega
  simp(disch:=omega)only[go_sem,lA,Qcv]
  rw[Qvd (n:=n)]
  have l0:=QgB (keep:=keep) (into:=into) (mt:=mt) (trk:=trk) (cn:=cn) (n:=n) 0
  refine Q8 43 cn (fun i=>[(5,.int .i64 (n+(crL i into).length))]) (fun i=>[(0,.arr 1 (QR (cmB keep into mt trk cn n i)))]) (fun _=>True) (by simp(disch:=omega)only[go_sem,show ((crL 0 into).length:Int)=0 from rfl,Int.add_zero];try rfl) trivial fun i hi _=>?_
  have lB:=QgB (keep:=keep) (into:=into) (mt:=mt) (trk:=trk) (cn:=cn) (n:=n) i
  have hs:=Qap i into
  have hcl:(crL i into).length≤i:=YM _ _
  simp(disch:=omega)only[go_sem,lB,l0]
  refine QT (fun c=>?_) (fun c=>?_)
  ·have eg:=Qvh (keep:=keep) (into:=into) (mt:=mt) (trk:=trk) (cn:=cn) (n:=n) (i:=i) (by omega)
   by_cases d:(i:Int)∈into
   ·obtain⟨j,hj,hji⟩:=Xk d
    have e2:=QaT hd hj
    rw[hji] at e2
    rw[if_pos d] at eg
    unfold cmK at eg
    rw[e2] at eg
    have hb:=tb j (by omega)
    have hin:=Qve (keep:=keep) (mt:=mt) (trk:=trk) (cn:=cn) (n:=n) d
    rw[if_pos (Qe d)] at hs
    simp(disch:=omega)only[go_sem,ayS,lB,l0,eg]
    exact⟨i+1,by simp [hs,hin],by omega,by omega⟩
   ·rw[if_neg d] at eg
    have hout:=Qvf (keep:=keep) (mt:=mt) (trk:=trk) (cn:=cn) (n:=n) d
    rw[if_neg (by simp [d])] at hs
    simp(disch:=omega)only[go_sem,ayS,lB,l0,eg,hout]
    exact⟨i+1,by simp [hs];omega,by omega,by omega⟩
  ·obtain rfl:i=cn:=by omega
   have l9:(Y3 i keep into mt trk n).length=i:=by simp [Y3]
   simp(disch:=omega)only[go_sem,ayS,lB,l0,Qvg,l9]
end
end
section
variable {P:Program} {F:String→Nat} {α:Type}
theorem idx_neg{l:List Int}{x:Int}:idx (fun y=>decide (x=y)) l 0<0↔¬x∈l:=by
 have:=Qb5 (fun y=>decide (x=y)) l 0 (by omega)
 have h2:(l.any fun y=>decide (x=y))=decide (x∈l):=by
  rw[Bool.eq_iff_iff];simp
 rw[h2,decide_eq_decide] at this
 rw[←this]
 omega
theorem QlU{l:List Int}(hn:l.Nodup){k:Nat}(hk:k<l.length):idx (fun y=>decide (gt l k=y)) l 0=k:=by
 have hm:gt l k∈l:=gt_mem (by omega) (by omega)
 have h0:¬idx (fun y=>decide (gt l k=y)) l 0<0:=fun h=>idx_neg.1 h hm
 have hs:=QbB (fun y=>decide (gt l k=y)) l 0 (by omega)
 obtain⟨j,e,hj,he,_⟩:=hs
 rw[Int.zero_add] at e
 rw[e]
 have he:gt l k=gt l j:=of_decide_eq_true he
 exact congrArg _ (Zi hn hj hk he.symm)
end
section
theorem Qvi{x:Int}{n:Nat}(h:0≤x∧x<n):∃k:Nat,k<n∧x=k:=⟨x.toNat,by omega,by omega⟩
theorem Qvj(n:Nat)(gone:List Int):(Yu n gone).Pairwise (·<·):=JI _ _
theorem rest_mem{n j:Nat}{gone:List Int}:(j:Int)∈Yu n gone↔j<n∧¬(j:Int)∈gone:=by
 rw[Yu,sel_memN];simp
section
variable {im kn:List Int} {n:Nat} (hid:idL im kn=[]) (hb:∀i:Nat,i<im.length→0≤gt im i∧gt im i<n) (hk:AscL kn im.length)
include hid hb hk
theorem QlV{i:Nat}(hi:(i:Int)∈kn):gt im i∈Yu n (Xg im kn):=by
 have h1:=hk.b _ hi
 obtain⟨j,h2,h3⟩:=Qvi (hb i (by omega))
 rw[h3]
 refine rest_mem.2 ⟨h2,fun hg=>?_⟩
 obtain⟨a,a1,a2,a3⟩:=goneL_mem.1 hg
 rcases Nat.lt_trichotomy a i with c|c|c
 ·exact a2 (QdH hid c (by omega) (by rw[a3,h3])).1
 ·subst c;exact a2 hi
 ·exact a2 (QdH hid c a1 (by rw[a3,h3])).2
end
def cxP(x:Cx):Mo:=⟨Yu x.g.n.length (Xg x.m.n x.k.n),Yu x.g.e.length (Xg x.m.e x.k.e)⟩
theorem Qvk{x:Cx}(he:cxE x=0)(z1:idL x.m.n x.k.n=[])(z2:idL x.m.e x.k.e=[])(z3:Y2 x=[]):PK x.g (cxP x):=by
 obtain⟨hm,hk⟩:=QbA he
 have bn:∀i:Nat,i<x.m.n.length→0≤gt x.m.n i∧gt x.m.n i<x.g.n.length:=fun i hi=>(hm.nd i (by rw[←hm.ln];exact hi)).1
 have be:∀i:Nat,i<x.m.e.length→0≤gt x.m.e i∧gt x.m.e i<x.g.e.length:=fun i hi=>(hm.ed i (by rw[←hm.le];exact hi)).1
 have kn:AscL x.k.n x.m.n.length:=by rw[hm.ln];exact hk.n
 refine⟨hm.vb,QdC _ _,QdC _ _,fun e hx=>?_⟩
 obtain⟨j,hj,_,rfl⟩:=sel_mem.1 hx
 have hng:=(rest_mem.1 hx).2
 obtain⟨_,f1,f2⟩:=Zj hm.vb (i:=(j:Int)) (by omega)
 by_cases c:(j:Int)∈x.m.e
 ·obtain⟨i,i1,i2⟩:=Xk c
  have hik:(i:Int)∈x.k.e:=Decidable.byContradiction fun hn=>hng (goneL_mem.2 ⟨i,i1,hn,i2⟩)
  obtain⟨_,_,q1,q2⟩:=hm.ed i (by rw[←hm.le];exact i1)
  rw[i2] at q1 q2
  have hd:=hk.d _ hik
  obtain⟨a,a1,a2⟩:=gtI (hk.n.b _ hd.1)
  obtain⟨b,b1,b2⟩:=gtI (hk.n.b _ hd.2)
  have r1:=QlV z1 bn kn (i:=a) (by rw[←a2];exact hd.1)
  have r2:=QlV z1 bn kn (i:=b) (by rw[←b2];exact hd.2)
  rw[←q1,←q2,a2,b2]
  exact⟨r1,r2⟩
 ·obtain⟨a,a1,a2⟩:=gtI f1
  obtain⟨b,b1,b2⟩:=gtI f2
  have hno:¬((gt x.g.e j).f∈Xg x.m.n x.k.n∨(gt x.g.e j).o∈Xg x.m.n x.k.n):=fun h=>by
   have:(j:Int)∈Y2 x:=danL_mem.2 ⟨j,hj,danE_iff.2 ⟨c,h⟩,rfl⟩
   rw[z3] at this
   simp at this
  rw[a2,b2] at hno ⊢
  exact⟨rest_mem.2 ⟨a1,fun h=>hno (.inl h)⟩,rest_mem.2 ⟨b1,fun h=>hno (.inr h)⟩⟩
section
variable {x:Cx} (he:cxE x=0) (z1:idL x.m.n x.k.n=[]) (z2:idL x.m.e x.k.e=[]) (z3:Y2 x=[])
include he z1 z2 z3
end
end
section
theorem Emb.mk'{a b:G}{m:Mo}(h:MOk a b m)(h1:m.n.Nodup)(h2:m.e.Nodup):Emb a b m:=
 ⟨h,fun i k hi hk e=>Zi h1 (by rw[h.ln];exact hi) (by rw[h.ln];exact hk) e,fun i k hi hk e=>Zi h2 (by rw[h.le];exact hi) (by rw[h.le];exact hk) e⟩
theorem Qvl{l:List Int}(h:l.Pairwise (·<·)):l.Nodup:=h.imp fun h e=>by omega
end
def ZS(p into keep:List Int):List Int:=p.map fun x=>gt keep (idx (fun y=>decide (x=y)) into 0)
section
theorem QlW{l:List Int}(h:l.Nodup):(srt l).Pairwise (·<·):=by
 have h1:=Qbu l
 have h2:(srt l).Nodup:=(ZO l).nodup_iff.2 h
 rw[List.pairwise_iff_getElem] at h1 ⊢
 rw[List.nodup_iff_pairwise_ne,List.pairwise_iff_getElem] at h2
 intro i j hi hj hij
 have:=h1 i j hi hj hij
 have:=h2 i j hi hj hij
 omega
theorem srt_mem{l:List Int}{x:Int}:x∈srt l↔x∈l:=(ZO l).mem_iff
end
structure Sd(n rn:Nat)(im kn into:List Int):Prop where
 bd:∀i:Nat,i<im.length→0≤gt im (i:Int)∧gt im (i:Int)<n
 ka:AscL kn im.length
 il:into.length=kn.length
 ib:∀x∈into,0≤x∧x<rn
 nd:into.Nodup
 id:idL im kn=[]
def Xc(n:Nat)(im kn:List Int):List Int:=Yu n (Xg im kn)
def cmL(n rn:Nat)(im kn into:List Int):List Int:=Y3 rn kn into im (Xy n (Xc n im kn)) (Xc n im kn).length
section
theorem Qcw(n:Nat)(d:List Int):(Xy n d).length=n:=by simp [Xy]
theorem Qcx{n:Nat}{d:List Int}{i:Nat}(h:i<n):gt (Xy n d) (i:Int)=if (i:Int)∈d then (Xq d i:Int) else -1:=by
 rw[QV (by rw[Qcw];exact h)]
 simp [Xy]
theorem QaU(c:Nat)(keep into mt trk:List Int)(n:Nat):(Y3 c keep into mt trk n).length=c:=by simp [Y3]
theorem QlX{c:Nat}{keep into mt trk:List Int}{n i:Nat}(h:i<c):gt (Y3 c keep into mt trk n) (i:Int)=QbC keep into mt trk n i:=by
 rw[QV (by rw[QaU];exact h)]
 simp [Y3]
theorem cr_mem{n:Nat}{into:List Int}{x:Int}:x∈crL n into↔(0≤x∧x<n)∧¬x∈into:=by
 unfold crL
 rw[sel_mem]
 constructor
 ·rintro⟨k,h1,h2,rfl⟩
  exact⟨by omega,by simpa using h2⟩
 ·rintro⟨h1,h2⟩
  refine⟨x.toNat,by omega,?_,by omega⟩
  have:((x.toNat:Nat):Int)=x:=by omega
  rw[this]
  simpa using h2
theorem Qaq(n:Nat)(into:List Int):(crL n into).Pairwise (·<·):=JI _ _
theorem Qcy{n i:Nat}(hi:i≤n)(l:List Int):Xq (crL n l) (i:Int)=(crL i l).length:=by
 unfold Xq
 refine congrArg List.length (QaL ((Qaq n l).filter _) (Qaq i l) fun x=>?_)
 rw[List.mem_filter,cr_mem,cr_mem,Ql]
 constructor
 ·rintro⟨⟨h1,h2⟩,h3⟩;exact⟨by omega,h2⟩
 ·rintro⟨h1,h2⟩;exact⟨⟨by omega,h2⟩,by omega⟩
theorem QgC(n:Nat)(into:List Int):(crL n into).length≤n:=YM _ _
theorem Qd8{n:Nat}{a b:List Int}(h:∀x,x∈a↔x∈b):crL n a=crL n b:=QaL (Qaq _ _) (Qaq _ _) fun x=>by rw[cr_mem,cr_mem,h]
theorem Z8{l:List Int}(h:l.Pairwise (·<·)){x:Int}(hx:x∈l):Xq l x<l.length∧gt l (Xq l x:Int)=x:=by
 obtain⟨i,h1,h2,h3⟩:=Qj7 h hx
 rw[h2]
 exact⟨h1,h3⟩
theorem QaV(n:Nat)(im kn:List Int):(Xc n im kn).Pairwise (·<·):=Qvj _ _
theorem rst_mem{n:Nat}{im kn:List Int}{x:Int}:x∈Xc n im kn↔(0≤x∧x<n)∧¬x∈Xg im kn:=cr_mem (n:=n)
theorem Qvm(n:Nat)(im kn:List Int):(Xc n im kn).length≤n:=YM _ _
end
section
variable {n rn:Nat} {im kn into:List Int}
theorem Sd.gone{x:Int}:x∈Xg im kn↔∃i:Nat,i<im.length∧¬(i:Int)∈kn∧gt im (i:Int)=x:=goneL_mem
theorem Sd.own(h:Sd n rn im kn into){i k:Nat}(hi:i<im.length)(hk:k<im.length)(hn:¬(i:Int)∈kn)(e:gt im (i:Int)=gt im (k:Int)):i=k:=by
 rcases Nat.lt_trichotomy i k with c|c|c
 ·exact absurd (QdH h.id c hk e).1 hn
 ·exact c
 ·exact absurd (QdH h.id c hi e.symm).2 hn
theorem Sd.kept(h:Sd n rn im kn into){i:Nat}(hi:i<im.length):gt im (i:Int)∈Xc n im kn↔(i:Int)∈kn:=by
 rw[rst_mem]
 constructor
 ·rintro⟨_,h2⟩
  exact Classical.byContradiction fun hc=>h2 (Sd.gone.2 ⟨i,hi,hc,rfl⟩)
 ·intro hk
  refine⟨h.bd i hi,fun hg=>?_⟩
  obtain⟨j,hj,hjk,e⟩:=Sd.gone.1 hg
  have:=h.own hj hi hjk e
  subst this
  exact hjk hk
theorem Sd.knat(h:Sd n rn im kn into){a:Nat}(ha:a<kn.length):∃i:Nat,i<im.length∧gt kn (a:Int)=i:=by
 obtain⟨h1,h2⟩:=h.ka.b _ (gt_mem (l:=kn) (j:=(a:Int)) (by omega) (by omega))
 exact⟨(gt kn (a:Int)).toNat,by omega,by omega⟩
theorem Sd.intoat(h:Sd n rn im kn into){a:Nat}(ha:a<into.length):∃i:Nat,i<rn∧gt into (a:Int)=i:=by
 obtain⟨h1,h2⟩:=h.ib _ (gt_mem (l:=into) (j:=(a:Int)) (by omega) (by omega))
 exact⟨(gt into (a:Int)).toNat,by omega,by omega⟩
theorem Sd.cm_in(h:Sd n rn im kn into){a:Nat}(ha:a<into.length):gt (cmL n rn im kn into) (gt into (a:Int))=(Xq (Xc n im kn) (gt im (gt kn (a:Int))):Int)∧gt im (gt kn (a:Int))∈Xc n im kn:=by
 obtain⟨i,hi,ei⟩:=h.intoat ha
 have hal:a<kn.length:=by rw[←h.il];exact ha
 obtain⟨k,hk,ek⟩:=h.knat hal
 have hin:(i:Int)∈into:=by rw[←ei];exact gt_mem (by omega) (by omega)
 have hkk:gt im (gt kn (a:Int))∈Xc n im kn:=by
  rw[ek]
  exact (h.kept hk).2 (by rw[←ek];exact gt_mem (by omega) (by omega))
 refine⟨?_,hkk⟩
 rw[ei]
 unfold cmL
 rw[QlX hi]
 unfold QbC
 rw[if_pos hin]
 have e1:idx (fun y=>decide ((i:Int)=y)) into 0=a:=by
  rw[←ei]
  exact QlU h.nd ha
 rw[e1]
 obtain⟨⟨h0,h1⟩,_⟩:=rst_mem.1 hkk
 generalize gt im (gt kn (a:Int))=x at*
 obtain⟨j,rfl⟩:∃j:Nat,x=j:=⟨x.toNat,by omega⟩
 rw[Qcx (by omega),if_pos hkk]
theorem Sd.cm_cr(h:Sd n rn im kn into){i:Nat}(hi:i<rn)(hn:¬(i:Int)∈into):gt (cmL n rn im kn into) (i:Int)=((Xc n im kn).length+Xq (crL rn into) i:Nat)∧Xq (crL rn into) i<(crL rn into).length∧gt (crL rn into) (Xq (crL rn into) i:Int)=i:=by
 have hm:(i:Int)∈crL rn into:=cr_mem.2 ⟨by omega,hn⟩
 obtain⟨h1,h2⟩:=Z8 (Qaq _ _) hm
 refine⟨?_,h1,h2⟩
 unfold cmL
 rw[QlX hi]
 unfold QbC
 rw[if_neg hn,Qcy (Qg i),Qcy (Nat.le_of_lt hi)]
 omega
theorem Sd.cases(h:Sd n rn im kn into){i:Nat}(hi:i<rn):(∃a:Nat,a<into.length∧gt into (a:Int)=i)∨¬(i:Int)∈into:=by
 by_cases c:(i:Int)∈into
 ·obtain⟨a,ha,e⟩:=Xk c
  exact .inl ⟨a,ha,e⟩
 ·exact .inr c
theorem Sd.cm_bd(h:Sd n rn im kn into){i:Nat}(hi:i<rn):0≤gt (cmL n rn im kn into) (i:Int)∧gt (cmL n rn im kn into) (i:Int)<((Xc n im kn).length+(crL rn into).length:Nat)∧((i:Int)∈into↔gt (cmL n rn im kn into) (i:Int)<(Xc n im kn).length):=by
 rcases h.cases hi with⟨a,ha,e⟩|hc
 ·obtain⟨h1,h2⟩:=h.cm_in ha
  have:=(Z8 (QaV _ _ _) h2).1
  have hin:(i:Int)∈into:=by rw[←e];exact gt_mem (by omega) (by omega)
  rw[e] at h1
  exact⟨by omega,by omega,by simp only[hin,true_iff];omega⟩
 ·obtain⟨h1,h2,_⟩:=h.cm_cr hi hc
  exact⟨by omega,by omega,by simp only[hc,false_iff];omega⟩
def ukL(into:List Int):List Int:=srt into
def uiL(kn into:List Int):List Int:=ZS (srt into) into kn
theorem Sd.uk(h:Sd n rn im kn into):AscL (ukL into) rn:=⟨QlW h.nd,fun x hx=>h.ib x (srt_mem.1 hx)⟩
theorem Z9(kn into:List Int):(uiL kn into).length=into.length:=by simp [uiL,ZS,X6]
theorem Sd.ui_at(h:Sd n rn im kn into){j:Nat}(hj:j<into.length):∃a:Nat,a<into.length∧gt (ukL into) (j:Int)=gt into (a:Int)∧gt (uiL kn into) (j:Int)=gt kn (a:Int):=by
 have hm:gt (srt into) (j:Int)∈into:=srt_mem.1 (gt_mem (by omega) (by rw[X6];omega))
 obtain⟨a,ha,e⟩:=Xk hm
 refine⟨a,ha,e.symm,?_⟩
 unfold uiL ZS
 rw[ZB (by rw[X6];exact hj),←e,QlU h.nd ha]
theorem Sd.ui_of(h:Sd n rn im kn into){a:Nat}(ha:a<into.length):∃j:Nat,j<into.length∧gt (ukL into) (j:Int)=gt into (a:Int)∧gt (uiL kn into) (j:Int)=gt kn (a:Int):=by
 have hm:gt into (a:Int)∈srt into:=srt_mem.2 (gt_mem (by omega) (by omega))
 obtain⟨j,hj,e⟩:=Xk hm
 rw[X6] at hj
 obtain⟨b,hb,e1,e2⟩:=h.ui_at hj
 have:gt into (a:Int)=gt into (b:Int):=by rw[←e1];exact e.symm
 have:=Zi h.nd ha hb this
 subst this
 exact⟨j,hj,e,e2⟩
theorem Sd.ui_mem(h:Sd n rn im kn into){x:Int}:x∈uiL kn into↔x∈kn:=by
 have hl:=h.il
 constructor
 ·intro hx
  obtain⟨j,hj,e⟩:=Xk hx
  rw[Z9] at hj
  obtain⟨a,ha,_,e2⟩:=h.ui_at hj
  rw[←e,e2]
  exact gt_mem (by omega) (by omega)
 ·intro hx
  obtain⟨a,ha,e⟩:=Xk hx
  obtain⟨j,hj,_,e2⟩:=h.ui_of (a:=a) (by omega)
  rw[←e,←e2]
  exact gt_mem (by omega) (by rw[Z9];omega)
theorem Qd9{l:List Int}(h:∀i k:Nat,i<l.length→k<l.length→gt l (i:Int)=gt l (k:Int)→i=k):l.Nodup:=by
 rw[List.nodup_iff_pairwise_ne,List.pairwise_iff_getElem]
 intro i j hi hj hij e
 have:=h i j hi hj (by rw[QV hi,QV hj];exact e)
 omega
theorem Sd.ui_nd(h:Sd n rn im kn into):(uiL kn into).Nodup:=by
 refine Qd9 fun i k hi hk e=>?_
 rw[Z9] at hi hk
 obtain⟨a,ha,a1,a2⟩:=h.ui_at hi
 obtain⟨b,hb,b1,b2⟩:=h.ui_at hk
 rw[a2,b2] at e
 have hl:=h.il
 have:=Qch h.ka.p (by omega) (by omega) e
 subst this
 have hu:=h.uk
 exact Qch hu.p (by rw[ukL,X6];exact hi) (by rw[ukL,X6];exact hk) (by rw[a1,b1])
theorem QlY(n:Nat):(QY 0 n).Pairwise (·<·):=by
 unfold QY
 rw[List.pairwise_map]
 exact (List.pairwise_lt_range (n:=n)).imp fun h=>by omega
theorem Sd.uid(h:Sd n rn im kn into):idL (cmL n rn im kn into) (ukL into)=[]:=by
 refine List.eq_nil_iff_forall_not_mem.2 fun p hp=>?_
 obtain⟨i,k,hik,hk,hp2,_⟩:=idL_mem.1 hp
 have hl:(cmL n rn im kn into).length=rn:=QaU _ _ _ _ _ _
 rw[hl] at hk
 simp only[idP,Qk,QG,Ql,Bool.not_eq_true',QL] at hp2
 obtain⟨e,hn⟩:=hp2
 have b1:=h.cm_bd (i:=i) (by omega)
 have b2:=h.cm_bd (i:=k) (by omega)
 have hm:∀x:Int,x∈ukL into↔x∈into:=fun x=>srt_mem
 rw[hm,hm] at hn
 have h1:¬(i:Int)∈into:=by
  rcases hn with hn|hn
  ·exact hn
  ·rw[b1.2.2,e,←b2.2.2];exact hn
 have h2:¬(k:Int)∈into:=by rw[b2.2.2,←e,←b1.2.2];exact h1
 obtain⟨c1,c2,c3⟩:=h.cm_cr (i:=i) (by omega) h1
 obtain⟨d1,d2,d3⟩:=h.cm_cr (i:=k) (by omega) h2
 have:Xq (crL rn into) i=Xq (crL rn into) k:=by omega
 rw[this,d3] at c3
 omega
theorem Sd.ugone(h:Sd n rn im kn into){x:Int}:x∈Xg (cmL n rn im kn into) (ukL into)↔((Xc n im kn).length:Int)≤x∧x<((Xc n im kn).length+(crL rn into).length:Nat):=by
 have hl:(cmL n rn im kn into).length=rn:=QaU _ _ _ _ _ _
 have hm:∀x:Int,x∈ukL into↔x∈into:=fun x=>srt_mem
 rw[goneL_mem]
 constructor
 ·rintro⟨i,hi,hn,rfl⟩
  rw[hl] at hi
  rw[hm] at hn
  obtain⟨c1,c2,c3⟩:=h.cm_cr hi hn
  omega
 ·rintro⟨h1,h2⟩
  obtain⟨j,hj,rfl⟩:∃j:Nat,j<(crL rn into).length∧x=((Xc n im kn).length+j:Nat):=⟨(x-(Xc n im kn).length).toNat,by omega,by omega⟩
  have hc:=gt_mem (l:=crL rn into) (j:=(j:Int)) (by omega) (by omega)
  obtain⟨⟨k1,k2⟩,k3⟩:=cr_mem.1 hc
  obtain⟨i,ei⟩:∃i:Nat,gt (crL rn into) (j:Int)=i:=⟨(gt (crL rn into) (j:Int)).toNat,by omega⟩
  rw[ei] at k1 k2 k3
  refine⟨i,by omega,by rw[hm];exact k3,?_⟩
  obtain⟨c1,c2,c3⟩:=h.cm_cr (i:=i) (by omega) k3
  have:=Qch (Qaq rn into) c2 hj (by rw[c3,ei])
  rw[c1,this]
theorem Sd.urest(h:Sd n rn im kn into):Xc ((Xc n im kn).length+(crL rn into).length) (cmL n rn im kn into) (ukL into)=QY 0 (Xc n im kn).length:=by
 refine QaL (QaV _ _ _) ?_ fun x=>?_
 ·exact QlY _
 ·rw[rst_mem,h.ugone,nums_mem]
  omega
theorem QlZ{m i:Nat}(h:i<m):Xq (QY 0 m) i=i:=by
 have h1:(QY 0 m).length=m:=by simp [QY]
 have:=QaP (l:=QY 0 m) (QlY _) (i:=i) (by rw[h1];exact h)
 rwa [YO h] at this
theorem Sd.utrk(h:Sd n rn im kn into){i:Nat}(hi:i<(Xc n im kn).length+(crL rn into).length):gt (Xy ((Xc n im kn).length+(crL rn into).length) (QY 0 (Xc n im kn).length)) (i:Int)=if i<(Xc n im kn).length then (i:Int) else -1:=by
 rw[Qcx hi]
 by_cases c:i<(Xc n im kn).length
 ·rw[if_pos (nums_mem.2 (by omega)),if_pos c,QlZ c]
 ·rw[if_neg (fun e=>by have:=nums_mem.1 e;omega),if_neg c]
theorem Sd.und(h:Sd n rn im kn into):Sd ((Xc n im kn).length+(crL rn into).length) im.length (cmL n rn im kn into) (ukL into) (uiL kn into) where
 bd:=fun i hi=>by
  have hl:(cmL n rn im kn into).length=rn:=QaU _ _ _ _ _ _
  rw[hl] at hi
  have:=h.cm_bd hi
  exact⟨this.1,this.2.1⟩
 ka:=by
  have hl:(cmL n rn im kn into).length=rn:=QaU _ _ _ _ _ _
  rw[hl]
  exact h.uk
 il:=by rw[Z9,ukL,X6]
 ib:=fun x hx=>h.ka.b x (h.ui_mem.1 hx)
 nd:=h.ui_nd
 id:=h.uid
def ucL(n rn:Nat)(im kn into:List Int):List Int:=cmL ((Xc n im kn).length+(crL rn into).length) im.length (cmL n rn im kn into) (ukL into) (uiL kn into)
theorem Sd.uc_in(h:Sd n rn im kn into){i:Nat}(hi:i<im.length)(hk:(i:Int)∈kn):gt (ucL n rn im kn into) (i:Int)=(Xq (Xc n im kn) (gt im (i:Int)):Int)∧Xq (Xc n im kn) (gt im (i:Int))<(Xc n im kn).length∧gt (Xc n im kn) (Xq (Xc n im kn) (gt im (i:Int)):Int)=gt im (i:Int):=by
 obtain⟨a,ha,e⟩:=Xk hk
 have hl:=h.il
 obtain⟨j,hj,j1,j2⟩:=h.ui_of (a:=a) (by omega)
 have hu:=h.und
 obtain⟨c1,c2⟩:=hu.cm_in (a:=j) (by rw[Z9];exact hj)
 rw[j2,e] at c1
 rw[j1] at c1 c2
 obtain⟨d1,d2⟩:=h.cm_in (a:=a) (by omega)
 rw[d1] at c1 c2
 rw[h.urest] at c1 c2
 rw[e] at c1 c2 d2
 obtain⟨f1,f2⟩:=Z8 (QaV _ _ _) d2
 rw[QlZ f1] at c1
 exact⟨c1,f1,f2⟩
theorem Sd.uc_cr(h:Sd n rn im kn into){i:Nat}(hi:i<im.length)(hk:¬(i:Int)∈kn):gt (ucL n rn im kn into) (i:Int)=((Xc n im kn).length+Xq (crL im.length kn) i:Nat)∧Xq (crL im.length kn) i<(crL im.length kn).length∧gt (crL im.length kn) (Xq (crL im.length kn) i:Int)=i:=by
 have hu:=h.und
 have e:crL im.length (uiL kn into)=crL im.length kn:=Qd8 fun x=>h.ui_mem
 obtain⟨c1,c2,c3⟩:=hu.cm_cr hi (by rw[h.ui_mem];exact hk)
 rw[e] at c1 c2 c3
 rw[h.urest] at c1
 have hl:(QY 0 (Xc n im kn).length).length=(Xc n im kn).length:=by simp [QY]
 rw[hl] at c1
 exact⟨c1,c2,c3⟩
def bkL(n:Nat)(im kn:List Int):List Int:=Xc n im kn++thr (crL im.length kn) im
theorem Qcz(n:Nat)(im kn:List Int):(bkL n im kn).length=(Xc n im kn).length+(crL im.length kn).length:=by simp [bkL,X4]
theorem QbF{n:Nat}{im kn:List Int}{j:Nat}(h:j<(Xc n im kn).length):gt (bkL n im kn) (j:Int)=gt (Xc n im kn) (j:Int):=by
 rw[QV (by rw[Qcz];omega),QV h]
 simp only[bkL]
 rw[List.getElem_append_left h]
theorem QcA{n:Nat}{im kn:List Int}{j:Nat}(h:j<(crL im.length kn).length):gt (bkL n im kn) ((Xc n im kn).length+j:Nat)=gt im (gt (crL im.length kn) (j:Int)):=by
 rw[QV (by rw[Qcz];omega)]
 simp only[bkL]
 rw[List.getElem_append_right (by omega)]
 simp only[Nat.add_sub_cancel_left]
 have:(thr (crL im.length kn) im)[j]'(by rw[X4];exact h)=gt (thr (crL im.length kn) im) (j:Int):=(QV (by rw[X4];exact h)).symm
 rw[this,X5 h]
theorem Sd.bk_uc(h:Sd n rn im kn into){i:Nat}(hi:i<im.length):gt (bkL n im kn) (gt (ucL n rn im kn into) (i:Int))=gt im (i:Int):=by
 by_cases hk:(i:Int)∈kn
 ·obtain⟨c1,c2,c3⟩:=h.uc_in hi hk
  rw[c1,QbF c2,c3]
 ·obtain⟨c1,c2,c3⟩:=h.uc_cr hi hk
  rw[c1,QcA c2,c3]
theorem Sd.bk_mem(h:Sd n rn im kn into){x:Int}:x∈bkL n im kn↔0≤x∧x<n:=by
 constructor
 ·intro hx
  rcases Qd.1 hx with hx|hx
  ·exact (rst_mem.1 hx).1
  ·obtain⟨j,hj,e⟩:=Xk hx
   rw[X4] at hj
   rw[X5 hj] at e
   replace e:=e.symm
   obtain⟨⟨k1,k2⟩,_⟩:=cr_mem.1 (gt_mem (l:=crL im.length kn) (j:=(j:Int)) (by omega) (by omega))
   have:=h.bd (gt (crL im.length kn) (j:Int)).toNat (by omega)
   rw[Int.toNat_of_nonneg k1] at this
   rw[e]
   exact this
 ·intro hx
  by_cases hg:x∈Xg im kn
  ·obtain⟨i,hi,hk,e⟩:=Sd.gone.1 hg
   refine Qd.2 (.inr ?_)
   have hm:(i:Int)∈crL im.length kn:=cr_mem.2 ⟨by omega,hk⟩
   rw[←e]
   exact Qv.2 ⟨i,hm,rfl⟩
  ·exact Qd.2 (.inl (rst_mem.2 ⟨hx,hg⟩))
theorem Sd.bk_nd(h:Sd n rn im kn into):(bkL n im kn).Nodup:=by
 unfold bkL
 rw[Qy]
 refine⟨Qvl (QaV _ _ _),?_,?_⟩
 ·refine Qd9 fun i k hi hk e=>?_
  rw[X4] at hi hk
  rw[X5 hi,X5 hk] at e
  obtain⟨⟨a1,a2⟩,a3⟩:=cr_mem.1 (gt_mem (l:=crL im.length kn) (j:=(i:Int)) (by omega) (by omega))
  obtain⟨⟨b1,b2⟩,b3⟩:=cr_mem.1 (gt_mem (l:=crL im.length kn) (j:=(k:Int)) (by omega) (by omega))
  obtain⟨p,ep⟩:∃p:Nat,gt (crL im.length kn) (i:Int)=p:=⟨_,(Int.toNat_of_nonneg a1).symm⟩
  obtain⟨q,eq⟩:∃q:Nat,gt (crL im.length kn) (k:Int)=q:=⟨_,(Int.toNat_of_nonneg b1).symm⟩
  rw[ep,eq] at e
  rw[ep] at a2 a3
  rw[eq] at b2
  have:=h.own (by omega) (by omega) a3 e
  exact Qch (Qaq _ _) hi hk (by rw[ep,eq,this])
 ·intro x hx y hy e
  subst e
  obtain⟨j,hj,e⟩:=Xk hy
  rw[X4] at hj
  rw[X5 hj] at e
  replace e:=e.symm
  obtain⟨⟨a1,a2⟩,a3⟩:=cr_mem.1 (gt_mem (l:=crL im.length kn) (j:=(j:Int)) (by omega) (by omega))
  obtain⟨p,ep⟩:∃p:Nat,gt (crL im.length kn) (j:Int)=p:=⟨_,(Int.toNat_of_nonneg a1).symm⟩
  rw[ep] at e a2 a3
  rw[e] at hx
  exact a3 ((h.kept (by omega)).1 hx)
theorem Sd.bk_n(h:Sd n rn im kn into):(Xc n im kn).length+(crL im.length kn).length=n:=by
 rw[←Qcz]
 have h1:(bkL n im kn).Perm (QY 0 n):=(List.perm_ext_iff_of_nodup h.bk_nd (Qdt n)).2 fun x=>by rw[h.bk_mem,nums_mem]
 rw[h1.length_eq]
 simp [QY]
end
theorem Qvn{x:Cx}{d:Mo}(h:cxR x=(d,0)):cxE x=0∧idL x.m.n x.k.n=[]∧idL x.m.e x.k.e=[]∧Y2 x=[]∧d=⟨Xc x.g.n.length x.m.n x.k.n,Xc x.g.e.length x.m.e x.k.e⟩:=by
 unfold cxR at h
 by_cases h1:cxE x=0
 ·rw[if_neg (by simp [h1])] at h
  by_cases h2:0<(idL x.m.n x.k.n).length+(idL x.m.e x.k.e).length
  ·rw[if_pos h2] at h;simp at h
  ·rw[if_neg h2] at h
   by_cases h3:0<(Y2 x).length
   ·rw[if_pos h3] at h;simp at h
   ·rw[if_neg h3] at h
    exact⟨h1,List.length_eq_zero_iff.1 (by omega),List.length_eq_zero_iff.1 (by omega),List.length_eq_zero_iff.1 (by omega),(Prod.mk.inj h).1.symm⟩
 ·rw[if_pos h1] at h
  exact absurd (Prod.mk.inj h).2 h1
structure StPr(t:Ty)(r:Ru)(h:Hs)(m:Mt)(d:Mo):Prop where
 ty:TyOk t
 ru:RuOk t r
 hs:HsOk t h
 sm:SmOk t r.l.g h.g m.m
 jn:r.inj=true→m.m.n.Nodup∧m.m.e.Nodup
 so:XC r.l h m.m=(m.v,0)
 cx:cxR (stX r h m.m)=(d,0)
 c:ZQ t h r.inj m.m r.c
theorem StOk.pr{t:Ty}{r:Ru}{h:Hs}{m:Mt}{d:Mo}(s:StOk t r h m d):StPr t r h m d:=⟨s.ty,s.ru,s.hs,s.sm,s.jn,s.so,s.cx,s.c⟩
section
variable {t:Ty} {r:Ru} {h:Hs} {m:Mt} {d:Mo}
theorem StPr.cxo(s:StPr t r h m d):idL m.m.n r.k.n=[]∧idL m.m.e r.k.e=[]∧d=⟨Xc h.g.n.length m.m.n r.k.n,Xc h.g.e.length m.m.e r.k.e⟩∧PK h.g d:=by
 obtain⟨h1,h2,h3,h4,h5⟩:=Qvn s.cx
 have hp:=Qvk h1 h2 h3 h4
 have e:cxP (stX r h m.m)=d:=by rw[h5];rfl
 rw[e] at hp
 exact⟨h2,h3,h5,hp⟩
theorem StPr.sn(s:StPr t r h m d):Sd h.g.n.length r.r.g.n.length m.m.n r.k.n r.i.n where
 bd:=fun i hi=>(s.sm.nd i (by rw[←s.sm.ln];exact hi)).1
 ka:=by rw[s.sm.ln];exact s.ru.k.n
 il:=by rw[s.ru.i.ok.ln];simp only[ptG,X4]
 ib:=fun x hx=>by
  obtain⟨i,hi,rfl⟩:=Xk hx
  exact (s.ru.i.ok.nd i (by rw[←s.ru.i.ok.ln];exact hi)).1
 nd:=Qd9 fun i k hi hk e=>s.ru.i.jn i k (by rw[←s.ru.i.ok.ln];exact hi) (by rw[←s.ru.i.ok.ln];exact hk) e
 id:=s.cxo.1
theorem StPr.se(s:StPr t r h m d):Sd h.g.e.length r.r.g.e.length m.m.e r.k.e r.i.e where
 bd:=fun i hi=>(s.sm.ed i (by rw[←s.sm.le];exact hi)).1
 ka:=by rw[s.sm.le];exact s.ru.k.e
 il:=by rw[s.ru.i.ok.le];simp only[ptG,Qak]
 ib:=fun x hx=>by
  obtain⟨i,hi,rfl⟩:=Xk hx
  exact (s.ru.i.ok.ed i (by rw[←s.ru.i.ok.le];exact hi)).1
 nd:=Qd9 fun i k hi hk e=>s.ru.i.je i k (by rw[←s.ru.i.ok.le];exact hi) (by rw[←s.ru.i.ok.le];exact hk) e
 id:=s.cxo.2.1
theorem StPr.dn(s:StPr t r h m d):d.n=Xc h.g.n.length m.m.n r.k.n:=by rw[s.cxo.2.2.1]
theorem StPr.de(s:StPr t r h m d):d.e=Xc h.g.e.length m.m.e r.k.e:=by rw[s.cxo.2.2.1]
theorem StPr.pk(s:StPr t r h m d):PK h.g d:=s.cxo.2.2.2
theorem StPr.cn(s:StPr t r h m d):(stC r h m.m d).n=cmL h.g.n.length r.r.g.n.length m.m.n r.k.n r.i.n:=by
 simp only[stC,stT,s.dn];rfl
theorem StPr.ce(s:StPr t r h m d):(stC r h m.m d).e=cmL h.g.e.length r.r.g.e.length m.m.e r.k.e r.i.e:=by
 simp only[stC,stT,s.de];rfl
theorem YC(r:Ru)(h:Hs)(d:Mo):(stN r h d).length=d.n.length+(crL r.r.g.n.length r.i.n).length:=by simp [stN,thr]
theorem JN(r:Ru)(h:Hs)(m d:Mo):(Xr r h m d).length=d.e.length+(crL r.r.g.e.length r.i.e).length:=by simp [Xr]
theorem QgD{α:Type}[Inhabited α]{a b:List α}{j:Nat}(h:j<a.length):gt (a++b) (j:Int)=gt a (j:Int):=by
 rw[QV (by simp;omega),QV h,List.getElem_append_left h]
theorem QgE{α:Type}[Inhabited α]{a b:List α}{j:Nat}(h:j<b.length):gt (a++b) ((a.length+j:Nat):Int)=gt b (j:Int):=by
 rw[QV (by simp;omega),QV h,List.getElem_append_right (by omega)]
 congr 1;omega
theorem QaW{j:Nat}(hj:j<d.n.length):gt (stN r h d) (j:Int)=gt h.g.n (gt d.n (j:Int)):=by
 unfold stN
 rw[QgD (by rw[X4];exact hj),X5 hj]
theorem QgF{j:Nat}(hj:j<(crL r.r.g.n.length r.i.n).length):gt (stN r h d) ((d.n.length+j:Nat):Int)=gt r.r.g.n (gt (crL r.r.g.n.length r.i.n) (j:Int)):=by
 have:=QgE (a:=thr d.n h.g.n) (b:=thr (crL r.r.g.n.length r.i.n) r.r.g.n) (j:=j) (by rw[X4];exact hj)
 rw[X4,X5 hj] at this
 exact this
theorem QcB{mm:Mo}{j:Nat}(hj:j<d.e.length):gt (Xr r h mm d) (j:Int)=⟨(gt h.g.e (gt d.e (j:Int))).t,gt (stT h d).n (gt h.g.e (gt d.e (j:Int))).f,gt (stT h d).n (gt h.g.e (gt d.e (j:Int))).o⟩:=by
 unfold Xr
 rw[QgD (by simpa using hj),ZB hj]
theorem QgG{mm:Mo}{j:Nat}(hj:j<(crL r.r.g.e.length r.i.e).length):gt (Xr r h mm d) ((d.e.length+j:Nat):Int)=⟨(gt r.r.g.e (gt (crL r.r.g.e.length r.i.e) (j:Int))).t,gt (stC r h mm d).n (gt r.r.g.e (gt (crL r.r.g.e.length r.i.e) (j:Int))).f,gt (stC r h mm d).n (gt r.r.g.e (gt (crL r.r.g.e.length r.i.e) (j:Int))).o⟩:=by
 have:=QgE (a:=d.e.map fun k=>(⟨(gt h.g.e k).t,gt (stT h d).n (gt h.g.e k).f,gt (stT h d).n (gt h.g.e k).o⟩:E)) (b:=(crL r.r.g.e.length r.i.e).map fun k=>(⟨(gt r.r.g.e k).t,gt (stC r h mm d).n (gt r.r.g.e k).f,gt (stC r h mm d).n (gt r.r.g.e k).o⟩:E)) (j:=j) (by simpa using hj)
 rw[QC,ZB hj] at this
 exact this
theorem Ql0{n:Nat}{l:List Int}(hl:l.Pairwise (·<·))(hb:∀x∈l,0≤x∧x<n){x:Int}(hx:x∈l):gt (Xy n l) x=(Xq l x:Int)∧Xq l x<l.length∧gt l (Xq l x:Int)=x:=by
 obtain⟨h0,h1⟩:=hb x hx
 obtain⟨h2,h3⟩:=Z8 hl hx
 obtain⟨k,rfl⟩:∃k:Nat,x=k:=⟨x.toNat,by omega⟩
 refine⟨?_,h2,h3⟩
 rw[Qcx (by omega),if_pos hx]
theorem StPr.tin(s:StPr t r h m d){x:Int}(hx:x∈d.n):gt (stT h d).n x=(Xq d.n x:Int)∧Xq d.n x<d.n.length∧gt d.n (Xq d.n x:Int)=x:=Ql0 s.pk.n.p s.pk.n.b hx
theorem QcC{a b:Nat}{j:Nat}(h:j<a+b):j<a∨∃k:Nat,k<b∧j=a+k:=by
 by_cases c:j<a
 ·exact .inl c
 ·exact .inr ⟨j-a,by omega,by omega⟩
theorem StPr.cty(s:StPr t r h m d){i:Nat}(hi:i<r.r.g.n.length):(0≤gt (stC r h m.m d).n (i:Int)∧gt (stC r h m.m d).n (i:Int)<(stN r h d).length)∧Xh t (gt (stN r h d) (gt (stC r h m.m d).n (i:Int))) (gt r.r.g.n (i:Int))=true:=by
 have hs:=s.sn
 have hb:=hs.cm_bd hi
 rw[YC,s.dn,s.cn]
 refine⟨⟨hb.1,hb.2.1⟩,?_⟩
 rcases hs.cases hi with⟨a,ha,e⟩|hc
 ·obtain⟨h1,h2⟩:=hs.cm_in ha
  rw[e] at h1
  obtain⟨f1,f2⟩:=Z8 (QaV _ _ _) h2
  rw[h1,QaW (by rw[s.dn];exact f1),s.dn,f2]
  have hk:a<r.k.n.length:=by rw[←hs.il];exact ha
  obtain⟨q,hq,eq⟩:=hs.knat hk
  rw[eq]
  have k1:=(s.sm.nd q (by rw[←s.sm.ln];exact hq)).2
  have k2:=(s.ru.i.ok.nd a (by simp only[ptG,X4];exact hk)).2
  simp only[ptG] at k2
  rw[X5 hk,eq,e] at k2
  rw[k2]
  exact k1
 ·obtain⟨h1,h2,h3⟩:=hs.cm_cr hi hc
  have:=QgF (r:=r) (h:=h) (d:=d) h2
  rw[s.dn] at this
  rw[h1]
  refine Eq.trans (congrArg (fun z=>Xh t z (gt r.r.g.n (i:Int))) this) ?_
  rw[h3]
  exact QjE s.ty (s.ru.rt.n _ (gt_mem (by omega) (by omega)))
abbrev StOk.sn(s:StOk t r h m d):=s.pr.sn
abbrev StOk.se(s:StOk t r h m d):=s.pr.se
abbrev StOk.dn(s:StOk t r h m d):=s.pr.dn
abbrev StOk.de(s:StOk t r h m d):=s.pr.de
abbrev StOk.pk(s:StOk t r h m d):=s.pr.pk
abbrev StOk.cn(s:StOk t r h m d):=s.pr.cn
abbrev StOk.ce(s:StOk t r h m d):=s.pr.ce
abbrev StOk.tin(s:StOk t r h m d){x:Int}(hx:x∈d.n):=s.pr.tin hx
abbrev StOk.cty(s:StOk t r h m d){i:Nat}(hi:i<r.r.g.n.length):=s.pr.cty hi
end
theorem QgH(V:List (List Int))(n k v:Int):(Z6 V n k v).length=V.length:=by simp [Z6]
theorem Ql1{V:List (List Int)}{n k v:Int}{j:Nat}(h0:0≤n)(hj:j<V.length):gt (Z6 V n k v) (j:Int)=if n=(j:Int) then (gt V (j:Int)).set k.toNat v else gt V (j:Int):=by
 unfold Z6
 rw[QaK hj]
 by_cases c:n=(j:Int)
 ·subst c
  rw[if_pos (by omega),if_pos rfl]
 ·rw[if_neg (by omega),if_neg c]
theorem Ql2{V:List (List Int)}{n k v:Int}{j:Nat}(h0:0≤n)(hj:j<V.length):(gt (Z6 V n k v) (j:Int)).length=(gt V (j:Int)).length:=by
 rw[Ql1 h0 hj];split<;>simp
theorem Qvo{V:List (List Int)}{n k v:Int}{j q:Nat}(h0:0≤n)(h1:0≤k)(hj:j<V.length)(hq:q<(gt V (j:Int)).length):gt (gt (Z6 V n k v) (j:Int)) (q:Int)=if n=(j:Int)∧k=(q:Int) then v else gt (gt V (j:Int)) (q:Int):=by
 rw[Ql1 h0 hj]
 by_cases c:n=(j:Int)
 ·rw[if_pos c,QaK hq]
  by_cases e:k=(q:Int)
  ·rw[if_pos (by omega),if_pos ⟨c,e⟩]
  ·rw[if_neg (by omega),if_neg fun h=>e h.2]
 ·rw[if_neg c,if_neg fun h=>c h.1]
section
variable {c vs:List Int}
theorem QaX:∀(l:List Slo)(V:List (List Int)),(Yk c vs l V).length=V.length
 |[],V=>rfl
 |x::l,V=>by rw[Yk,QaX l,QgH]
theorem QaY{j:Nat}:∀(l:List Slo)(V:List (List Int)),(∀x∈l,0≤gt c x.nd)→j<V.length→(gt (Yk c vs l V) (j:Int)).length=(gt V (j:Int)).length
 |[],V,_,_=>rfl
 |x::l,V,h,hj=>by
  rw[Yk,QaY l _ (fun y hy=>h y (Qu _ hy)) (by rw[QgH];exact hj),Ql2 (h x List.mem_cons_self) hj]
theorem Qar{p:Int→Prop}{j q:Nat}:∀(l:List Slo)(V:List (List Int)),(∀x∈l,0≤gt c x.nd∧0≤x.ak)→j<V.length→q<(gt V (j:Int)).length→(∀x∈l,gt c x.nd=(j:Int)→x.ak=(q:Int)→p (Q1 x.vr x.ad vs))→
  ((∃x∈l,gt c x.nd=(j:Int)∧x.ak=(q:Int))∨p (gt (gt V (j:Int)) (q:Int)))→p (gt (gt (Yk c vs l V) (j:Int)) (q:Int))
 |[],V,_,_,_,_,h=>by
  rcases h with⟨x,hx,_⟩|h
  ·cases hx
  ·exact h
 |x::l,V,h0,hj,hq,hp,h=>by
  have hx:=h0 x List.mem_cons_self
  rw[Yk]
  refine Qar l _ (fun y hy=>h0 y (Qu _ hy)) (by rw[QgH];exact hj) (by rw[Ql2 hx.1 hj];exact hq) (fun y hy=>hp y (Qu _ hy)) ?_
  rw[Qvo hx.1 hx.2 hj hq]
  by_cases e:gt c x.nd=(j:Int)∧x.ak=(q:Int)
  ·rw[if_pos e]
   exact .inr (hp x List.mem_cons_self e.1 e.2)
  ·rw[if_neg e]
   rcases h with⟨y,hy,e2⟩|h
   ·rcases Qh.1 hy with rfl|hy
    ·exact absurd e2 e
    ·exact .inl ⟨y,hy,e2⟩
   ·exact .inr h
end
section
variable {t:Ty} {r:Ru} {h:Hs} {m:Mt} {d:Mo}
theorem JO(t:Ty)(r:Ru)(h:Hs)(d:Mo):(Xp t r h d).length=d.n.length+(crL r.r.g.n.length r.i.n).length:=by simp [Xp]
theorem Qea{j:Nat}(hj:j<d.n.length):gt (Xp t r h d) (j:Int)=gt h.v (gt d.n (j:Int)):=by
 unfold Xp
 rw[QgD (by simpa using hj),ZB hj]
theorem Ql3{j:Nat}(hj:j<(crL r.r.g.n.length r.i.n).length):gt (Xp t r h d) ((d.n.length+j:Nat):Int)=Zk t (gt r.r.g.n (gt (crL r.r.g.n.length r.i.n) (j:Int))):=by
 have:=QgE (a:=d.n.map fun k=>gt h.v k) (b:=(crL r.r.g.n.length r.i.n).map fun k=>Zk t (gt r.r.g.n k)) (j:=j) (by simpa using hj)
 rw[QC,ZB hj] at this
 exact this
theorem QgI(t:Ty)(a:Int):(Zk t a).length=(Q0 t a).length:=by simp [Zk]
theorem StPr.lo(s:StPr t r h m d){j:Nat}(hj:j<d.n.length):∃x:Nat,gt d.n (j:Int)=x∧x<h.g.n.length:=by
 obtain⟨h1,h2⟩:=s.pk.n.b _ (gt_mem (l:=d.n) (j:=(j:Int)) (by omega) (by omega))
 exact⟨(gt d.n (j:Int)).toNat,by omega,by omega⟩
theorem QbG{n:Nat}{l:List Int}{j:Nat}(hj:j<(crL n l).length):∃x:Nat,gt (crL n l) (j:Int)=x∧x<n∧¬(x:Int)∈l:=by
 obtain⟨⟨h1,h2⟩,h3⟩:=cr_mem.1 (gt_mem (l:=crL n l) (j:=(j:Int)) (by omega) (by omega))
 refine⟨(gt (crL n l) (j:Int)).toNat,by omega,by omega,?_⟩
 rwa [Int.toNat_of_nonneg h1]
theorem StPr.cas(s:StPr t r h m d){p:Nat→Int→List Int→Prop}(h1:∀j x:Nat,j<d.n.length→gt d.n (j:Int)=x→x<h.g.n.length→p j (gt h.g.n (x:Int)) (gt h.v (x:Int)))
  (h2:∀j x:Nat,j<(crL r.r.g.n.length r.i.n).length→gt (crL r.r.g.n.length r.i.n) (j:Int)=x→x<r.r.g.n.length→¬(x:Int)∈r.i.n→p (d.n.length+j) (gt r.r.g.n (x:Int)) (Zk t (gt r.r.g.n (x:Int)))):
  ∀j:Nat,j<(stN r h d).length→p j (gt (stN r h d) (j:Int)) (gt (Xp t r h d) (j:Int)):=fun j hj=>by
 rw[YC] at hj
 rcases QcC hj with c|⟨k,hk,rfl⟩
 ·obtain⟨x,hx,hx2⟩:=s.lo c
  rw[QaW c,Qea c,hx]
  exact h1 j x c hx hx2
 ·obtain⟨x,hx,hx2,hx3⟩:=QbG hk
  rw[QgF hk,Ql3 hk,hx]
  exact h2 k x hk hx hx2 hx3
theorem StPr.row0(s:StPr t r h m d):∀j:Nat,j<(stN r h d).length→IsT t (gt (stN r h d) (j:Int))∧(gt t.n (gt (stN r h d) (j:Int))).ab=false∧(gt (Xp t r h d) (j:Int)).length=(Q0 t (gt (stN r h d) (j:Int))).length∧
  ∀k:Nat,k<(gt (Xp t r h d) (j:Int)).length→(gt (Q0 t (gt (stN r h d) (j:Int))) (k:Int)).lo≤gt (gt (Xp t r h d) (j:Int)) (k:Int)∧gt (gt (Xp t r h d) (j:Int)) (k:Int)≤(gt (Q0 t (gt (stN r h d) (j:Int))) (k:Int)).hi:=
 s.cas (p:=fun j a v=>IsT t a∧(gt t.n a).ab=false∧v.length=(Q0 t a).length∧∀k:Nat,k<v.length→(gt (Q0 t a) (k:Int)).lo≤gt v (k:Int)∧gt v (k:Int)≤(gt (Q0 t a) (k:Int)).hi)
  (fun j x _ _ hx=>⟨s.hs.ty.n _ (gt_mem (by omega) (by omega)),s.hs.ab x hx,s.hs.vl x hx,s.hs.vb x hx⟩)
  fun j x _ _ hx hn=>by
   have hi:IsT t (gt r.r.g.n (x:Int)):=s.ru.rt.n _ (gt_mem (by omega) (by omega))
   refine⟨hi,s.ru.cn x hx hn,QgI _ _,fun k hk=>?_⟩
   rw[QgI] at hk
   unfold Zk
   rw[ZB hk]
   have:=Qca s.ty hi.2 (gt_mem (l:=Q0 t (gt r.r.g.n (x:Int))) (j:=(k:Int)) (by omega) (by omega))
   exact⟨Int.le_refl _,by omega⟩
theorem StPr.c0(s:StPr t r h m d):∀x∈r.r.s,0≤gt (stC r h m.m d).n x.nd∧0≤x.ak:=fun x hx=>by
 have h1:=s.ru.rs x hx
 obtain⟨i,hi,e⟩:=gtI h1.nd
 rw[e]
 exact⟨(s.cty hi).1.1,h1.ak.1⟩
theorem Qeb(t:Ty)(r:Ru)(h:Hs)(m:Mt)(d:Mo):(stA t r h m d).v.length=(stN r h d).length:=by
 simp only[stA];rw[QaX,JO,YC]
theorem StPr.rl(s:StPr t r h m d){j:Nat}(hj:j<(stN r h d).length):(gt (stA t r h m d).v (j:Int)).length=(gt (Xp t r h d) (j:Int)).length:=
 QaY _ _ (fun x hx=>(s.c0 x hx).1) (by rw[JO,←YC];exact hj)
theorem StPr.edge(s:StPr t r h m d):∀j:Nat,j<(Xr r h m.m d).length→(0≤(gt (Xr r h m.m d) (j:Int)).t∧(gt (Xr r h m.m d) (j:Int)).t<t.e.length)∧(0≤(gt (Xr r h m.m d) (j:Int)).f∧(gt (Xr r h m.m d) (j:Int)).f<(stN r h d).length)∧
  (0≤(gt (Xr r h m.m d) (j:Int)).o∧(gt (Xr r h m.m d) (j:Int)).o<(stN r h d).length)∧(0≤(gt (Xr r h m.m d) (j:Int)).t∧(gt (Xr r h m.m d) (j:Int)).t≤99)∧
  YF t (gt (Xr r h m.m d) (j:Int)).t (gt (stN r h d) (gt (Xr r h m.m d) (j:Int)).f) (gt (stN r h d) (gt (Xr r h m.m d) (j:Int)).o)=true:=fun j hj=>by
 rw[JN] at hj
 rcases QcC hj with c|⟨k,hk,rfl⟩
 ·have hm:=gt_mem (l:=d.e) (j:=(j:Int)) (by omega) (by omega)
  obtain⟨b1,b2⟩:=s.pk.e.b _ hm
  obtain⟨x,hx⟩:∃x:Nat,gt d.e (j:Int)=x:=⟨(gt d.e (j:Int)).toNat,by omega⟩
  obtain⟨e1,e2⟩:=s.pk.d _ hm
  obtain⟨f1,f2,f3⟩:=s.tin e1
  obtain⟨g1,g2,g3⟩:=s.tin e2
  obtain⟨v1,_,_⟩:=Zj s.hs.g ⟨b1,b2⟩
  rw[QcB c]
  simp only
  rw[f1,g1]
  have ht:=s.hs.ty.e _ (gt_mem b1 b2)
  rw[QaW f2,QaW g2,f3,g3,YC]
  refine⟨ht,by omega,by omega,v1,?_⟩
  rw[hx]
  exact s.hs.et x (by omega)
 ·obtain⟨x,hx,hx2,hx3⟩:=QbG hk
  rw[QgG hk,hx]
  simp only
  obtain⟨v1,v2,v3⟩:=Zj s.ru.rg (i:=(x:Int)) (by omega)
  have ht:=s.ru.rt.e _ (gt_mem (l:=r.r.g.e) (j:=(x:Int)) (by omega) (by omega))
  obtain⟨a,ha,ea⟩:=gtI v2
  obtain⟨b,hb,eb⟩:=gtI v3
  have ca:=s.cty ha
  have cb:=s.cty hb
  have hf:=s.ru.ce x hx2 hx3
  rw[ea,eb] at hf ⊢
  refine⟨ht,ca.1,cb.1,v1,?_⟩
  unfold YF at hf ⊢
  rw[Qk] at hf ⊢
  have ia:IsT t (gt (stN r h d) (gt (stC r h m.m d).n (a:Int))):=by
   obtain⟨i,hi,e⟩:=gtI ca.1
   rw[e];exact (s.row0 i hi).1
  have ib:IsT t (gt (stN r h d) (gt (stC r h m.m d).n (b:Int))):=by
   obtain⟨i,hi,e⟩:=gtI cb.1
   rw[e];exact (s.row0 i hi).1
  exact⟨QjF s.ty hf.1 _ ia.2 ca.2,QjF s.ty hf.2 _ ib.2 cb.2⟩
abbrev StOk.row0(s:StOk t r h m d):=s.pr.row0
abbrev StOk.c0(s:StOk t r h m d):=s.pr.c0
abbrev StOk.rl(s:StOk t r h m d){j:Nat}(hj:j<(stN r h d).length):=s.pr.rl hj
abbrev StOk.edge(s:StOk t r h m d):=s.pr.edge
theorem StOk.vg(s:StOk t r h m d):QZ (stA t r h m d).g=0:=by
 simp only[stA]
 refine JE s.bn s.be (fun x hx=>?_) fun x hx=>?_
 ·obtain⟨j,hj,rfl⟩:=Xk hx
  have h1:=(s.row0 j hj).1
  have h2:=s.ty.ln
  simp only[okN,Ql]
  have h3:=h1.1
  have h4:=h1.2
  omega
 ·obtain⟨j,hj,rfl⟩:=Xk hx
  obtain⟨_,h2,h3,h4,_⟩:=s.edge j hj
  exact JC h4 (by omega) (by omega)
theorem StOk.ho(s:StOk t r h m d):HsOk t (stA t r h m d) where
 g:=s.vg
 ln:=Qeb _ _ _ _ _
 ty:=⟨fun x hx=>by obtain⟨j,hj,rfl⟩:=Xk hx;exact (s.row0 j hj).1,fun x hx=>by obtain⟨j,hj,rfl⟩:=Xk hx;exact (s.edge j hj).1⟩
 ab:=fun i hi=>(s.row0 i hi).2.1
 vl:=fun i hi=>(s.rl hi).trans (s.row0 i hi).2.2.1
 vb:=fun i hi k hk=>by
  have h0:=s.row0 i hi
  rw[s.rl hi] at hk
  refine Qar (p:=fun v=>(gt (Q0 t (gt (stN r h d) (i:Int))) (k:Int)).lo≤v∧v≤(gt (Q0 t (gt (stN r h d) (i:Int))) (k:Int)).hi) _ _ s.c0 (by rw[JO,←YC];exact hi) hk (fun x hx e1 e2=>?_) (.inr (h0.2.2.2 k hk))
  have:=s.s2 x hx
  rw[e1,e2] at this
  exact this
 et:=fun k hk=>(s.edge k hk).2.2.2.2
end
theorem Ql4{t:Ty}(ht:TyOk t){p g:G}{m:Mo}(hp:QZ p=0)(hy:Typ t p)(hl:m.n.length=p.n.length)(hm:∀i:Nat,i<p.n.length→IsT t (gt g.n (gt m.n (i:Int)))):QZ (XD p g m)=0∧Typ t (XD p g m):=by
 have vs:=XZ hp
 have ll:=ht.ln
 have e:∀x∈(XD p g m).n,IsT t x:=fun x hx=>by
  obtain⟨i,hi,rfl⟩:=Xk hx
  have hi:i<m.n.length:=by simpa [XD,thr] using hi
  simp only[XD]
  rw[X5 hi]
  exact hm i (by omega)
 have hn:(XD p g m).n.length=p.n.length:=by simp only[XD,X4];exact hl
 refine⟨JE (by rw[hn];omega) vs.2.1 (fun x hx=>?_) (fun x hx=>by rw[hn];exact vs.2.2.2 x hx),e,hy.e⟩
 obtain⟨h1,h2⟩:=e x hx
 simp only[okN,Ql]
 omega
section
variable {t:Ty} {r:Ru} {h:Hs} {m:Mt} {d:Mo}
def JP(t:Ty)(r:Ru)(h:Hs)(m:Mt)(d:Mo)(i k:Nat):Int:=
 if (i:Int)∈r.k.n then gt (gt (stA t r h m d).v (gt (stT h d).n (gt m.m.n (i:Int)))) (k:Int) else (gt (Q0 t (gt h.g.n (gt m.m.n (i:Int)))) (k:Int)).lo
def QaZ(t:Ty)(r:Ru)(h:Hs)(m:Mt)(d:Mo)(i k:Nat):Option Slo:=
 if gt (gt h.v (gt m.m.n (i:Int))) (k:Int)≠JP t r h m d i k then some ⟨i,k, -1,gt (gt h.v (gt m.m.n (i:Int))) (k:Int)⟩ else none
def Zl(t:Ty)(r:Ru)(h:Hs)(m:Mt)(d:Mo)(i n:Nat):List Slo:=(List.range n).filterMap (QaZ t r h m d i)
def Jr(t:Ty)(h:Hs)(m:Mt)(i:Nat):Nat:=(Q0 t (gt h.g.n (gt m.m.n (i:Int)))).length
def XV(t:Ty)(r:Ru)(h:Hs)(m:Mt)(d:Mo)(n:Nat):List Slo:=(List.range n).flatMap fun i=>Zl t r h m d i (Jr t h m i)
def Q3(t:Ty)(r:Ru)(h:Hs)(m:Mt)(d:Mo):Ru:=
 ⟨r.nm,⟨XD r.r.g (stA t r h m d).g (stC r h m.m d),[],0,[]⟩,⟨XD r.l.g h.g m.m,XV t r h m d m.m.n.length,0,[]⟩,⟨srt r.i.n,srt r.i.e⟩,⟨uiL r.k.n r.i.n,uiL r.k.e r.i.e⟩,Yy (stC r h m.m d).n&&Yy (stC r h m.m d).e,.tt⟩
def XT(r:Ru)(h:Hs)(m:Mt)(d:Mo):Mt:=⟨stC r h m.m d,[]⟩
def Xt(d:Mo):Mo:=⟨QY 0 d.n.length,QY 0 d.e.length⟩
theorem unsL_mem{n:Nat}{x:Slo}:x∈XV t r h m d n↔∃i k:Nat,i<n∧k<Jr t h m i∧gt (gt h.v (gt m.m.n (i:Int))) (k:Int)≠JP t r h m d i k∧x=⟨i,k, -1,gt (gt h.v (gt m.m.n (i:Int))) (k:Int)⟩:=by
 simp only[XV,Zl,Qr,List.mem_range,List.mem_filterMap]
 constructor
 ·rintro⟨i,hi,k,hk,e⟩
  unfold QaZ at e
  split at e
  ·rename_i c
   exact⟨i,k,hi,hk,c,(Option.some.inj e).symm⟩
  ·cases e
 ·rintro⟨i,k,hi,hk,c,rfl⟩
  refine⟨i,hi,k,hk,?_⟩
  unfold QaZ
  rw[if_pos c]
theorem Ql5(n rn:Nat)(im kn into:List Int):(cmL n rn im kn into).length=rn:=QaU _ _ _ _ _ _
theorem StPr.cl(s:StPr t r h m d):(stC r h m.m d).n.length=r.r.g.n.length∧(stC r h m.m d).e.length=r.r.g.e.length:=by
 rw[s.cn,s.ce];exact⟨Ql5 _ _ _ _ _,Ql5 _ _ _ _ _⟩
abbrev StOk.cl(s:StOk t r h m d):=s.pr.cl
theorem StPr.mt(s:StPr t r h m d){i:Nat}(hi:i<m.m.n.length):∃x:Nat,gt m.m.n (i:Int)=x∧x<h.g.n.length:=by
 obtain⟨h1,h2⟩:=s.sn.bd i hi
 exact⟨(gt m.m.n (i:Int)).toNat,by omega,by omega⟩
abbrev StOk.mt(s:StOk t r h m d){i:Nat}(hi:i<m.m.n.length):=s.pr.mt hi
theorem StPr.hty(s:StPr t r h m d){x:Nat}(hx:x<h.g.n.length):IsT t (gt h.g.n (x:Int)):=s.hs.ty.n _ (gt_mem (by omega) (by omega))
abbrev StOk.hty(s:StOk t r h m d){x:Nat}(hx:x<h.g.n.length):=s.pr.hty hx
theorem StOk.ul(s:StOk t r h m d):QZ (Q3 t r h m d).l.g=0∧Typ t (Q3 t r h m d).l.g:=
 Ql4 s.ty s.ru.rg s.ru.rt s.cl.1 fun i hi=>by
  obtain⟨j,hj,e⟩:=gtI (s.cty hi).1
  simp only[stA]
  rw[e];exact (s.row0 j hj).1
theorem StOk.ur(s:StOk t r h m d):QZ (Q3 t r h m d).r.g=0∧Typ t (Q3 t r h m d).r.g:=
 Ql4 s.ty s.ru.l.g s.ru.l.ty s.sm.ln fun i hi=>by
  obtain⟨x,hx,hx2⟩:=s.mt (i:=i) (by rw[s.sm.ln];exact hi)
  rw[hx];exact s.hty hx2
theorem StOk.ke(s:StOk t r h m d){a:Nat}(ha:a<r.i.e.length):∃q p u w:Nat,gt r.k.e (a:Int)=q∧gt r.i.e (a:Int)=p∧q<r.l.g.e.length∧p<r.r.g.e.length∧(gt r.r.g.e (p:Int)).t=(gt r.l.g.e (q:Int)).t∧
  u<r.i.n.length∧gt r.k.n (u:Int)=(gt r.l.g.e (q:Int)).f∧gt r.i.n (u:Int)=(gt r.r.g.e (p:Int)).f∧w<r.i.n.length∧gt r.k.n (w:Int)=(gt r.l.g.e (q:Int)).o∧gt r.i.n (w:Int)=(gt r.r.g.e (p:Int)).o:=by
 have hs:=s.se
 have ha2:a<r.k.e.length:=by rw[←hs.il];exact ha
 obtain⟨q,hq,eq⟩:=hs.knat ha2
 obtain⟨p,hp,ep⟩:=hs.intoat ha
 have hm:=gt_mem (l:=r.k.e) (j:=(a:Int)) (by omega) (by omega)
 obtain⟨d1,d2⟩:=s.ru.k.d _ hm
 obtain⟨_,e1,e2,e3⟩:=s.ru.i.ok.ed a (by simp only[ptG,Qak];exact ha2)
 simp only[ptG] at e1 e2 e3
 rw[QdK ha2] at e1 e2 e3
 simp only at e1 e2 e3
 rw[eq] at d1 d2 e1 e2 e3
 rw[ep] at e1 e2 e3
 obtain⟨u1,u2⟩:=Z8 s.ru.k.n.p d1
 obtain⟨w1,w2⟩:=Z8 s.ru.k.n.p d2
 have il:=s.sn.il
 rw[s.sm.le] at hq
 exact⟨q,p,_,_,eq,ep,hq,hp,e1.symm,by omega,u2,e2,by omega,w2,e3⟩
theorem StOk.upk(s:StOk t r h m d):PK (Q3 t r h m d).l.g (Q3 t r h m d).k where
 v:=s.ul.1
 n:=by
  have:=s.sn.uk
  simp only[Q3,XD,X4,s.cl.1]
  exact this
 e:=s.se.uk
 d:=fun x hx=>by
  simp only[Q3] at hx ⊢
  obtain⟨a,ha,rfl⟩:=Xk (srt_mem.1 hx)
  obtain⟨q,p,u,w,_,ep,_,_,_,hu,_,eu,hw,_,ew⟩:=s.ke ha
  simp only[XD]
  rw[ep,←eu,←ew]
  exact⟨srt_mem.2 (gt_mem (by omega) (by omega)),srt_mem.2 (gt_mem (by omega) (by omega))⟩
theorem StPr.cin(s:StPr t r h m d){a:Nat}(ha:a<r.i.n.length):∃x:Nat,gt m.m.n (gt r.k.n (a:Int))=x∧x<h.g.n.length∧(x:Int)∈d.n∧gt (stC r h m.m d).n (gt r.i.n (a:Int))=(Xq d.n (x:Int):Int)∧gt (stN r h d) (Xq d.n (x:Int):Int)=gt h.g.n (x:Int):=by
 obtain⟨h1,h2⟩:=s.sn.cm_in ha
 obtain⟨⟨b1,b2⟩,_⟩:=rst_mem.1 h2
 obtain⟨x,hx⟩:∃x:Nat,gt m.m.n (gt r.k.n (a:Int))=x:=⟨_,(Int.toNat_of_nonneg b1).symm⟩
 rw[hx] at h1 h2 b2
 rw[←s.dn] at h1 h2
 obtain⟨f1,f2⟩:=Z8 s.pk.n.p h2
 refine⟨x,hx,by omega,h2,by rw[s.cn];exact h1,?_⟩
 rw[QaW f1,f2]
abbrev StOk.cin(s:StOk t r h m d){a:Nat}(ha:a<r.i.n.length):=s.pr.cin ha
theorem StOk.uem(s:StOk t r h m d):Emb (ptG (Q3 t r h m d).l.g (Q3 t r h m d).k) (Q3 t r h m d).r.g (Q3 t r h m d).i:=by
 have hp:=s.upk
 have sn:=s.sn
 have se:=s.se
 have l1:(Q3 t r h m d).k.n.length=r.i.n.length:=X6 _
 have l2:(Q3 t r h m d).k.e.length=r.i.e.length:=X6 _
 have ln:(ptG (Q3 t r h m d).l.g (Q3 t r h m d).k).n.length=r.i.n.length:=by simp only[ptG,X4];exact l1
 have le:(ptG (Q3 t r h m d).l.g (Q3 t r h m d).k).e.length=r.i.e.length:=by simp only[ptG,Qak];exact l2
 have il:=sn.il
 have ile:=se.il
 refine⟨⟨(Qf9 hp).va,s.ur.1,(Z9 _ _).trans ln.symm,(Z9 _ _).trans le.symm,fun i hi=>?_,fun i hi=>?_⟩,fun i k hi hk e=>?_,fun i k hi hk e=>?_⟩
 ·rw[ln] at hi
  obtain⟨a,ha,e1,e2⟩:=sn.ui_at (kn:=r.k.n) hi
  obtain⟨q,hq,eq⟩:=sn.knat (a:=a) (by omega)
  obtain⟨x,hx,_,_,c1,c2⟩:=s.cin ha
  obtain⟨p,hp2,ep⟩:=sn.intoat ha
  have hqm:q<m.m.n.length:=hq
  simp only[ptG,Q3,XD,X4]
  rw[X5 (by rw[X6];exact hi)]
  rw[show gt (srt r.i.n) (i:Int)=gt r.i.n (a:Int) from e1,e2,eq,X5 hqm,ep,X5 (by rw[s.cl.1];exact hp2)]
  refine⟨⟨by omega,by omega⟩,?_⟩
  rw[eq] at hx
  rw[ep] at c1
  simp only[stA]
  rw[c1,c2,hx]
 ·rw[le] at hi
  obtain⟨a,ha,e1,e2⟩:=se.ui_at (kn:=r.k.e) hi
  obtain⟨q,p,u,w,eq,ep,hq,hp2,et,hu,ku,iu,hw,kw,iw⟩:=s.ke ha
  obtain⟨ju,hju,ju1,ju2⟩:=sn.ui_of (kn:=r.k.n) hu
  obtain⟨jw,hjw,jw1,jw2⟩:=sn.ui_of (kn:=r.k.n) hw
  have cu:Xq (srt r.i.n) (gt r.r.g.e (p:Int)).f=ju:=by
   rw[←iu,←ju1];exact QaP sn.uk.p (by rw[ukL,X6];exact hju)
  have cw:Xq (srt r.i.n) (gt r.r.g.e (p:Int)).o=jw:=by
   rw[←iw,←jw1];exact QaP sn.uk.p (by rw[ukL,X6];exact hjw)
  simp only[ptG,Q3,XD]
  rw[QdK (by rw[X6];exact hi)]
  rw[show gt (srt r.i.e) (i:Int)=gt r.i.e (a:Int) from e1,e2,eq,ep]
  simp only
  rw[cu,cw,ju2,jw2]
  exact⟨by omega,et,ku,kw⟩
 ·exact Zi sn.ui_nd (by rw[Z9,←ln];exact hi) (by rw[Z9,←ln];exact hk) e
 ·exact Zi se.ui_nd (by rw[Z9,←le];exact hi) (by rw[Z9,←le];exact hk) e
theorem Ql6(n:Nat):(List.range n).Pairwise (·<·):=List.pairwise_lt_range
theorem Qvp(n:Nat):(XV t r h m d n).Pairwise fun x y=>¬(x.nd=y.nd∧x.ak=y.ak):=by
 unfold XV
 rw[List.pairwise_flatMap]
 have key:∀{i n:Nat}{x:Slo},x∈Zl t r h m d i n→∃k:Nat,x=⟨i,k, -1,gt (gt h.v (gt m.m.n (i:Int))) (k:Int)⟩∧QaZ t r h m d i k=some x:=fun {i n x} hx=>by
  obtain⟨k,_,e⟩:=List.mem_filterMap.1 hx
  refine⟨k,?_,e⟩
  unfold QaZ at e
  split at e
  ·exact (Option.some.inj e).symm
  ·cases e
 refine⟨fun i _=>?_,(Ql6 n).imp fun {i j} hij x hx y hy e=>?_⟩
 ·unfold Zl
  refine List.Pairwise.filterMap _ (fun a b hab x hx y hy e=>?_) (Ql6 _) (R:=(·<·))
  unfold QaZ at hx hy
  split at hx
  ·split at hy
   ·cases hx;cases hy
    simp only at e
    omega
   ·cases hy
  ·cases hx
 ·obtain⟨a,rfl,_⟩:=key hx
  obtain⟨b,rfl,_⟩:=key hy
  simp only at e
  omega
theorem StOk.uru(s:StOk t r h m d)(hl:(XV t r h m d m.m.n.length).length≤10):RuOk t (Q3 t r h m d) where
 nm:=s.ru.nm
 l:=⟨s.ul.1,s.ul.2,⟨Int.le_refl 0,show (0:Int)≤12 by decide⟩,Nat.zero_le _,Nat.zero_le _,fun x hx=>absurd hx List.not_mem_nil,fun x hx=>absurd hx List.not_mem_nil,fun v h0 h1=>absurd (show v<0 from h1) (by omega)⟩
 rg:=s.ur.1
 rt:=s.ur.2
 rv:=rfl
 re:=rfl
 rl:=hl
 rs:=fun x hx=>by
  obtain⟨i,k,hi,hk,_,rfl⟩:=unsL_mem.1 hx
  obtain⟨y,hy,hy2⟩:=s.mt hi
  have hv:=s.hs.vl y hy2
  have hr:gt (Q3 t r h m d).r.g.n (i:Int)=gt h.g.n (y:Int):=by
   simp only[Q3,XD];rw[X5 hi,hy]
  unfold Jr at hk
  rw[hy] at hk
  have hb:=s.hs.vb y hy2 k (by omega)
  have hd:=Qca s.ty (s.hty hy2).2 (gt_mem (l:=Q0 t (gt h.g.n (y:Int))) (j:=(k:Int)) (by omega) (by omega))
  refine⟨?_,?_,⟨by simp,by simp [Q3]⟩,?_⟩
  ·simp only[Q3,XD,X4];omega
  ·simp only;rw[hr];omega
  ·simp only;rw[hy];omega
 rd:=fun i k hi hk e1 e2=>by
  have hp:=Qvp (t:=t) (r:=r) (h:=h) (m:=m) (d:=d) m.m.n.length
  rw[List.pairwise_iff_getElem] at hp
  have hi:i<(XV t r h m d m.m.n.length).length:=hi
  have hk:k<(XV t r h m d m.m.n.length).length:=hk
  simp only[Q3] at e1 e2
  rw[QV hi,QV hk] at e1 e2
  rcases Nat.lt_trichotomy i k with c|c|c
  ·exact absurd ⟨e1,e2⟩ (hp i k hi hk c)
  ·exact c
  ·exact absurd ⟨e1.symm,e2.symm⟩ (hp k i hk hi c)
 k:=s.upk
 i:=s.uem
 cn:=fun i hi _=>by
  have hi:i<m.m.n.length:=by simpa [Q3,XD,thr] using hi
  obtain⟨x,hx,hx2⟩:=s.mt hi
  simp only[Q3,XD]
  rw[X5 hi,hx]
  exact s.hs.ab x hx2
 ce:=fun k hk _=>by
  have hk:k<r.l.g.e.length:=hk
  obtain⟨v1,v2,v3⟩:=Zj s.ru.l.g (i:=(k:Int)) (by omega)
  obtain⟨⟨b1,b2⟩,e1,e2,e3⟩:=s.sm.ed k hk
  obtain⟨a,ha,ea⟩:=gtI v2
  obtain⟨b,hb,eb⟩:=gtI v3
  have ln:=s.sm.ln
  obtain⟨y,hy⟩:∃y:Nat,gt m.m.e (k:Int)=y:=⟨_,(Int.toNat_of_nonneg b1).symm⟩
  have:=s.hs.et y (by omega)
  simp only[Q3,XD]
  rw[ea,eb,X5 (by omega),X5 (by omega),←ea,←eb,e1,e2,e3,hy]
  exact this
 c:=trivial
end
def btR(l:List E)(a b:Int):List Int:=(l.filter fun x=>decide (x.f=a)&&decide (x.o=b)).map (·.t)
def btL(g:G)(a b:Int):List Int:=srt (btR g.e a b)
def hfJ(a b:Hs)(N:List Int)(k:Int)(j:Nat):Bool:=decide (btL a.g (j:Int) N.length=btL b.g (gt (N++[k]) (j:Int)) k)&&decide (btL a.g N.length (j:Int)=btL b.g k (gt (N++[k]) (j:Int)))
def XM(a b:Hs)(N:List Int)(k:Int):Bool:=(!decide (k∈N)&&(decide (gt a.g.n N.length=gt b.g.n k)&&decide (gt a.v N.length=gt b.v k)))&&(List.range (N.length+1)).all (hfJ a b N k)
def hfd(a b:Hs):Nat→List Int→Option (List Int)
 |0,N=>some N
 |n+1,N=>(QY 0 b.g.n.length).findSome? fun k=>if XM a b N k=true then hfd a b n (N++[k]) else none
structure IsoH(a b:Hs)(m:Mo):Prop where
 ok:MOk a.g b.g m
 n:PermI m.n b.g.n.length
 e:PermI m.e b.g.e.length
 v:∀i:Nat,i<a.g.n.length→gt a.v (i:Int)=gt b.v (gt m.n (i:Int))
theorem PermI.pm{l:List Int}{n:Nat}(h:PermI l n):l.Perm (QY 0 n):=
 (List.perm_ext_iff_of_nodup h.nodup (Qdt n)).2 fun x=>by
  rw[nums_mem]
  constructor
  ·intro hx
   obtain⟨i,hi,rfl⟩:=Xk hx
   exact h.b i (by rw[←h.l];exact hi)
  ·intro hx
   obtain⟨k,hk,rfl⟩:∃k:Nat,k<n∧x=k:=⟨x.toNat,by omega,by omega⟩
   obtain⟨i,hi,e⟩:=h.cov hk
   rw[←e]
   exact gt_mem (by omega) (by rw[h.l];omega)
theorem Qvq{a b:List Int}(h:a.Perm b):srt a=srt b:=by
 have h1:(srt a).Perm (srt b):=(ZO a).trans (h.trans (ZO b).symm)
 exact QfQ (Qbu a) (Qbu b) h1
section
variable {a b:Hs} {m:Mo}
theorem IsoH.nl(h:IsoH a b m):a.g.n.length=b.g.n.length:=by
 rw[←h.ok.ln];exact h.n.l
theorem IsoH.bt(h:IsoH a b m){i j:Nat}(hi:i<a.g.n.length)(hj:j<a.g.n.length):btL a.g (i:Int) (j:Int)=btL b.g (gt m.n (i:Int)) (gt m.n (j:Int)):=by
 refine Qvq ?_
 have e1:m.e.map (gt b.g.e)=a.g.e.map fun x=>⟨x.t,gt m.n x.f,gt m.n x.o⟩:=by
  refine Qaa (by simp [h.ok.le]) fun k hk=>?_
  have hk:k<m.e.length:=by simpa using hk
  have hk2:k<a.g.e.length:=by rw[←h.ok.le];exact hk
  rw[ZB hk,ZB hk2]
  obtain⟨_,e1,e2,e3⟩:=h.ok.ed k hk2
  rw[e1,e2,e3]
 have e2:(m.e.map (gt b.g.e)).Perm b.g.e:=by
  have p1:(m.e.map (gt b.g.e)).Perm ((QY 0 b.g.e.length).map (gt b.g.e)):=h.e.pm.map _
  have p2:(QY 0 b.g.e.length).map (gt b.g.e)=b.g.e:=Qaa (by simp [QY]) fun k hk=>by
   have hk:k<b.g.e.length:=by simpa [QY] using hk
   rw[ZB (by simpa [QY] using hk),YO hk]
  rwa [p2] at p1
 rw[e1] at e2
 have p3:=(e2.filter fun x=>decide (x.f=gt m.n (i:Int))&&decide (x.o=gt m.n (j:Int))).map (·.t)
 refine List.Perm.trans ?_ p3
 unfold btR
 rw[List.filter_map,List.map_map]
 refine List.Perm.of_eq ?_
 have e3:(a.g.e.filter fun x=>decide (x.f=(i:Int))&&decide (x.o=(j:Int)))=a.g.e.filter ((fun x=>decide (x.f=gt m.n (i:Int))&&decide (x.o=gt m.n (j:Int)))∘fun x=>(⟨x.t,gt m.n x.f,gt m.n x.o⟩:E)):=by
  refine List.filter_congr fun x hx=>?_
  obtain⟨_,h2,h3⟩:=Qbt ((XZ h.ok.va).2.2.2 x hx)
  have inj:∀(y:Int)(q:Nat),0≤y→y<a.g.n.length→q<a.g.n.length→(y=q↔gt m.n y=gt m.n (q:Int)):=fun y q h0 h1 hq=>by
   constructor
   ·rintro rfl;rfl
   ·intro e
    obtain⟨p,rfl⟩:∃p:Nat,y=p:=⟨y.toNat,by omega⟩
    have:=Zi h.n.nodup (by rw[h.ok.ln];omega) (by rw[h.ok.ln];exact hq) e
    omega
  have i1:=inj x.f i h2.1 h2.2 hi
  have i2:=inj x.o j h3.1 h3.2 hj
  simp only[Function.comp]
  rw[decide_eq_decide.2 i1,decide_eq_decide.2 i2]
 rw[e3]
 rfl
theorem IsoH.fit(h:IsoH a b m){i:Nat}(hi:i<a.g.n.length):XM a b (m.n.take i) (gt m.n (i:Int))=true:=by
 have hl:m.n.length=a.g.n.length:=h.ok.ln
 have hL:(m.n.take i).length=i:=by simp;omega
 have e:m.n.take i++[gt m.n (i:Int)]=m.n.take (i+1):=(Xm (by omega)).symm
 have g:∀j:Nat,j<i+1→gt (m.n.take (i+1)) (j:Int)=gt m.n (j:Int):=fun j hj=>by
  rw[QV (by simp;omega),QV (by omega),List.getElem_take]
 unfold XM
 rw[hL]
 simp only[Qk,Bool.not_eq_true',QL,Ql,Qs,List.mem_range]
 refine⟨⟨fun hm=>?_,(h.ok.nd i hi).2.symm,h.v i hi⟩,fun j hj=>?_⟩
 ·obtain⟨k,hk,ek⟩:=Xk hm
  rw[hL] at hk
  have:=g k (by omega)
  rw[QV (by rw[hL];exact hk),List.getElem_take,←QV (by omega)] at ek
  have:=Zi h.n.nodup (by omega) (by omega) ek
  omega
 ·unfold hfJ
  rw[e,hL,g j hj]
  simp only[Qk,Ql]
  exact⟨h.bt (by omega) hi,h.bt hi (by omega)⟩
theorem IsoH.hfd(h:IsoH a b m):∀(n i:Nat),i+n=a.g.n.length→(Go.Am.hfd a b n (m.n.take i)).isSome=true
 |0,i,_=>rfl
 |n+1,i,hi=>by
  have hl:m.n.length=a.g.n.length:=h.ok.ln
  have ih:=IsoH.hfd h n (i+1) (by omega)
  rw[Xm (by omega)] at ih
  unfold Go.Am.hfd
  rw[List.findSome?_isSome_iff]
  refine⟨gt m.n (i:Int),nums_mem.2 (h.ok.nd i (by omega)).1,?_⟩
  rw[if_pos (h.fit (by omega))]
  exact ih
theorem Ql7:∀(n:Nat){N M:List Int},Go.Am.hfd a b n N=some M→M.length=N.length+n∧((∀x∈N,0≤x∧x<b.g.n.length)→∀x∈M,0≤x∧x<b.g.n.length)
 |0,N,M,h=>by
  simp only[Go.Am.hfd,Qb] at h
  subst h
  exact⟨rfl,fun h=>h⟩
 |n+1,N,M,h=>by
  unfold Go.Am.hfd at h
  obtain⟨l1,k,l2,hk,h2,_⟩:=List.findSome?_eq_some_iff.1 h
  have hm:k∈QY 0 b.g.n.length:=by rw[hk];simp
  split at h2
  ·obtain⟨h3,h4⟩:=Ql7 n h2
   refine⟨by simp at h3;omega,fun hN=>h4 fun x hx=>?_⟩
   rcases Qd.1 hx with hx|hx
   ·exact hN x hx
   ·rw[Qm.1 hx];exact nums_mem.1 hm
  ·cases h2
end
theorem Qvr{x:Cx}(h1:Yc x.l x.g x.m=0)(h2:Yz x.l x.k=0):cxE x=0:=by
 unfold cxE
 rw[if_neg (by simp [h1]),h2]
theorem Qvs{x:Cx}(h1:cxE x=0)(h2:idL x.m.n x.k.n=[])(h3:idL x.m.e x.k.e=[])(h4:Y2 x=[]):cxR x=(⟨Yu x.g.n.length (Xg x.m.n x.k.n),Yu x.g.e.length (Xg x.m.e x.k.e)⟩,0):=by
 unfold cxR
 rw[if_neg (by simp [h1]),if_neg (by simp [h2,h3]),if_neg (by simp [h4])]
section
variable {t:Ty} {r:Ru} {h:Hs} {m:Mt} {d:Mo}
theorem StOk.cet(s:StOk t r h m d){i:Nat}(hi:i<r.r.g.e.length):(0≤gt (stC r h m.m d).e (i:Int)∧gt (stC r h m.m d).e (i:Int)<(Xr r h m.m d).length)∧(gt r.r.g.e (i:Int)).t=(gt (Xr r h m.m d) (gt (stC r h m.m d).e (i:Int))).t∧
  gt (stC r h m.m d).n (gt r.r.g.e (i:Int)).f=(gt (Xr r h m.m d) (gt (stC r h m.m d).e (i:Int))).f∧gt (stC r h m.m d).n (gt r.r.g.e (i:Int)).o=(gt (Xr r h m.m d) (gt (stC r h m.m d).e (i:Int))).o:=by
 have hs:=s.se
 have hb:=hs.cm_bd hi
 have de:=s.de
 rw[JN,s.ce,de]
 refine⟨⟨hb.1,hb.2.1⟩,?_⟩
 rcases hs.cases hi with⟨a,ha,e⟩|hc
 ·obtain⟨h1,h2⟩:=hs.cm_in ha
  rw[e] at h1
  obtain⟨f1,f2⟩:=Z8 (QaV _ _ _) h2
  obtain⟨q,p,u,w,eq,ep,hq,hp,et,hu,ku,iu,hw,kw,iw⟩:=s.ke ha
  obtain rfl:p=i:=by omega
  rw[eq] at h1 h2 f1 f2
  rw[h1,QcB (by rw[de];exact f1),de,f2]
  obtain⟨_,e1,e2,e3⟩:=s.sm.ed q hq
  obtain⟨x,hx,_,hxd,c1,_⟩:=s.cin hu
  obtain⟨y,hy,_,hyd,c2,_⟩:=s.cin hw
  simp only
  rw[←iu,←iw,c1,c2,←e1,←e2,←e3,←ku,←kw,hx,hy]
  exact⟨et,(s.tin hxd).1.symm,(s.tin hyd).1.symm⟩
 ·obtain⟨h1,h2,h3⟩:=hs.cm_cr hi hc
  have:=QgG (r:=r) (h:=h) (d:=d) (mm:=m.m) h2
  rw[de] at this
  rw[h1,this,h3]
  exact⟨rfl,rfl,rfl⟩
theorem StOk.usm(s:StOk t r h m d):SmOk t (Q3 t r h m d).l.g (stA t r h m d).g (XT r h m d).m where
 ln:=by simp only[XT,Q3,XD,X4]
 le:=s.cl.2
 nd:=fun i hi=>by
  have hi:i<(stC r h m.m d).n.length:=by simpa [Q3,XD,thr] using hi
  have hb:=(s.cty (i:=i) (by rw[←s.cl.1];exact hi)).1
  refine⟨hb,?_⟩
  simp only[XT,Q3,XD]
  rw[X5 hi]
  obtain⟨j,hj,e⟩:=gtI hb
  simp only[stA]
  rw[e]
  exact QjE s.ty (s.row0 j hj).1
 ed:=fun i hi=>s.cet (i:=i) hi
theorem StOk.umo(s:StOk t r h m d):MOk (Q3 t r h m d).l.g (stA t r h m d).g (stC r h m.m d):=
 ⟨s.ul.1,s.vg,s.usm.ln,s.usm.le,fun i hi=>⟨(s.usm.nd i hi).1,by
  have hi:i<(stC r h m.m d).n.length:=by simpa [Q3,XD,thr] using hi
  simp only[Q3,XD]
  rw[X5 hi]⟩,s.usm.ed⟩
theorem StOk.ucx(s:StOk t r h m d):cxR (stX (Q3 t r h m d) (stA t r h m d) (XT r h m d).m)=(Xt d,0):=by
 have sn:=s.sn
 have se:=s.se
 have e0:cxE (stX (Q3 t r h m d) (stA t r h m d) (XT r h m d).m)=0:=by
  have e1:Yc (Q3 t r h m d).l.g (stA t r h m d).g (stC r h m.m d)=0:=mok.2 s.umo
  have e2:Yz (Q3 t r h m d).l.g (Q3 t r h m d).k=0:=validP_ok.2 s.upk
  exact Qvr e1 e2
 have i1:idL (stC r h m.m d).n (srt r.i.n)=[]:=by rw[s.cn];exact sn.uid
 have i2:idL (stC r h m.m d).e (srt r.i.e)=[]:=by rw[s.ce];exact se.uid
 have g1:∀{x:Int},x∈Xg (stC r h m.m d).n (srt r.i.n)↔(d.n.length:Int)≤x∧x<(d.n.length+(crL r.r.g.n.length r.i.n).length:Nat):=fun {x}=>by
  rw[s.cn,s.dn];exact sn.ugone
 have i3:Y2 (stX (Q3 t r h m d) (stA t r h m d) (XT r h m d).m)=[]:=by
  refine List.eq_nil_iff_forall_not_mem.2 fun x hx=>?_
  obtain⟨k,hk,hd,rfl⟩:=sel_mem.1 hx
  simp only[stX,XT,stA,Q3] at hk hd
  unfold Za at hd
  simp only[Qk,Bool.not_eq_true',QL,QG,Ql] at hd
  obtain⟨hd1,hd2⟩:=hd
  rw[JN] at hk
  rcases QcC hk with c|⟨j,hj,rfl⟩
  ·have hm:=gt_mem (l:=d.e) (j:=(k:Int)) (by omega) (by omega)
   obtain⟨p1,p2⟩:=s.pk.d _ hm
   obtain⟨f1,f2,_⟩:=s.tin p1
   obtain⟨w1,w2,_⟩:=s.tin p2
   rw[QcB c] at hd2
   simp only at hd2
   rw[f1,w1,g1,g1] at hd2
   omega
  ·refine hd1 ?_
   obtain⟨x,hx,hx2,hx3⟩:=QbG hj
   obtain⟨c1,c2,c3⟩:=se.cm_cr hx2 hx3
   have:Xq (crL r.r.g.e.length r.i.e) (x:Int)=j:=Qch (Qaq _ _) c2 hj (by rw[c3,hx])
   rw[this,←s.ce,←s.de] at c1
   rw[←c1]
   exact gt_mem (by omega) (by rw[s.cl.2];omega)
 have r1:Yu (stN r h d).length (Xg (stC r h m.m d).n (srt r.i.n))=QY 0 d.n.length:=by
  rw[YC,s.cn,s.dn];exact sn.urest
 have r2:Yu (Xr r h m.m d).length (Xg (stC r h m.m d).e (srt r.i.e))=QY 0 d.e.length:=by
  rw[JN,s.ce,s.de];exact se.urest
 exact (Qvs e0 i1 i2 i3).trans (congrArg (fun z:Mo=>(z,(0:Int))) (QjT r1 r2))
def bkM(h:Hs)(r:Ru)(m:Mt):Mo:=⟨bkL h.g.n.length m.m.n r.k.n,bkL h.g.e.length m.m.e r.k.e⟩
theorem StOk.utn(s:StOk t r h m d){j:Nat}(hj:j<d.n.length):gt (stT (stA t r h m d) (Xt d)).n (j:Int)=(j:Int):=by
 have:=s.sn.utrk (i:=j) (by rw[←s.dn];omega)
 rw[←s.dn,if_pos hj] at this
 simp only[stT,Xt,stA]
 rw[YC]
 exact this
theorem StOk.ucn(s:StOk t r h m d):(stC (Q3 t r h m d) (stA t r h m d) (XT r h m d).m (Xt d)).n=ucL h.g.n.length r.r.g.n.length m.m.n r.k.n r.i.n:=by
 have hn:(XD r.l.g h.g m.m).n.length=m.m.n.length:=by simp only[XD,X4]
 have e1:(stC (Q3 t r h m d) (stA t r h m d) (XT r h m d).m (Xt d)).n=Y3 (XD r.l.g h.g m.m).n.length (srt r.i.n) (uiL r.k.n r.i.n) (stC r h m.m d).n (Xy (stN r h d).length (QY 0 d.n.length)) (QY 0 d.n.length).length:=rfl
 have e2:ucL h.g.n.length r.r.g.n.length m.m.n r.k.n r.i.n=Y3 m.m.n.length (ukL r.i.n) (uiL r.k.n r.i.n) (cmL h.g.n.length r.r.g.n.length m.m.n r.k.n r.i.n) (Xy ((Xc h.g.n.length m.m.n r.k.n).length+(crL r.r.g.n.length r.i.n).length) (Xc ((Xc h.g.n.length m.m.n r.k.n).length+(crL r.r.g.n.length r.i.n).length) (cmL h.g.n.length r.r.g.n.length m.m.n r.k.n r.i.n) (ukL r.i.n))) (Xc ((Xc h.g.n.length m.m.n r.k.n).length+(crL r.r.g.n.length r.i.n).length) (cmL h.g.n.length r.r.g.n.length m.m.n r.k.n r.i.n) (ukL r.i.n)).length:=rfl
 rw[e1,e2,s.cn,hn,YC,s.dn,s.sn.urest]
 rfl
theorem StOk.uce(s:StOk t r h m d):(stC (Q3 t r h m d) (stA t r h m d) (XT r h m d).m (Xt d)).e=ucL h.g.e.length r.r.g.e.length m.m.e r.k.e r.i.e:=by
 have hn:(XD r.l.g h.g m.m).e.length=m.m.e.length:=s.sm.le.symm
 have e1:(stC (Q3 t r h m d) (stA t r h m d) (XT r h m d).m (Xt d)).e=Y3 (XD r.l.g h.g m.m).e.length (srt r.i.e) (uiL r.k.e r.i.e) (stC r h m.m d).e (Xy (Xr r h m.m d).length (QY 0 d.e.length)) (QY 0 d.e.length).length:=rfl
 have e2:ucL h.g.e.length r.r.g.e.length m.m.e r.k.e r.i.e=Y3 m.m.e.length (ukL r.i.e) (uiL r.k.e r.i.e) (cmL h.g.e.length r.r.g.e.length m.m.e r.k.e r.i.e) (Xy ((Xc h.g.e.length m.m.e r.k.e).length+(crL r.r.g.e.length r.i.e).length) (Xc ((Xc h.g.e.length m.m.e r.k.e).length+(crL r.r.g.e.length r.i.e).length) (cmL h.g.e.length r.r.g.e.length m.m.e r.k.e r.i.e) (ukL r.i.e))) (Xc ((Xc h.g.e.length m.m.e r.k.e).length+(crL r.r.g.e.length r.i.e).length) (cmL h.g.e.length r.r.g.e.length m.m.e r.k.e r.i.e) (ukL r.i.e)).length:=rfl
 rw[e1,e2,s.ce,hn,JN,s.de,s.se.urest]
 rfl
theorem StOk.ucr(s:StOk t r h m d):crL (Q3 t r h m d).r.g.n.length (Q3 t r h m d).i.n=crL m.m.n.length r.k.n∧crL (Q3 t r h m d).r.g.e.length (Q3 t r h m d).i.e=crL m.m.e.length r.k.e:=by
 have h1:(Q3 t r h m d).r.g.n.length=m.m.n.length:=by simp only[Q3,XD,X4]
 have h2:(Q3 t r h m d).r.g.e.length=m.m.e.length:=s.sm.le.symm
 rw[h1,h2]
 exact⟨Qd8 fun x=>s.sn.ui_mem,Qd8 fun x=>s.se.ui_mem⟩
theorem StOk.ulen(s:StOk t r h m d):(stN (Q3 t r h m d) (stA t r h m d) (Xt d)).length=h.g.n.length∧(Xr (Q3 t r h m d) (stA t r h m d) (XT r h m d).m (Xt d)).length=h.g.e.length:=by
 rw[YC,JN,s.ucr.1,s.ucr.2]
 have a:=s.sn.bk_n
 have b:=s.se.bk_n
 rw[←s.dn] at a
 rw[←s.de] at b
 simp only[Xt,Yp]
 exact⟨a,b⟩
theorem ZT(s:StOk t r h m d):(bkM h r m).n.length=h.g.n.length∧(bkM h r m).e.length=h.g.e.length:=by
 simp only[bkM,Qcz]
 exact⟨s.sn.bk_n,s.se.bk_n⟩
theorem StOk.uty(s:StOk t r h m d){j:Nat}(hj:j<h.g.n.length):∃x:Nat,gt (bkM h r m).n (j:Int)=x∧x<h.g.n.length∧gt (stN (Q3 t r h m d) (stA t r h m d) (Xt d)) (j:Int)=gt h.g.n (x:Int)∧
  gt (Xp t (Q3 t r h m d) (stA t r h m d) (Xt d)) (j:Int)=if j<d.n.length then gt (stA t r h m d).v (j:Int) else Zk t (gt h.g.n (x:Int)):=by
 have hb:=(s.sn.bk_mem (x:=gt (bkM h r m).n (j:Int))).1 (gt_mem (l:=(bkM h r m).n) (j:=(j:Int)) (by omega) (by rw[(ZT s).1];omega))
 obtain⟨x,hx⟩:∃x:Nat,gt (bkM h r m).n (j:Int)=x:=⟨_,(Int.toNat_of_nonneg hb.1).symm⟩
 have ld:(Xt d).n.length=d.n.length:=by simp [Xt,Yp]
 refine⟨x,hx,by omega,?_⟩
 have hj2:=hj
 rw[←s.ulen.1,YC,s.ucr.1,ld] at hj2
 rcases QcC hj2 with c|⟨k,hk,rfl⟩
 ·have hx2:gt d.n (j:Int)=x:=by
   rw[←hx,s.dn];exact (QbF (by rw[←s.dn];exact c)).symm
  rw[QaW (by rw[ld];exact c),Qea (by rw[ld];exact c),if_pos c]
  simp only[Xt,stA]
  rw[YO c,QaW c,hx2]
  exact⟨rfl,rfl⟩
 ·have e1:=QcA (n:=h.g.n.length) (im:=m.m.n) (kn:=r.k.n) hk
  have e2:=QgF (r:=Q3 t r h m d) (h:=stA t r h m d) (d:=Xt d) (j:=k) (by rw[s.ucr.1];exact hk)
  have e3:=Ql3 (t:=t) (r:=Q3 t r h m d) (h:=stA t r h m d) (d:=Xt d) (j:=k) (by rw[s.ucr.1];exact hk)
  rw[ld,s.ucr.1] at e2 e3
  rw[←s.dn] at e1
  obtain⟨y,hy,hy2,_⟩:=QbG hk
  have hx2:gt m.m.n (y:Int)=x:=by rw[←hx,←hy];exact e1.symm
  have hg:gt (Q3 t r h m d).r.g.n (y:Int)=gt h.g.n (x:Int):=by
   simp only[Q3,XD];rw[X5 hy2,hx2]
  rw[hy,hg] at e2 e3
  rw[e2,e3,if_neg (by omega)]
  exact⟨rfl,rfl⟩
theorem StOk.uat(s:StOk t r h m d){i:Nat}(hi:i<m.m.n.length):∃j:Nat,j<h.g.n.length∧gt (stC (Q3 t r h m d) (stA t r h m d) (XT r h m d).m (Xt d)).n (i:Int)=j∧gt (bkM h r m).n (j:Int)=gt m.m.n (i:Int):=by
 have e:=s.sn.bk_uc hi
 have hb:=s.sn.und.cm_bd hi
 have hn:=s.sn.bk_n
 have e2:gt (ucL h.g.n.length r.r.g.n.length m.m.n r.k.n r.i.n) (i:Int)<h.g.n.length:=by
  have c:crL m.m.n.length (uiL r.k.n r.i.n)=crL m.m.n.length r.k.n:=Qd8 fun x=>s.sn.ui_mem
  have:=hb.2.1
  rw[s.sn.urest,Yp,c,hn] at this
  exact this
 refine⟨(gt (ucL h.g.n.length r.r.g.n.length m.m.n r.k.n r.i.n) (i:Int)).toNat,?_,?_,?_⟩
 ·have:=hb.1
  unfold ucL at e2 ⊢
  omega
 ·rw[s.ucn];exact (Int.toNat_of_nonneg hb.1).symm
 ·rw[Int.toNat_of_nonneg (show 0≤gt (ucL h.g.n.length r.r.g.n.length m.m.n r.k.n r.i.n) (i:Int) from hb.1)];exact e
theorem StOk.bki(s:StOk t r h m d){j k:Nat}(hj:j<h.g.n.length)(hk:k<h.g.n.length)(e:gt (bkM h r m).n (j:Int)=gt (bkM h r m).n (k:Int)):j=k:=
 Zi s.sn.bk_nd (by have:=(ZT s).1;simp only[bkM] at this;omega) (by have:=(ZT s).1;simp only[bkM] at this;omega) e
theorem StOk.und(s:StOk t r h m d)(hl:(XV t r h m d m.m.n.length).length≤10):StOk t (Q3 t r h m d) (stA t r h m d) (XT r h m d) (Xt d) where
 ty:=s.ty
 ru:=s.uru hl
 hs:=s.ho
 sm:=s.usm
 jn:=fun e=>by
  simp only[Q3,Qk,Yy,Ql] at e
  exact e
 so:=rfl
 cx:=s.ucx
 c:=trivial
 s1:=fun x hx y hy e1 e2=>by
  obtain⟨i,k,hi,hk,_,rfl⟩:=unsL_mem.1 hx
  obtain⟨i',k',hi',hk',_,rfl⟩:=unsL_mem.1 hy
  simp only at e1 e2
  obtain⟨j,hj,a1,a2⟩:=s.uat hi
  obtain⟨j',hj',b1,b2⟩:=s.uat hi'
  have:j=j':=by omega
  subst this
  simp only[Q1]
  rw[if_pos (by decide),if_pos (by decide),←a2,←b2,e2]
 s2:=fun x hx=>by
  obtain⟨i,k,hi,hk,_,rfl⟩:=unsL_mem.1 hx
  obtain⟨j,hj,a1,a2⟩:=s.uat hi
  obtain⟨y,hy,hy2,ty,_⟩:=s.uty hj
  simp only[Q1]
  rw[a1,ty,if_pos (by decide),←a2,hy]
  unfold Jr at hk
  rw[←a2,hy] at hk
  exact s.hs.vb y hy2 k (by rw[s.hs.vl y hy2];exact hk)
 bn:=by rw[s.ulen.1];exact (XZ s.hs.g).1
 be:=by rw[s.ulen.2];exact (XZ s.hs.g).2.1
def Yl(t:Ty)(r:Ru)(h:Hs)(m:Mt)(d:Mo):Hs:=stA t (Q3 t r h m d) (stA t r h m d) (XT r h m d) (Xt d)
theorem StOk.tbk(s:StOk t r h m d){x:Int}(hx:x∈d.n):gt (bkM h r m).n (gt (stT h d).n x)=x∧∃j:Nat,j<d.n.length∧gt (stT h d).n x=j:=by
 obtain⟨f1,f2,f3⟩:=s.tin hx
 refine⟨?_,_,f2,f1⟩
 rw[f1]
 have:=QbF (n:=h.g.n.length) (im:=m.m.n) (kn:=r.k.n) (j:=Xq d.n x) (by rw[←s.dn];exact f2)
 rw[←s.dn,f3] at this
 exact this
theorem StOk.uedge(s:StOk t r h m d){j:Nat}(hj:j<h.g.e.length):(0≤gt (bkM h r m).e (j:Int)∧gt (bkM h r m).e (j:Int)<h.g.e.length)∧(gt (Yl t r h m d).g.e (j:Int)).t=(gt h.g.e (gt (bkM h r m).e (j:Int))).t∧
  gt (bkM h r m).n (gt (Yl t r h m d).g.e (j:Int)).f=(gt h.g.e (gt (bkM h r m).e (j:Int))).f∧gt (bkM h r m).n (gt (Yl t r h m d).g.e (j:Int)).o=(gt h.g.e (gt (bkM h r m).e (j:Int))).o:=by
 refine⟨(s.se.bk_mem (x:=gt (bkM h r m).e (j:Int))).1 (gt_mem (l:=(bkM h r m).e) (j:=(j:Int)) (by omega) (by rw[(ZT s).2];omega)),?_⟩
 have ld:(Xt d).e.length=d.e.length:=by simp [Xt,Yp]
 have hj2:=hj
 rw[←s.ulen.2,JN,s.ucr.2,ld] at hj2
 simp only[Yl,stA]
 rcases QcC hj2 with c|⟨k,hk,rfl⟩
 ·have hx2:gt (bkM h r m).e (j:Int)=gt d.e (j:Int):=by
   rw[s.de];exact QbF (by rw[←s.de];exact c)
  have hm:=gt_mem (l:=d.e) (j:=(j:Int)) (by omega) (by omega)
  obtain⟨p1,p2⟩:=s.pk.d _ hm
  obtain⟨a1,ja,ja1,ja2⟩:=s.tbk p1
  obtain⟨b1,jb,jb1,jb2⟩:=s.tbk p2
  have e1:=QcB (r:=Q3 t r h m d) (h:=stA t r h m d) (d:=Xt d) (mm:=(XT r h m d).m) (j:=j) (by rw[ld];exact c)
  simp only[Xt,stA] at e1
  rw[YO c,QcB c] at e1
  simp only at e1
  have ta:=s.utn ja1
  have tb:=s.utn jb1
  simp only[Xt,stA] at ta tb ⊢
  rw[ja2] at a1 e1
  rw[jb2] at b1 e1
  rw[ta,tb] at e1
  rw[e1,hx2]
  exact⟨rfl,a1,b1⟩
 ·have e1:=QcA (n:=h.g.e.length) (im:=m.m.e) (kn:=r.k.e) hk
  have e2:=QgG (r:=Q3 t r h m d) (h:=stA t r h m d) (d:=Xt d) (mm:=(XT r h m d).m) (j:=k) (by rw[s.ucr.2];exact hk)
  rw[ld,s.ucr.2] at e2
  rw[←s.de] at e1
  obtain⟨y,hy,hy2,_⟩:=QbG hk
  have hy3:y<r.l.g.e.length:=by rw[←s.sm.le];exact hy2
  have hg:(Q3 t r h m d).r.g.e=r.l.g.e:=rfl
  obtain⟨_,v2,v3⟩:=Zj s.ru.l.g (i:=(y:Int)) (by omega)
  obtain⟨a,ha,ea⟩:=gtI v2
  obtain⟨b,hb,eb⟩:=gtI v3
  obtain⟨_,q1,q2,q3⟩:=s.sm.ed y hy3
  obtain⟨ja,_,ja1,ja2⟩:=s.uat (i:=a) (by rw[s.sm.ln];exact ha)
  obtain⟨jb,_,jb1,jb2⟩:=s.uat (i:=b) (by rw[s.sm.ln];exact hb)
  rw[hy] at e1
  rw[hy,hg,ea,eb,ja1,jb1] at e2
  simp only[stA] at e2 ⊢
  rw[e2]
  have hx2:gt (bkM h r m).e ((d.e.length+k:Nat):Int)=gt m.m.e (y:Int):=e1
  rw[hx2]
  simp only
  rw[ja2,jb2,←ea,←eb]
  exact⟨q1,q2,q3⟩
theorem StOk.urow(s:StOk t r h m d)(hl:(XV t r h m d m.m.n.length).length≤10){j:Nat}(hj:j<h.g.n.length):gt (Yl t r h m d).v (j:Int)=gt h.v (gt (bkM h r m).n (j:Int)):=by
 have su:=s.und hl
 obtain⟨x,hx,hx2,ty,v0⟩:=s.uty hj
 have hj2:j<(stN (Q3 t r h m d) (stA t r h m d) (Xt d)).length:=by rw[s.ulen.1];exact hj
 have l1:=su.rl hj2
 have l2:=(su.row0 j hj2).2.2.1
 rw[ty] at l2
 have l3:=s.hs.vl x hx2
 rw[hx]
 refine Qaa (by simp only[Yl];rw[l1,l2,l3]) fun q hq=>?_
 have hq0:q<(gt (Xp t (Q3 t r h m d) (stA t r h m d) (Xt d)) (j:Int)).length:=by simp only[Yl] at hq;rw[l1] at hq;exact hq
 have hq2:q<(gt h.v (x:Int)).length:=by rw[l3,←l2];exact hq0
 have hj3:j<(Xp t (Q3 t r h m d) (stA t r h m d) (Xt d)).length:=by rw[JO,←YC];exact hj2
 refine Qar (p:=fun v=>v=gt (gt h.v (x:Int)) (q:Int)) _ _ su.c0 hj3 hq0 (fun y hy e1 e2=>?_) ?_
 ·obtain⟨i,k,hi,hk,_,rfl⟩:=unsL_mem.1 hy
  obtain⟨j',hj',a1,a2⟩:=s.uat hi
  simp only at e1 e2
  have:j'=j:=by omega
  subst this
  simp only[Q1]
  rw[if_pos (by decide),←a2,hx,e2]
 ·by_cases ex:∃y∈(Q3 t r h m d).r.s,gt (stC (Q3 t r h m d) (stA t r h m d) (XT r h m d).m (Xt d)).n y.nd=(j:Int)∧y.ak=(q:Int)
  ·exact .inl ex
  ·refine .inr ?_
   have own:∀i:Nat,i<m.m.n.length→gt m.m.n (i:Int)=x→gt (gt h.v (x:Int)) (q:Int)=JP t r h m d i q:=fun i hi e=>by
    refine Classical.byContradiction fun hn=>ex ⟨⟨i,q, -1,gt (gt h.v (gt m.m.n (i:Int))) (q:Int)⟩,unsL_mem.2 ⟨i,q,hi,?_,by rw[e];exact hn,rfl⟩,?_,rfl⟩
    ·unfold Jr;rw[e,←l3];exact hq2
    ·obtain⟨j',hj',a1,a2⟩:=s.uat hi
     have:j'=j:=s.bki hj' hj (by rw[a2,e,hx])
     rw[←this];exact a1
   rw[v0]
   by_cases c:j<d.n.length
   ·rw[if_pos c]
    have hd:gt d.n (j:Int)=x:=by
     rw[←hx,s.dn];exact (QbF (by rw[←s.dn];exact c)).symm
    have hxd:(x:Int)∈d.n:=by rw[←hd];exact gt_mem (by omega) (by omega)
    by_cases hi:∃i:Nat,i<m.m.n.length∧gt m.m.n (i:Int)=x
    ·obtain⟨i,hi,e⟩:=hi
     have h1:=own i hi e
     have hk:(i:Int)∈r.k.n:=(s.sn.kept hi).1 (by rw[e,←s.dn];exact hxd)
     unfold JP at h1
     rw[if_pos hk,e] at h1
     have ht:gt (stT h d).n (x:Int)=j:=by
      rw[(s.tin hxd).1,←hd,QaP s.pk.n.p c]
     rw[ht] at h1
     exact h1.symm
    ·have hjX:j<(stN r h d).length:=by rw[YC];omega
     have r0:gt (Xp t r h d) (j:Int)=gt h.v (x:Int):=by rw[Qea c,hd]
     refine Qar (p:=fun v=>v=gt (gt h.v (x:Int)) (q:Int)) _ _ s.c0 (by rw[JO,←YC];exact hjX) (by rw[r0];exact hq2) (fun y hy e1 e2=>?_) (.inr (by rw[r0]))
     exfalso
     obtain⟨i,hi2,ei⟩:=gtI (s.ru.rs y hy).nd
     rw[ei] at e1
     have hb:=s.sn.cm_bd hi2
     rw[←s.cn,←s.dn,e1] at hb
     have hin:=hb.2.2.2 (by omega)
     obtain⟨a,ha,ea⟩:=Xk hin
     obtain⟨z,hz,_,hzd,c1,_⟩:=s.cin ha
     rw[ea,e1] at c1
     obtain⟨_,f2⟩:=Z8 s.pk.n.p hzd
     rw[←c1,hd] at f2
     have il:=s.sn.il
     obtain⟨k,hk,ek⟩:=s.sn.knat (a:=a) (by omega)
     exact hi ⟨k,hk,by rw[←ek,hz,f2]⟩
   ·rw[if_neg c]
    have hj4:=hj2
    rw[YC,s.ucr.1] at hj4
    have ld:(Xt d).n.length=d.n.length:=by simp [Xt,Yp]
    rw[ld] at hj4
    obtain⟨k,hk,rfl⟩:∃k:Nat,k<(crL m.m.n.length r.k.n).length∧j=d.n.length+k:=⟨j-d.n.length,by omega,by omega⟩
    obtain⟨y,hy,hy2,hy3⟩:=QbG hk
    have e1:=QcA (n:=h.g.n.length) (im:=m.m.n) (kn:=r.k.n) hk
    rw[←s.dn,hy] at e1
    have hyx:gt m.m.n (y:Int)=x:=by rw[←hx];exact e1.symm
    have h1:=own y hy2 hyx
    unfold JP at h1
    rw[if_neg hy3,hyx] at h1
    unfold Zk
    rw[ZB (by omega)]
    exact h1.symm
theorem StOk.iso(s:StOk t r h m d)(hl:(XV t r h m d m.m.n.length).length≤10):IsoH (Yl t r h m d) h (bkM h r m) where
 ok:=by
  have u1:(Yl t r h m d).g.n.length=h.g.n.length:=s.ulen.1
  have u2:(Yl t r h m d).g.e.length=h.g.e.length:=s.ulen.2
  refine⟨(s.und hl).vg,s.hs.g,(ZT s).1.trans u1.symm,(ZT s).2.trans u2.symm,fun i hi=>?_,fun i hi=>s.uedge (by rw[←u2];exact hi)⟩
  obtain⟨x,hx,hx2,ty,_⟩:=s.uty (j:=i) (by rw[←u1];exact hi)
  rw[hx]
  exact⟨by omega,ty.symm⟩
 n:=⟨(ZT s).1,fun i hi=>(s.sn.bk_mem (x:=gt (bkM h r m).n (i:Int))).1 (gt_mem (l:=(bkM h r m).n) (j:=(i:Int)) (by omega) (by rw[(ZT s).1];omega)),fun i k hi hk e=>s.bki hi hk e⟩
 e:=⟨(ZT s).2,fun i hi=>(s.se.bk_mem (x:=gt (bkM h r m).e (i:Int))).1 (gt_mem (l:=(bkM h r m).e) (j:=(i:Int)) (by omega) (by rw[(ZT s).2];omega)),fun i k hi hk e=>
  Zi s.se.bk_nd (by have:=(ZT s).2;simp only[bkM] at this;omega) (by have:=(ZT s).2;simp only[bkM] at this;omega) e⟩
 v:=fun i hi=>s.urow hl (by have u1:(Yl t r h m d).g.n.length=h.g.n.length:=s.ulen.1;rw[←u1];exact hi)
end
end Go.Am
