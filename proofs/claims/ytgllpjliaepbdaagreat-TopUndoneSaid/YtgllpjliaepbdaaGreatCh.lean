/- Contracts and what they rest on: Ch. -/
import Derived.Test.YtgllpjliaepbdaaGreatCg
import Derived.Test.YtgllpjliaepbdaaGreatAmPe
import Derived.Test.YtgllpjliaepbdaaGreatCf
set_option linter.unusedVariables false
set_option linter.unusedSimpArgs false
set_option linter.unnecessarySimpa false
open Go Go.Proofs
namespace Go.Am
set_option maxRecDepth 100000
attribute [local irreducible] W
section
variable {t:Ty}
theorem Qvt(g:G)(v:List (List Int))(h1:g.n.length≤1000)(h2:g.e.length≤1000)(h3:v.length≤1000)(h4:∀r∈v,r.length≤1000):FT 144 [.agg [.lst 1 (QR g.n),.lst 3 (eds g.e),.lst 1 (X8 v)]] (.agg [.arr 1 (QR g.n),.arr 3 (eds g.e),.arr 1 (X8 v)]):=by
 have r1:=Z4 g.n (by omega)
 have r2:=QfZ g.e (by omega)
 refine fo [[(3,none,[],true),(6,(some 48),[3],false)],[(1,none,[],true),(4,none,[1],false),(5,none,[1],false)]] ?_
 conv in fnC ..=>reduce
 simp(disch:=omega)only[go_sem,ayS]
 refine QQ r1 ?_
 simp(disch:=omega)only[go_sem,ayS]
 refine QQ r2 ?_
 simp(disch:=omega)only[go_sem,ayS]
 refine Q8 19 v.length (fun _=>[]) (fun i=>[(6,.arr 1 (X8 (v.take i))),(7,.box [.sl 4 0 g.n.length,.sl 5 0 g.e.length,.sl 6 0 i])]) (fun _=>True) (by simp(disch:=omega)only[go_sem];rfl) trivial fun i hi _=>?_
 have hl:(v.take i).length=i:=by simp;omega
 simp(disch:=omega)only[go_sem]
 refine QT (fun c=>?_) (fun c=>?_)
 ·have:=h4 _ (gt_mem (l:=v) (j:=((i:Nat):Int)) (by omega) (by omega))
  simp(disch:=omega)only[go_sem,ayS,hl,Qky]
  exact⟨i+1,by rw[Xm (by omega)];simp,by omega,by omega⟩
 ·obtain rfl:i=v.length:=by omega
  rw[List.take_length] at*
  simp(disch:=omega)only[go_sem,ayS,hl]
def stB(r:Ru)(m:Mt)(b:Hs)(g:G)(X:D)(tr c:Mo):List D:=
 ruL r++([.arr 1 (QR m.m.n),.arr 1 (QR m.m.e),.arr 1 (QR m.v),.arr 1 (QR b.g.n),.arr 3 (eds b.g.e),.arr 1 (X8 b.v),.arr 1 (QR g.n),.arr 3 (eds g.e),X,.arr 1 (QR tr.n),.arr 1 (QR tr.e),.arr 1 (QR c.n),.arr 1 (QR c.e)])
def stK(r:Ru)(m:Mt)(b:Hs)(x y z:Nat)(tr c:Mo):List D:=[.str r.nm,.lst 1 (QR r.l.g.n),.lst 3 (eds r.l.g.e),.lst 4 (XI r.l.s),.int .i64 r.l.v,.lst 5 (Ye r.l.t),.lst 1 (QR r.r.g.n),.lst 3 (eds r.r.g.e),.lst 4 (XI r.r.s),.int .i64 r.r.v,.lst 5 (Ye r.r.t),.lst 1 (QR r.k.n),.lst 1 (QR r.k.e),.lst 1 (QR r.i.n),.lst 1 (QR r.i.e),.bool r.inj,.int .i64 (fbk r.c),.lst 9 (fbs r.c),.lst 1 (QR m0.n),.lst 1 (QR m0.e),.lst 1 (QR g0.n),.lst 3 (eds g0.e),.lst 4 [],.int .i64 0,.lst 5 [],.sl 0 0 m.m.n.length,.sl 1 0 m.m.e.length,.sl 2 0 m.v.length,.sl 3 0 b.g.n.length,.sl 4 0 b.g.e.length,.sl 5 0 b.v.length,.sl 6 0 x,.sl 7 0 y,.sl 8 0 z,.sl 9 0 tr.n.length,.sl 10 0 tr.e.length,.sl 11 0 c.n.length,.sl 12 0 c.e.length]
theorem QgJ(r:Ru)(m:Mt)(b:Hs)(g:G){X:D}(hX:XU X=true)(tr c:Mo):XK (.box (stB r m b g X tr c))=true:=by
 have hr:=ru1 r
 simp only[Q6,XK] at hr ⊢
 unfold stB
 rw[List.all_append,hr]
 simp only[List.all_cons,List.all_nil,hX]
 rfl
def keE(g:G)(T:Mo)(l:List Int)(i:Nat):List E:=(l.take i).map fun k=>⟨(gt g.e k).t,gt T.n (gt g.e k).f,gt T.n (gt g.e k).o⟩
theorem Qvu(g:G)(T:Mo){l:List Int}{i:Nat}(h:i≤l.length):(keE g T l i).length=i:=by simp [keE];omega
theorem Qvv(g:G)(T:Mo){l:List Int}{i:Nat}(h:i<l.length):keE g T l (i+1)=keE g T l i++[⟨(gt g.e (gt l (i:Int))).t,gt T.n (gt g.e (gt l (i:Int))).f,gt T.n (gt g.e (gt l (i:Int))).o⟩]:=by
 unfold keE;rw[Xm h];simp
set_option maxHeartbeats 8000000 in
theorem Qvw{r:Ru}{m:Mt}{b:Hs}{d:Mo}(s:StOk t r b m d):FC Tryz.prog 147 [tyD t,.box (stB r m b g0 (.arr 1 []) (stT b d) (stC r b m.m d)),mD d] (.tup []) [(1,.box (stB r m b ⟨stN r b d,Xr r b m.m d⟩ (nsD (Xp t r b d)) (stT b d) (stC r b m.m d)))]:=by
 have ho:XK (.box (stB r m b g0 (.arr 1 []) (stT b d) (stC r b m.m d)))=true:=QgJ _ _ _ _ rfl _ _
 have h:=s.ty
 have lb:=QX s.hs.g
 have lr:=QX s.ru.rg
 have lv:=s.hs.ln
 have ld:=s.pk.len
 have cl:=s.cl
 have eN:stN r b d=thr d.n b.g.n++XJ r r.r.g.n.length:=rfl
 have eV:Xp t r b d=XH d.n b.v++X9 t r r.r.g.n.length:=rfl
 have eE:Xr r b m.m d=keE b.g (stT b d) d.e d.e.length++Yg r (stC r b m.m d) r.r.g.e.length:=by unfold keE;rw[List.take_length];rfl
 rw[eN,eV,eE]
 have tl:(stT b d).n.length=b.g.n.length:=by simp [stT,Xy]
 have cN:∀i:Nat,i<r.r.g.n.length→if (i:Int)∈r.i.n then gt (stC r b m.m d).n (i:Int)<d.n.length else gt (stC r b m.m d).n (i:Int)=d.n.length+((XJ r i).length:Int):=fun i hi=>by
  have hb:=s.sn.cm_bd hi
  rw[←s.cn,←s.dn] at hb
  split
  ·rename_i c;exact hb.2.2.1 c
  ·rename_i c
   have:=(s.sn.cm_cr hi c).1
   rw[←s.cn,←s.dn,Qcy (Nat.le_of_lt hi)] at this
   simp only[XJ,X4]
   omega
 have cE:∀i:Nat,i<r.r.g.e.length→if (i:Int)∈r.i.e then gt (stC r b m.m d).e (i:Int)<d.e.length else gt (stC r b m.m d).e (i:Int)=d.e.length+((Yg r (stC r b m.m d) i).length:Int):=fun i hi=>by
  have hb:=s.se.cm_bd hi
  rw[←s.ce,←s.de] at hb
  split
  ·rename_i c;exact hb.2.2.1 c
  ·rename_i c
   have:=(s.se.cm_cr hi c).1
   rw[←s.ce,←s.de,Qcy (Nat.le_of_lt hi)] at this
   simp only[Yg,QC]
   omega
 have hdn:∀i:Nat,i<d.n.length→0≤gt d.n (i:Int)∧gt d.n (i:Int)<b.g.n.length:=fun i hi=>s.pk.n.b _ (gt_mem (by omega) (by omega))
 have hde:∀i:Nat,i<d.e.length→0≤gt d.e (i:Int)∧gt d.e (i:Int)<b.g.e.length:=fun i hi=>s.pk.e.b _ (gt_mem (by omega) (by omega))
 generalize stT b d=T at*
 generalize stC r b m.m d=C at*
 refine fo [[(9,none,[],true),(12,none,[9],false)],[(6,none,[],true),(13,none,[6],false)],[(5,none,[],true),(8,(some 128),[],false),(10,(some 896),[],false),(11,(some 1920),[],false),(12,none,[5],false),(13,none,[5],false)],[(6,none,[],true),(28,none,[6],false)],[],[(5,none,[],true),(8,none,[5],false),(9,none,[5],false)],[],[(6,none,[],true),(28,none,[6],false)]] ?_ (hok:=(by simp only[List.all_cons,List.all_nil,ho];rfl))
 conv in fnC ..=>reduce
 simp(disch:=omega)only[go_sem,ayS,stB,ruL,paL,fbE,cyL,tyD,mD]
 refine Q8 30 d.n.length (fun _=>[]) (fun i=>[(6,.arr 1 (QR (thr (d.n.take i) b.g.n))),(8,nsE (XH (d.n.take i) b.v)),(13,.box (stK r m b i 0 i T C))]) (fun _=>True) (by simp(disch:=omega)only[go_sem];rfl) trivial fun i hi _=>?_
 have hL:(thr (d.n.take i) b.g.n).length=i:=by simp [thr];omega
 have hV:(XH (d.n.take i) b.v).length=i:=by simp [XH];omega
 rcases Qgz (XH (d.n.take i) b.v) with⟨z1,z2⟩|⟨z1,z2⟩<;>(
  rw[z2]
  simp(disch:=omega)only[go_sem,stK]
  refine QT (fun c=>?_) (fun c=>?_)
  ·obtain⟨b1,b2⟩:=hdn i (by omega)
   obtain⟨x,hx⟩:∃x:Nat,gt d.n (i:Int)=x:=⟨_,(Int.toNat_of_nonneg b1).symm⟩
   have hq:=s.hs.vl x (by omega)
   have h6:=X7 h (s.hs.ty.n _ (gt_mem (l:=b.g.n) (j:=(x:Int)) (by omega) (by omega))).2
   have sL:thr (d.n.take (i+1)) b.g.n=thr (d.n.take i) b.g.n++[gt b.g.n (x:Int)]:=by rw[Xm (by omega),hx];simp [thr]
   have sV:XH (d.n.take (i+1)) b.v=XH (d.n.take i) b.v++[gt b.v (x:Int)]:=by rw[Xm (by omega),hx];simp [XH]
   have z3:nsE (XH (d.n.take (i+1)) b.v)=.nst 1 (nsL (XH (d.n.take i) b.v++[gt b.v (x:Int)])) none:=by rw[sV];exact Qcs (by simp)
   simp(disch:=omega)only[go_sem,ayS,hL,hV,hx]
   exact⟨i+1,by rw[z3,sL];first|(simp [stK];done)|(have hz:=List.length_eq_zero_iff.1 z1;simp [stK,hz,nsL];done)|(have hz:=List.length_eq_zero_iff.1 z1;simp [stK,hz,nsL];omega),by omega,by omega⟩
  ·obtain rfl:i=d.n.length:=by omega
   rw[List.take_length] at*
   simp(disch:=omega)only[go_sem,ayS,hL,hV]
   refine Q8 75 d.e.length (fun _=>[]) (fun k=>[(7,.arr 3 (eds (keE b.g T d.e k))),(13,.box (stK r m b d.n.length k d.n.length T C))]) (fun _=>True) (by simp(disch:=omega)only[go_sem];rfl) trivial fun k hk _=>?_
   have hE:=Qvu b.g T hk
   simp(disch:=omega)only[go_sem,stK]
   refine QT (fun c=>?_) (fun c=>?_)
   ·obtain⟨b1,b2⟩:=hde k (by omega)
    obtain⟨_,⟨f1,f2⟩,o1,o2⟩:=Zj s.hs.g ⟨b1,b2⟩
    have sE:=Qvv b.g T (l:=d.e) (i:=k) (by omega)
    simp(disch:=omega)only[go_sem,ayS,hE]
    exact⟨k+1,by rw[sE];simp [stK],by omega,by omega⟩
   ·obtain rfl:k=d.e.length:=by omega
    simp(disch:=omega)only[go_sem,ayS,hE]
    refine Q8 123 r.r.g.n.length (fun _=>[]) (fun i=>[(6,.arr 1 (QR (thr d.n b.g.n++XJ r i))),(8,nsE (XH d.n b.v++X9 t r i)),(13,.box (stK r m b (d.n.length+(XJ r i).length) d.e.length (d.n.length+(XJ r i).length) T C))]) (fun _=>True) (by simp(disch:=omega)only[go_sem,show XJ r 0=[] from rfl,show X9 t r 0=[] from rfl,List.append_nil,z2];try rfl) trivial fun i hi _=>?_
    have gl:=QlN r i
    have gv:=QlO t r i
    have sN:=QlK r i
    have sV:=QlL t r i
    have hw:(XH d.n b.v++X9 t r i).length=d.n.length+(XJ r i).length:=by rw[Qj,gv,hV]
    have hn:(thr d.n b.g.n++XJ r i).length=d.n.length+(XJ r i).length:=by rw[Qj,hL]
    have c1:=cl.1
    rcases Qgz (XH d.n b.v++X9 t r i) with⟨y1,y2⟩|⟨y1,y2⟩<;>first|(exfalso;omega)|(
     rw[y2]
     simp(disch:=omega)only[go_sem,stK]
     refine QT (fun c=>?_) (fun c=>?_)
     ·have cNi:=cN i (by omega)
      cases dd:decide ((i:Int)∈r.i.n)<;>rw[dd] at sN sV
      ·rw[if_neg (of_decide_eq_false dd)] at cNi
       have hty:=s.ru.rt.n _ (gt_mem (l:=r.r.g.n) (j:=(i:Int)) (by omega) (by omega))
       have rl:=Qva h hty
       have g6:=X7 h hty.2
       have l6:=QgI t (gt r.r.g.n (i:Int))
       simp only[tyD] at rl
       have eN':XJ r (i+1)=XJ r i++[gt r.r.g.n (i:Int)]:=sN
       have eV':X9 t r (i+1)=X9 t r i++[Zk t (gt r.r.g.n (i:Int))]:=sV
       have z3:nsE (XH d.n b.v++X9 t r (i+1))=.nst 1 (nsL (XH d.n b.v++X9 t r i++[Zk t (gt r.r.g.n (i:Int))])) none:=by
        rw[eV',←Qx];exact Qcs (by simp;omega)
       simp(disch:=omega)only[go_sem,ayS,hn,hw]
       refine QQ rl ?_
       simp(disch:=omega)only[go_sem,ayS,hn,hw]
       exact⟨i+1,by rw[z3,eN'];first|(simp [stK];omega)|(have hz:=List.length_eq_zero_iff.1 y1;simp [stK,hz,nsL];omega),by omega,by omega⟩
      ·rw[if_pos (of_decide_eq_true dd)] at cNi
       have eN':XJ r (i+1)=XJ r i:=sN
       have eV':X9 t r (i+1)=X9 t r i:=sV
       simp(disch:=omega)only[go_sem,ayS,hn,hw]
       exact⟨i+1,by rw[eN',eV',y2];simp [stK],by omega,by omega⟩
     ·obtain rfl:i=r.r.g.n.length:=by omega
      simp(disch:=omega)only[go_sem,ayS,hn,hw]
      refine Q8 176 r.r.g.e.length (fun _=>[]) (fun k=>[(7,.arr 3 (eds (keE b.g T d.e d.e.length++Yg r C k))),(13,.box (stK r m b (d.n.length+(XJ r r.r.g.n.length).length) (d.e.length+(Yg r C k).length) (d.n.length+(XJ r r.r.g.n.length).length) T C))]) (fun _=>True) (by simp(disch:=omega)only[go_sem,show Yg r C 0=[] from rfl,List.append_nil];try rfl) trivial fun k hk _=>?_
      have gE:=QlP r C k
      have he:(keE b.g T d.e d.e.length++Yg r C k).length=d.e.length+(Yg r C k).length:=by rw[Qj,hE]
      have sE:=QlM r C k
      have c2:=cl.2
      simp(disch:=omega)only[go_sem,stK]
      refine QT (fun c=>?_) (fun c=>?_)
      ·have cEi:=cE k (by omega)
       obtain⟨_,⟨f1,f2⟩,o1,o2⟩:=Zj s.ru.rg (i:=(k:Int)) (by omega)
       cases dd:decide ((k:Int)∈r.i.e)<;>rw[dd] at sE
       ·rw[if_neg (of_decide_eq_false dd)] at cEi
        have eE':Yg r C (k+1)=_:=sE
        simp(disch:=omega)only[go_sem,ayS,he]
        exact⟨k+1,by rw[eE'];simp [stK];omega,by omega,by omega⟩
       ·rw[if_pos (of_decide_eq_true dd)] at cEi
        have eE':Yg r C (k+1)=Yg r C k:=sE
        simp(disch:=omega)only[go_sem,ayS,he]
        exact⟨k+1,by rw[eE'];simp [stK],by omega,by omega⟩
      ·obtain rfl:k=r.r.g.e.length:=by omega
       simp(disch:=omega)only[go_sem,ayS,hn,hw,he]
       first|(rw[ZR y1];done)|(rw[List.length_eq_zero_iff.1 y1];rfl)))
def hsZ:D:=.agg [.arr 1 [],.arr 3 [],.arr 1 []]
structure PuOk(t:Ty)(g:G)(v:List (List Int))(c vs:List Int)(x:Slo):Prop where
 nd:0≤x.nd∧x.nd<c.length
 cn:0≤gt c x.nd∧gt c x.nd<g.n.length
 ak:0≤x.ak∧x.ak<(Q0 t (gt g.n (gt c x.nd))).length
 rl:(gt v (gt c x.nd)).length=(Q0 t (gt g.n (gt c x.nd))).length
 vr: -1≤x.vr∧x.vr<vs.length
 ad: -100≤x.ad∧x.ad≤100
def cfS(c vs:List Int)(x y:Slo):Prop:=gt c x.nd=gt c y.nd∧x.ak=y.ak∧Q1 x.vr x.ad vs≠Q1 y.vr y.ad vs
def rgS(t:Ty)(g:G)(c vs:List Int)(x:Slo):Prop:=(gt (Q0 t (gt g.n (gt c x.nd))) x.ak).lo≤Q1 x.vr x.ad vs∧Q1 x.vr x.ad vs≤(gt (Q0 t (gt g.n (gt c x.nd))) x.ak).hi
instance (c vs:List Int) (x y:Slo):Decidable (cfS c vs x y):=inferInstanceAs (Decidable (_∧_∧¬_))
instance (t:Ty) (g:G) (c vs:List Int) (x:Slo):Decidable (rgS t g c vs x):=inferInstanceAs (Decidable (_∧_))
def puE(t:Ty)(g:G)(c vs:List Int)(l:List Slo):Int:=if ∃x∈l,∃y∈l,cfS c vs x y then 11 else if ∃x∈l,¬rgS t g c vs x then 6 else 0
section
variable {g:G} {c vs:List Int} {l:List Slo}
theorem Ql8(a b:List Slo)(V:List (List Int)):Yk c vs (a++b) V=Yk c vs b (Yk c vs a V):=by
 induction a generalizing V with
 |nil=>rfl
 |cons x a ih=>exact ih _
theorem Qvx{i k:Nat}(hi:i<l.length)(hk:k<l.length)(h:cfS c vs (gt l (k:Int)) (gt l (i:Int))):puE t g c vs l=11:=by
 unfold puE
 rw[if_pos ⟨_,gt_mem (by omega) (by omega),_,gt_mem (by omega) (by omega),h⟩]
theorem Qvy(h:∀a b:Nat,b<a→a<l.length→¬cfS c vs (gt l (b:Int)) (gt l (a:Int))):∀x∈l,∀y∈l,¬cfS c vs x y:=fun x hx y hy e=>by
 obtain⟨i,hi,rfl⟩:=Xk hx
 obtain⟨k,hk,rfl⟩:=Xk hy
 rcases Nat.lt_trichotomy i k with q|q|q
 ·exact h k i q hk e
 ·subst q;exact e.2.2 rfl
 ·exact h i k q hi ⟨e.1.symm,e.2.1.symm,fun z=>e.2.2 z.symm⟩
theorem Qvz(h:∀x∈l,∀y∈l,¬cfS c vs x y){i:Nat}(hi:i<l.length)(hr:¬rgS t g c vs (gt l (i:Int))):puE t g c vs l=6:=by
 unfold puE
 rw[if_neg fun⟨x,hx,y,hy,e⟩=>h x hx y hy e,if_pos ⟨_,gt_mem (by omega) (by omega),hr⟩]
theorem Ql9(h:∀x∈l,∀y∈l,¬cfS c vs x y)(hr:∀x∈l,rgS t g c vs x):puE t g c vs l=0:=by
 unfold puE
 rw[if_neg fun⟨x,hx,y,hy,e⟩=>h x hx y hy e,if_neg fun⟨x,hx,e⟩=>e (hr x hx)]
theorem QvA(h:puE t g c vs l=0):(∀x∈l,∀y∈l,¬cfS c vs x y)∧∀x∈l,rgS t g c vs x:=by
 unfold puE at h
 split at h
 ·cases h
 ·rename_i h1
  split at h
  ·cases h
  ·rename_i h2
   exact⟨fun x hx y hy e=>h1 ⟨x,hx,y,hy,e⟩,fun x hx=>Classical.byContradiction fun e=>h2 ⟨x,hx,e⟩⟩
end
set_option maxHeartbeats 8000000 in
theorem QvB(h:TyOk t){r:Ru}(hr:RuOk t r)(g:G)(v:List (List Int))(cm:Mo)(vs:List Int)(lg:g.n.length≤1000∧g.e.length≤1000)(hy:∀x∈g.n,IsT t x)(hv:v.length=g.n.length)(hp:0<v.length)(hc:cm.n.length≤1000)(hl:vs.length≤100)(hb:∀x∈vs, -1000≤x∧x≤1000)(ho:∀x∈r.r.s,PuOk t g v cm.n vs x):
  FT 135 [tyD t,Q6 r,.agg [.arr 1 (QR g.n),.arr 3 (eds g.e),.nst 1 (nsA v)],mD cm,.lst 1 (QR vs)] (.tup [if puE t g cm.n vs r.r.s=0 then .agg [.arr 1 (QR g.n),.arr 3 (eds g.e),nsD (Yk cm.n vs r.r.s v)] else hsZ,.int .i64 (puE t g cm.n vs r.r.s)]):=by
 have lr:=hr.rl
 refine fo [[],[],[],[(4,none,[],true),(7,(some 96),[4],false),(9,(some 480),[4],false)]] ?_ (hok:=(by simp only[List.all_cons,List.all_nil,Bool.and_true,ru1,QlJ];first|done|rfl))
 conv in fnC ..=>reduce
 simp(disch:=omega)only[go_sem,ayS,tyD,Q6,ruL,paL,fbE,cyL,mD]
 have hT:∀i:Nat,i<r.r.s.length→FT 215 [.agg [.int .i64 (gt r.r.s (i:Int)).vr,.int .i64 (gt r.r.s (i:Int)).ad],.lst 1 (QR vs)] (.tup [.int .i64 (Q1 (gt r.r.s (i:Int)).vr (gt r.r.s (i:Int)).ad vs),.int .i64 0]):=fun i hi=>by
  have:=ho _ (gt_mem (l:=r.r.s) (j:=(i:Int)) (by omega) (by omega))
  exact Qtf this.vr.1 this.vr.2 hl (by have:=this.ad;omega) hb
 have hO:∀i:Nat,i<r.r.s.length→PuOk t g v cm.n vs (gt r.r.s (i:Int)):=fun i hi=>ho _ (gt_mem (by omega) (by omega))
 generalize r.r.s=l at*
 refine Q8 13 l.length (fun _=>[]) (fun _=>[]) (fun i=>∀a b:Nat,b<a→a<i→¬cfS cm.n vs (gt l (b:Int)) (gt l (a:Int))) rfl (fun a b h1 h2=>absurd h2 (Nat.not_lt_zero _)) fun i hi hI=>?_
 simp(disch:=omega)only[go_sem]
 refine QT (fun c=>?_) (fun c=>?_)
 ·have oi:=hO i (by omega)
  obtain⟨o1,o2,o3,o4,o5,o6⟩:=oi
  simp(disch:=omega)only[go_sem,ayS,slD]
  refine QQ (hT i (by omega)) ?_
  simp(disch:=omega)only[go_sem,ayS]
  refine Q8 16 i (fun _=>[]) (fun _=>[]) (fun k=>∀b:Nat,b<k→¬cfS cm.n vs (gt l (b:Int)) (gt l (i:Int))) rfl (fun b h1=>absurd h1 (Nat.not_lt_zero _)) fun k hk hK=>?_
  simp(disch:=omega)only[go_sem]
  refine QT (fun c=>?_) (fun c=>?_)
  ·have ok:=hO k (by omega)
   obtain⟨q1,q2,q3,q4,q5,q6⟩:=ok
   simp(disch:=omega)only[go_sem,ayS,slD]
   refine QQ (hT k (by omega)) ?_
   have fin:¬cfS cm.n vs (gt l (k:Int)) (gt l (i:Int))→∀b:Nat,b<k+1→¬cfS cm.n vs (gt l (b:Int)) (gt l (i:Int)):=fun hn b hb=>by
    by_cases e:b=k
    ·subst e;exact hn
    ·exact hK b (by omega)
   by_cases e1:gt cm.n (gt l (k:Int)).nd=gt cm.n (gt l (i:Int)).nd
   ·by_cases e2:(gt l (k:Int)).ak=(gt l (i:Int)).ak
    ·by_cases e3:Q1 (gt l (i:Int)).vr (gt l (i:Int)).ad vs=Q1 (gt l (k:Int)).vr (gt l (k:Int)).ad vs
     ·simp(disch:=omega)only[go_sem,ayS,slD]
      exact⟨k+1,by simp,⟨by omega,fin fun e=>e.2.2 e3.symm⟩,by omega⟩
     ·have hE:puE t g cm.n vs l=11:=Qvx (i:=i) (k:=k) (by omega) (by omega) ⟨e1,e2,fun e=>e3 e.symm⟩
      simp(disch:=omega)only[go_sem,ayS,slD,hE]
      rfl
    ·simp(disch:=omega)only[go_sem,ayS,slD]
     exact⟨k+1,by simp,⟨by omega,fin fun e=>e2 e.2.1⟩,by omega⟩
   ·simp(disch:=omega)only[go_sem,ayS,slD]
    exact⟨k+1,by simp,⟨by omega,fin fun e=>e1 e.1⟩,by omega⟩
  ·obtain rfl:k=i:=by omega
   simp(disch:=omega)only[go_sem,ayS]
   refine⟨k+1,by simp,⟨by omega,fun a b h1 h2=>?_⟩,by omega⟩
   by_cases e:a=k
   ·subst e;exact hK b h1
   ·exact hI a b h1 (by omega)
 ·obtain rfl:i=l.length:=by omega
  have hC:=Qvy hI
  simp(disch:=omega)only[go_sem,ayS]
  refine Q8 19 l.length (fun _=>[]) (fun i=>[(3,.nst 1 (nsL (Yk cm.n vs (l.take i) v)) none)]) (fun i=>∀a:Nat,a<i→rgS t g cm.n vs (gt l (a:Int))) rfl (fun a h1=>absurd h1 (Nat.not_lt_zero _)) fun i hi hR=>?_
  have oc:∀x∈l.take i,0≤gt cm.n x.nd:=fun x hx=>(ho x (Qw hx)).cn.1
  have pl:(Yk cm.n vs (l.take i) v).length=v.length:=QaX _ _
  have pr:∀j:Nat,j<v.length→(gt (Yk cm.n vs (l.take i) v) (j:Int)).length=(gt v (j:Int)).length:=fun j hj=>QaY _ _ oc hj
  have pn:i<l.length→Yk cm.n vs (l.take (i+1)) v=Z6 (Yk cm.n vs (l.take i) v) (gt cm.n (gt l (i:Int)).nd) (gt l (i:Int)).ak (Q1 (gt l (i:Int)).vr (gt l (i:Int)).ad vs):=fun h=>by
   rw[Xm h,Ql8];rfl
  generalize hV:Yk cm.n vs (l.take i) v=V at*
  simp(disch:=omega)only[go_sem]
  refine QT (fun c=>?_) (fun c=>?_)
  ·have oi:=hO i (by omega)
   obtain⟨o1,o2,o3,o4,o5,o6⟩:=oi
   obtain⟨j,hj,ej⟩:=gtI o2
   have hi2:IsT t (gt g.n (j:Int)):=hy _ (gt_mem (by omega) (by omega))
   have ra:=Qag h hi2
   have hrl:=pr j (by omega)
   rw[ej] at o3 o4
   have hq:=Qct (l:=V) (i:=j) (by omega)
   have hRg:rgS t g cm.n vs (gt l (i:Int))↔(gt (Q0 t (gt g.n (j:Int))) (gt l (i:Int)).ak).lo≤Q1 (gt l (i:Int)).vr (gt l (i:Int)).ad vs∧Q1 (gt l (i:Int)).vr (gt l (i:Int)).ad vs≤(gt (Q0 t (gt g.n (j:Int))) (gt l (i:Int)).ak).hi:=by unfold rgS;rw[ej]
   have hE:=fun hn=>Qvz (t:=t) (g:=g) hC (i:=i) (by omega) hn
   have pn:=pn (by omega)
   rw[ej] at pn
   unfold Z6 at pn
   generalize Q0 t (gt g.n (j:Int))=A at*
   simp only[tyD] at ra
   simp(disch:=omega)only[go_sem,ayS,slD]
   refine QQ (hT i (by omega)) ?_
   simp(disch:=omega)only[go_sem,ayS,ej,slD]
   refine QQ ra ?_
   by_cases b1:(gt A (gt l (i:Int)).ak).lo≤Q1 (gt l (i:Int)).vr (gt l (i:Int)).ad vs
   ·by_cases b2:Q1 (gt l (i:Int)).vr (gt l (i:Int)).ad vs≤(gt A (gt l (i:Int)).ak).hi
    ·simp(disch:=omega)only[go_sem,ayS,slD,atD,ej,hq,pl]
     exact⟨i+1,by rw[pn];simp,⟨by omega,fun a ha=>by
      by_cases e:a=i
      ·subst e;exact hRg.2 ⟨b1,b2⟩
      ·exact hR a (by omega)⟩,by omega⟩
    ·have hE:=hE fun e=>b2 (hRg.1 e).2
     simp(disch:=omega)only[go_sem,ayS,slD,atD,hE]
     rfl
   ·have hE:=hE fun e=>b1 (hRg.1 e).1
    simp(disch:=omega)only[go_sem,ayS,slD,atD,hE]
    rfl
  ·obtain rfl:i=l.length:=by omega
   have hE:=Ql9 (t:=t) (g:=g) hC fun x hx=>by obtain⟨a,ha,rfl⟩:=Xk hx;exact hR a ha
   simp(disch:=omega)only[go_sem,ayS,hE]
   rw[List.take_length] at hV
   rw[hV,ZR (by omega)]
set_option maxHeartbeats 8000000 in
theorem QvC(h:TyOk t){r:Ru}(hr:RuOk t r)(g:G)(cm:Mo)(vs:List Int)(hs:r.r.s=[]):
  FT 135 [tyD t,Q6 r,.agg [.arr 1 (QR g.n),.arr 3 (eds g.e),.arr 1 []],mD cm,.lst 1 (QR vs)] (.tup [.agg [.arr 1 (QR g.n),.arr 3 (eds g.e),.arr 1 []],.int .i64 0]):=by
 refine fo [[],[],[],[(4,none,[],true),(7,(some 96),[4],false),(9,(some 480),[4],false)]] ?_
 conv in fnC ..=>reduce
 simp(disch:=omega)only[go_sem,ayS,tyD,Q6,ruL,paL,fbE,cyL,mD,hs]
 refine Xb 13 0 0 rfl (by omega) fun i _ hi=>?_
 obtain rfl:i=0:=by omega
 simp(disch:=omega)only[go_sem,ayS]
 refine Xb 19 0 0 rfl (by omega) fun i _ hi=>?_
 obtain rfl:i=0:=by omega
 simp(disch:=omega)only[go_sem,ayS]
end
abbrev EsL:=List (List Int×Int)
theorem QvD{es:EsL}{ks:List Int}{x:Int}(h:Yi ks es=none):YH es ks x=es++[(ks,x)]:=by
 unfold YH;rw[h]
theorem QvE{es:EsL}{ks:List Int}{x:Int}{i:Nat}(h:Yi ks es=some (i,x)):YH es ks x=es:=by
 unfold YH;rw[h]
 have:=QbR h
 obtain⟨hi,e⟩:=Qp.1 this
 simp only
 rw[←e]
 exact List.set_getElem_self hi
def asM(c vs:List Int):List Slo→EsL→EsL
 |[],es=>es
 |x::l,es=>asM c vs l (YH es [gt c x.nd,x.ak] (Q1 x.vr x.ad vs))
section
variable {c vs:List Int}
theorem Qma(a b:List Slo)(es:EsL):asM c vs (a++b) es=asM c vs b (asM c vs a es):=by
 induction a generalizing es with
 |nil=>rfl
 |cons x a ih=>exact ih _
structure MpOk(c vs:List Int)(l:List Slo)(es:EsL):Prop where
 i:∀p∈es,∃x∈l,p=([gt c x.nd,x.ak],Q1 x.vr x.ad vs)
 o:∀x∈l,([gt c x.nd,x.ak],Q1 x.vr x.ad vs)∈es
 n:es.length≤l.length
theorem MpOk.nil:MpOk c vs [] []:=⟨fun p hp=>absurd hp List.not_mem_nil,fun x hx=>absurd hx List.not_mem_nil,Qg _⟩
theorem MpOk.look{l:List Slo}{es:EsL}(h:MpOk c vs l es){x:Slo}(h1:∀y∈l,gt c y.nd=gt c x.nd→y.ak=x.ak→Q1 y.vr y.ad vs=Q1 x.vr x.ad vs):Yi [gt c x.nd,x.ak] es=none∨∃i,Yi [gt c x.nd,x.ak] es=some (i,Q1 x.vr x.ad vs):=by
 cases hk:Yi [gt c x.nd,x.ak] es with
 |none=>exact .inl rfl
 |some p=>
  obtain⟨i,v⟩:=p
  obtain⟨y,hy,e⟩:=h.i _ (List.mem_of_getElem? (QbR hk))
  simp only[Qc,List.cons.injEq,and_true] at e
  rw[e.2,h1 y hy e.1.1.symm e.1.2.symm]
  exact .inr ⟨i,rfl⟩
theorem MpOk.step{l:List Slo}{es:EsL}(h:MpOk c vs l es){x:Slo}(h1:∀y∈l,gt c y.nd=gt c x.nd→y.ak=x.ak→Q1 y.vr y.ad vs=Q1 x.vr x.ad vs):MpOk c vs (l++[x]) (YH es [gt c x.nd,x.ak] (Q1 x.vr x.ad vs)):=by
 rcases h.look h1 with e|⟨i,e⟩
 ·rw[QvD e]
  refine⟨fun p hp=>?_,fun y hy=>?_,by have:=h.n;simp;omega⟩
  ·rcases Qd.1 hp with hp|hp
   ·obtain⟨y,hy,e⟩:=h.i p hp
    exact⟨y,List.mem_append_left _ hy,e⟩
   ·exact⟨x,by simp,Qm.1 hp⟩
  ·rcases Qd.1 hy with hy|hy
   ·exact List.mem_append_left _ (h.o y hy)
   ·rw[Qm.1 hy];simp
 ·rw[QvE e]
  refine⟨fun p hp=>?_,fun y hy=>?_,by have:=h.n;simp;omega⟩
  ·obtain⟨y,hy,e⟩:=h.i p hp
   exact⟨y,List.mem_append_left _ hy,e⟩
  ·rcases Qd.1 hy with hy|hy
   ·exact h.o y hy
   ·rw[Qm.1 hy];exact List.mem_of_getElem? (QbR e)
theorem QgK{l:List Slo}(h1:∀x∈l,∀y∈l,gt c x.nd=gt c y.nd→x.ak=y.ak→Q1 x.vr x.ad vs=Q1 y.vr y.ad vs):∀i:Nat,i≤l.length→MpOk c vs (l.take i) (asM c vs (l.take i) [])
 |0,_=>MpOk.nil
 |i+1,hi=>by
  have ih:=QgK h1 i (by omega)
  rw[Xm (by omega),Qma]
  exact ih.step fun y hy e1 e2=>h1 y (Qw hy) _ (gt_mem (by omega) (by omega)) e1 e2
theorem QvF{c' vs':List Int}{l l':List Slo}{V:List (List Int)}(k1:∀x∈l,0≤gt c x.nd∧0≤x.ak)(k2:∀x∈l',0≤gt c' x.nd∧0≤x.ak)
  (s1:∀x∈l,∀y∈l,gt c x.nd=gt c y.nd→x.ak=y.ak→Q1 x.vr x.ad vs=Q1 y.vr y.ad vs)
  (h1:∀x∈l,∃y∈l',gt c' y.nd=gt c x.nd∧y.ak=x.ak∧Q1 y.vr y.ad vs'=Q1 x.vr x.ad vs)
  (h2:∀y∈l',∃x∈l,gt c' y.nd=gt c x.nd∧y.ak=x.ak∧Q1 y.vr y.ad vs'=Q1 x.vr x.ad vs):Yk c vs l V=Yk c' vs' l' V:=by
 refine Qaa (by rw[QaX,QaX]) fun j hj=>?_
 rw[QaX] at hj
 refine Qaa (by rw[QaY _ _ (fun x hx=>(k1 x hx).1) hj,QaY _ _ (fun x hx=>(k2 x hx).1) hj]) fun q hq=>?_
 rw[QaY _ _ (fun x hx=>(k1 x hx).1) hj] at hq
 by_cases ex:∃x∈l,gt c x.nd=(j:Int)∧x.ak=(q:Int)
 ·obtain⟨x,hx,e1,e2⟩:=ex
  have a:=Qar (c:=c) (vs:=vs) (p:=fun v=>v=Q1 x.vr x.ad vs) l V k1 hj hq (fun y hy f1 f2=>s1 y hy x hx (by rw[f1,e1]) (by rw[f2,e2])) (.inl ⟨x,hx,e1,e2⟩)
  have b:=Qar (c:=c') (vs:=vs') (p:=fun v=>v=Q1 x.vr x.ad vs) l' V k2 hj hq (fun y hy f1 f2=>by
   obtain⟨z,hz,g1,g2,g3⟩:=h2 y hy
   rw[g3]
   exact s1 z hz x hx (by rw[←g1,f1,e1]) (by rw[←g2,f2,e2])) (.inl (by
   obtain⟨y,hy,g1,g2,_⟩:=h1 x hx
   exact⟨y,hy,by rw[g1,e1],by rw[g2,e2]⟩))
  exact a.trans b.symm
 ·have a:=Qar (c:=c) (vs:=vs) (p:=fun v=>v=gt (gt V (j:Int)) (q:Int)) l V k1 hj hq (fun y hy f1 f2=>(ex ⟨y,hy,f1,f2⟩).elim) (.inr rfl)
  have b:=Qar (c:=c') (vs:=vs') (p:=fun v=>v=gt (gt V (j:Int)) (q:Int)) l' V k2 hj hq (fun y hy f1 f2=>by
   obtain⟨z,hz,g1,g2,_⟩:=h2 y hy
   exact (ex ⟨z,hz,by rw[←g1,f1],by rw[←g2,f2]⟩).elim) (.inr rfl)
  exact a.trans b.symm
def esS(p:List Int×Int):Slo:=⟨gt p.1 0,gt p.1 1, -1,p.2⟩
theorem QvG{n:Nat}{l:List Slo}{es:EsL}{V:List (List Int)}(h:MpOk c vs l es){seen:List Nat}(hs:∀j,j<es.length→j∈seen)(hb:∀j∈seen,j<es.length)(k1:∀x∈l,(0≤gt c x.nd∧gt c x.nd<n)∧0≤x.ak)
  (s1:∀x∈l,∀y∈l,gt c x.nd=gt c y.nd→x.ak=y.ak→Q1 x.vr x.ad vs=Q1 y.vr y.ad vs):Yk (QY 0 n) [] (seen.map fun j:Nat=>esS (gt es (j:Int))) V=Yk c vs l V:=by
 have key:∀x∈l,esS ([gt c x.nd,x.ak],Q1 x.vr x.ad vs)=⟨gt c x.nd,x.ak, -1,Q1 x.vr x.ad vs⟩:=fun x _=>rfl
 have gn:∀x∈l,gt (QY 0 n) (gt c x.nd)=gt c x.nd:=fun x hx=>by
  obtain⟨j,hj,e⟩:=gtI (l:=List.replicate n (0:Int)) (by have:=(k1 x hx).1;simpa using this)
  rw[e];exact YO (by simpa using hj)
 have mem:∀y∈seen.map (fun j:Nat=>esS (gt es (j:Int))),∃x∈l,y=⟨gt c x.nd,x.ak, -1,Q1 x.vr x.ad vs⟩:=fun y hy=>by
  obtain⟨j,hj,rfl⟩:=Qv.1 hy
  have hj2:=hb j hj
  obtain⟨x,hx,e⟩:=h.i _ (gt_mem (l:=es) (j:=(j:Int)) (by omega) (by omega))
  exact⟨x,hx,by rw[e,key x hx]⟩
 refine (QvF (c:=c) (vs:=vs) (l:=l) (fun x hx=>⟨(k1 x hx).1.1,(k1 x hx).2⟩) (fun y hy=>?_) s1 (fun x hx=>?_) fun y hy=>?_).symm
 ·obtain⟨x,hx,rfl⟩:=mem y hy
  simp only
  rw[gn x hx]
  exact⟨(k1 x hx).1.1,(k1 x hx).2⟩
 ·obtain⟨j,hj,e⟩:=Xk (h.o x hx)
  refine⟨_,Qv.2 ⟨j,hs j hj,rfl⟩,?_⟩
  rw[e,key x hx]
  simp only[Q1]
  exact⟨gn x hx,trivial,if_pos (by decide)⟩
 ·obtain⟨x,hx,rfl⟩:=mem y hy
  simp only[Q1]
  exact⟨x,hx,gn x hx,rfl,if_pos (by decide)⟩
end
section
variable {t:Ty}
theorem Qmb(st:Ste)(hl:st.r.r.s.length≤10)(hv:st.m.v.length≤100)(hb:∀x∈st.m.v, -1000≤x∧x≤1000)(hc:st.c.n.length≤1000)
  (ho:∀x∈st.r.r.s,(0≤x.nd∧x.nd<st.c.n.length)∧(-1≤x.vr∧x.vr<st.m.v.length)∧ -100≤x.ad∧x.ad≤100)
  (s1:∀x∈st.r.r.s,∀y∈st.r.r.s,gt st.c.n x.nd=gt st.c.n y.nd→x.ak=y.ak→Q1 x.vr x.ad st.m.v=Q1 y.vr y.ad st.m.v):
  FT 239 [Xs st] (.tup [.mp 2 (asM st.c.n st.m.v st.r.r.s []),.int .i64 0]):=by
 have hA:=QgK s1
 refine fo [[]] ?_
 conv in fnC ..=>reduce
 simp(disch:=omega)only[go_sem,ayS,Xs,X0,ruL,paL,fbE,cyL,mtL,hsL]
 generalize hs:st.r.r.s=l at*
 generalize st.c.n=c at*
 generalize st.m.v=vs at*
 refine Q8 18 l.length (fun _=>[]) (fun i=>[(1,.mp 2 (asM c vs (l.take i) []))]) (fun _=>True) (by simp(disch:=omega)only[go_sem];rfl) trivial fun i hi _=>?_
 have hM:=hA i hi
 have sA:i<l.length→asM c vs (l.take (i+1)) []=YH (asM c vs (l.take i) []) [gt c (gt l (i:Int)).nd,(gt l (i:Int)).ak] (Q1 (gt l (i:Int)).vr (gt l (i:Int)).ad vs):=fun h=>by rw[Xm h,Qma];rfl
 generalize hes:asM c vs (l.take i) []=es at*
 simp(disch:=omega)only[go_sem]
 refine QT (fun c=>?_) (fun c=>?_)
 ·have hm:=gt_mem (l:=l) (j:=(i:Int)) (by omega) (by omega)
  obtain⟨o1,o2,o3⟩:=ho _ hm
  have hT:=Qtg (vr:=(gt l (i:Int)).vr) (ad:=(gt l (i:Int)).ad) o2.1 o2.2 hv (by omega) hb
  have sA:=sA (by omega)
  have lk:=hM.look (x:=gt l (i:Int)) fun y hy e1 e2=>s1 y (Qw hy) _ hm e1 e2
  simp(disch:=omega)only[go_sem,ayS,slD]
  refine QQ hT ?_
  rcases lk with e|⟨k,e⟩
  ·simp(disch:=omega)only[go_sem,ayS,e,Option.isSome_none,Option.isSome_some,Option.map_none,Option.map_some,Option.getD_none,Option.getD_some]
   exact⟨i+1,by rw[sA];simp,by omega,by omega⟩
  ·simp(disch:=omega)only[go_sem,ayS,e,Option.isSome_none,Option.isSome_some,Option.map_none,Option.map_some,Option.getD_none,Option.getD_some]
   exact⟨i+1,by rw[sA];simp,by omega,by omega⟩
 ·obtain rfl:i=l.length:=by omega
  simp(disch:=omega)only[go_sem,ayS]
  rw[List.take_length] at hes
  rw[hes]
theorem Qmc{p:Pa}{x:Hs}{m:Mo}{v:List Int}(h:XC p x m=(v,0))(hs:∀s∈p.s,(-100≤s.ad∧s.ad≤100)∧ -3≤gt (gt x.v (gt m.n s.nd)) s.ak∧gt (gt x.v (gt m.n s.nd)) s.ak≤11):∀y∈v, -200≤y∧y≤200:=by
 have key:∀(n:Nat)(l:List Slo)(vk:List Int×List Bool),(∀s∈l,(-100≤s.ad∧s.ad≤100)∧ -3≤gt (gt x.v (gt m.n s.nd)) s.ak∧gt (gt x.v (gt m.n s.nd)) s.ak≤11)→vk.1.length=n→vk.2.length=n→(∀y∈vk.1, -200≤y∧y≤200)→∀y∈(ZE x m l vk).1.1, -200≤y∧y≤200:=by
  intro n l
  induction l with
  |nil=>exact fun vk _ _ _ h=>h
  |cons s l ih=>
   intro vk hl h1 h2 h3
   obtain⟨ha,hb⟩:=hl s List.mem_cons_self
   obtain⟨k1,k2,k3⟩:=Qgo (x:=x) (m:=m) (s:=s) h1 h2 h3 ha hb
   rw[Qcn]
   split
   ·exact k3
   ·exact ih _ (fun s hs=>hl s (Qu _ hs)) k1 k2 k3
 unfold XC at h
 simp only at h
 split at h
 ·simp at h
 ·split at h
  ·have h:=(Prod.mk.inj h).1
   rw[←h]
   exact key p.v.toNat _ _ hs (by simp) (by simp) fun y hy=>by rw[List.eq_of_mem_replicate hy];omega
  ·simp at h
theorem StOk.vb{r:Ru}{m:Mt}{b:Hs}{d:Mo}(s:StOk t r b m d):(∀y∈m.v, -200≤y∧y≤200)∧(m.v.length:Int)=r.r.v∧m.v.length≤12:=by
 have h1:=Qd6 s.so
 have h2:=s.ru.l.v
 have h3:=s.ru.rv
 refine⟨Qmc s.so fun x hx=>⟨(s.ru.l.s x hx).ad,?_⟩,by omega,by omega⟩
 obtain⟨_,_,_,h4⟩:=QdT s.ty s.ru.l s.hs s.sm hx
 exact h4
theorem QvH{l:List Nat}{n:Nat}(h:l.Nodup)(hb:∀x∈l,x<n):l.length≤n:=by
 have hn:(l.map fun i:Nat=>(i:Int)).Nodup:=by
  rw[List.nodup_iff_pairwise_ne,List.pairwise_map]
  exact (List.nodup_iff_pairwise_ne.1 h).imp fun {a b} hab e=>hab (by omega)
 have:=Z5 (n:=n) (l:=srt (l.map fun i:Nat=>(i:Int))) ⟨QlW hn,fun x hx=>by
  obtain⟨i,hi,rfl⟩:=Qv.1 (srt_mem.1 hx)
  have:=hb i hi
  omega⟩
 rw[X6,QC] at this
 exact this
set_option maxHeartbeats 8000000 in
theorem QvI{r:Ru}{m:Mt}{b:Hs}{d:Mo}(s:StOk t r b m d)(hp:0<(Xp t r b d).length):FC Tryz.prog 148 [tyD t,.box (stB r m b (stA t r b m d).g (.nst 1 (nsA (Xp t r b d))) (stT b d) (stC r b m.m d))] (.int .i64 0) [(1,.box (stB r m b (stA t r b m d).g (nsD (stA t r b m d).v) (stT b d) (stC r b m.m d)))]:=by
 have ho:XK (.box (stB r m b (stA t r b m d).g (.nst 1 (nsA (Xp t r b d))) (stT b d) (stC r b m.m d)))=true:=QgJ _ _ _ _ (show XU (.nst 1 (nsA (Xp t r b d)))=true from Qje _) _ _
 have h:=s.ty
 obtain⟨b1,b2,b3⟩:=s.vb
 have c1:=s.cl.1
 have lr:=QX s.ru.rg
 have la:=QX s.vg
 have hV0:(Xp t r b d).length=(stA t r b m d).g.n.length:=by rw[JO];exact (YC _ _ _).symm
 have hs1:∀x∈r.r.s,∀y∈r.r.s,gt (stC r b m.m d).n x.nd=gt (stC r b m.m d).n y.nd→x.ak=y.ak→Q1 x.vr x.ad m.v=Q1 y.vr y.ad m.v:=s.s1
 have r0:=Qmb ⟨r,m,b,⟨(stA t r b m d).g,Xp t r b d⟩,stT b d,stC r b m.m d⟩ s.ru.rl (by simp only;omega) (fun x hx=>by have:=b1 x hx;omega) (by simp only;omega)
  (fun x hx=>by
   have h1:=s.ru.rs x hx
   have h2:=h1.nd
   have h3:=h1.vr
   simp only
   exact⟨by omega,by omega,h1.ad⟩) hs1
 have hM:=QgK hs1 r.r.s.length (Qg _)
 rw[List.take_length] at hM
 have hv:(stA t r b m d).v=Yk (stC r b m.m d).n m.v r.r.s (Xp t r b d):=rfl
 have hcb:∀x∈r.r.s,(0≤gt (stC r b m.m d).n x.nd∧gt (stC r b m.m d).n x.nd<(stA t r b m d).g.n.length)∧0≤x.ak:=fun x hx=>by
  have h1:=s.ru.rs x hx
  obtain⟨i,hi,e⟩:=gtI h1.nd
  rw[e]
  exact⟨(s.cty hi).1,h1.ak.1⟩
 rw[hv]
 have mp:=fun (seen:List Nat) h1 h2=>QvG (n:=(stA t r b m d).g.n.length) (V:=Xp t r b d) hM (seen:=seen) h1 h2 hcb hs1
 generalize asM (stC r b m.m d).n m.v r.r.s []=es at*
 have eF:X8 (Xp t r b d)=nsF (Xp t r b d):=rfl
 simp only[Xs,X0,ruL,paL,fbE,cyL,mtL,hsL,List.cons_append,List.nil_append,eF] at r0
 refine fo [[],[(8,none,[],true),(10,(some 512),[8],false)]] ?_ (hok:=(by simp only[List.all_cons,List.all_nil,ho];rfl))
 conv in fnC ..=>reduce
 simp(disch:=omega)only[go_sem,ayS,stB,ruL,paL,fbE,cyL,tyD]
 refine QQ r0 ?_
 simp(disch:=omega)only[go_sem,ayS]
 have gE:∀seen:List Nat,(Yk (QY 0 (stA t r b m d).g.n.length) [] (seen.map fun j:Nat=>esS (gt es (j:Int))) (Xp t r b d)).length=(Xp t r b d).length:=fun seen=>QaX _ _
 refine Yw (fun _:List Nat=>[]) (fun seen=>[(8,.nst 1 (nsL (Yk (QY 0 (stA t r b m d).g.n.length) [] (seen.map fun j:Nat=>esS (gt es (j:Int))) (Xp t r b d))) none),(15,.it 2 es seen)]) (fun seen=>seen.Nodup∧∀j∈seen,j<es.length) (fun seen=>es.length-seen.length) [] (by simp(disch:=omega)only[go_sem];rfl) ⟨List.nodup_nil,fun j hj=>absurd hj List.not_mem_nil⟩ fun seen hI=>?_
 have gE:=gE seen
 have mpS:=mp seen
 generalize hV:Yk (QY 0 (stA t r b m d).g.n.length) [] (seen.map fun j:Nat=>esS (gt es (j:Int))) (Xp t r b d)=V at*
 simp(disch:=omega)only[go_sem]
 refine Qjh (fun hall=>?_) (fun j k v hj hn=>?_)
 ·simp(disch:=omega)only[go_sem,ayS]
  rw[←mpS hall hI.2,ZR (by omega)]
 ·obtain⟨x,hx,ek⟩:=hM.i _ (List.mem_of_getElem? hj)
  rw[Qc] at ek
  obtain⟨rfl,rfl⟩:=ek
  have hjl:j<es.length:=(Qp.1 hj).1
  obtain⟨p,hp,ep⟩:=gtI (hcb x hx).1
  have hrow:=s.row0 p hp
  have hty:IsT t (gt (stA t r b m d).g.n (p:Int)):=hrow.1
  have ra:=QbD h hty
  have s2:(gt (Q0 t (gt (stA t r b m d).g.n (gt (stC r b m.m d).n x.nd))) x.ak).lo≤Q1 x.vr x.ad m.v∧Q1 x.vr x.ad m.v≤(gt (Q0 t (gt (stA t r b m d).g.n (gt (stC r b m.m d).n x.nd))) x.ak).hi:=s.s2 x hx
  have hru:=s.ru.rs x hx
  have hak:x.ak<(Q0 t (gt (stA t r b m d).g.n (p:Int))).length:=by
   obtain⟨i,hi,e⟩:=gtI hru.nd
   have hc:=(s.cty hi).2
   rw[←e,ep] at hc
   have:=Qgl h _ hty.2 hc
   have:=hru.ak.2
   omega
  have hrl:(gt V (p:Int)).length=(Q0 t (gt (stA t r b m d).g.n (p:Int))).length:=by
   have hr3:(gt (Xp t r b d) (p:Int)).length=(Q0 t (gt (stA t r b m d).g.n (p:Int))).length:=hrow.2.2.1
   rw[←hr3,←hV]
   refine QaY _ _ (fun y hy=>?_) (by omega)
   obtain⟨q,hq,rfl⟩:=Qv.1 hy
   obtain⟨z,hz,e⟩:=hM.i _ (gt_mem (l:=es) (j:=(q:Int)) (by omega) (by have:=hI.2 q hq;omega))
   obtain⟨w,hw,ew⟩:=gtI (hcb z hz).1
   rw[e]
   show 0≤gt (QY 0 (stA t r b m d).g.n.length) (gt (stC r b m.m d).n z.nd)
   rw[ew,YO hw]
   omega
  have hst:Yk (QY 0 (stA t r b m d).g.n.length) [] ((seen++[j]).map fun j:Nat=>esS (gt es (j:Int))) (Xp t r b d)=V.set p ((gt V (p:Int)).set x.ak.toNat (Q1 x.vr x.ad m.v)):=by
   rw[List.map_append,Ql8,hV]
   have e1:gt es (j:Int)=([gt (stC r b m.m d).n x.nd,x.ak],Q1 x.vr x.ad m.v):=by
    have:=Qct hjl
    rw[hj] at this
    exact (Option.some.inj this).symm
   have e2:(List.map (fun j:Nat=>esS (gt es (j:Int))) [j])=[⟨gt (stC r b m.m d).n x.nd,x.ak, -1,Q1 x.vr x.ad m.v⟩]:=by
    rw[List.map_cons,List.map_nil,e1];rfl
   rw[e2]
   show Z6 V (gt (QY 0 (stA t r b m d).g.n.length) (gt (stC r b m.m d).n x.nd)) x.ak (Q1 x.vr x.ad m.v)=_
   rw[ep,YO hp]
   unfold Z6
   rw[Int.toNat_natCast]
  have hnd:(seen++[j]).Nodup:=by
   rw[Qy]
   exact⟨hI.1,by simp,fun a ha b hb e=>hn (by rw[←Qm.1 hb,←e];exact ha)⟩
  have hbd:∀q∈seen++[j],q<es.length:=fun q hq=>by
   rcases Qd.1 hq with hq|hq
   ·exact hI.2 q hq
   ·rw[Qm.1 hq];exact hjl
  have hsl:=QvH hnd hbd
  rw[Qj,List.length_singleton] at hsl
  have hq:=Qct (l:=V) (i:=p) (by omega)
  rw[ep] at s2
  have hak0:=hru.ak.1
  have l6:=X7 h hty.2
  generalize Q0 t (gt (stA t r b m d).g.n (p:Int))=A at*
  simp only[tyD] at ra
  simp(disch:=omega)only[go_sem,ayS,hj,ep]
  refine QQ ra ?_
  simp(disch:=omega)only[go_sem,ayS,atD,hq,gE]
  exact⟨seen++[j],by rw[hst],⟨hnd,hbd⟩,by rw[Qj,List.length_singleton];omega⟩
set_option maxHeartbeats 8000000 in
theorem QvJ{r:Ru}{m:Mt}{b:Hs}{d:Mo}(s:StOk t r b m d)(hp:(Xp t r b d).length=0):FC Tryz.prog 148 [tyD t,.box (stB r m b (stA t r b m d).g (.arr 1 []) (stT b d) (stC r b m.m d))] (.int .i64 0) [(1,.box (stB r m b (stA t r b m d).g (nsD (stA t r b m d).v) (stT b d) (stC r b m.m d)))]:=by
 have ho:XK (.box (stB r m b (stA t r b m d).g (.arr 1 []) (stT b d) (stC r b m.m d)))=true:=QgJ _ _ _ _ rfl _ _
 have hn:(stN r b d).length=0:=by rw[YC,←JO t];exact hp
 have hs:r.r.s=[]:=List.eq_nil_iff_forall_not_mem.2 fun x hx=>by
  obtain⟨i,hi,e⟩:=gtI (s.ru.rs x hx).nd
  have:=(s.cty hi).1
  omega
 have hv:(stA t r b m d).v=[]:=by
  simp only[stA]
  rw[hs]
  exact List.length_eq_zero_iff.1 hp
 have r0:=Qmb ⟨r,m,b,⟨(stA t r b m d).g,[]⟩,stT b d,stC r b m.m d⟩ s.ru.rl (by have:=s.vb.2.2;simp only;omega) (fun x hx=>by have:=s.vb.1 x hx;omega) (by have:=s.cl.1;have:=QX s.ru.rg;simp only;omega)
  (fun x hx=>by simp only[hs] at hx;cases hx) s.s1
 have hz:asM (stC r b m.m d).n m.v r.r.s []=[]:=by rw[hs];rfl
 rw[hz] at r0
 have eF:X8 []=[]:=rfl
 simp only[Xs,X0,ruL,paL,fbE,cyL,mtL,hsL,List.cons_append,List.nil_append,eF] at r0
 rw[hv]
 refine fo [[],[(8,none,[],true),(10,(some 512),[8],false)]] ?_ (hok:=(by simp only[List.all_cons,List.all_nil,ho];rfl))
 conv in fnC ..=>reduce
 simp(disch:=omega)only[go_sem,ayS,stB,ruL,paL,fbE,cyL,tyD]
 refine QQ r0 ?_
 simp(disch:=omega)only[go_sem,ayS]
 refine Yw (fun _:Unit=>[]) (fun _=>[]) (fun _=>True) (fun _=>0) () (by simp(disch:=omega)only[go_sem]) trivial fun _ _=>?_
 simp(disch:=omega)only[go_sem]
 refine Qjh (fun hall=>?_) (fun j k v hj hn=>?_)
 ·simp(disch:=omega)only[go_sem,ayS]
  rfl
 ·simp at hj
theorem QvK{r:Ru}{m:Mt}{b:Hs}{d:Mo}(s:StOk t r b m d):FC Tryz.prog 148 [tyD t,.box (stB r m b (stA t r b m d).g (nsD (Xp t r b d)) (stT b d) (stC r b m.m d))] (.int .i64 0) [(1,.box (stB r m b (stA t r b m d).g (nsD (stA t r b m d).v) (stT b d) (stC r b m.m d)))]:=by
 by_cases h:0<(Xp t r b d).length
 ·rw[ZR h];exact QvI s h
 ·have h0:(Xp t r b d).length=0:=by omega
  have:=QvJ s h0
  rw[show nsD (Xp t r b d)=.arr 1 [] by rw[List.length_eq_zero_iff.1 h0];rfl]
  exact this
end
theorem QvL(l:List E):(eds l).all D.flatE=true:=by simp [eds,edD,D.flatE,D.flat0]
theorem QgL(w:List (List Int)):(w.length=0∧nsD w=.arr 1 [])∨(0<w.length∧nsD w=.nst 1 (nsA w)):=by
 cases w with
 |nil=>exact .inl ⟨rfl,rfl⟩
 |cons a w=>exact .inr ⟨by simp,rfl⟩
section
variable {t:Ty}
set_option maxHeartbeats 8000000 in
theorem QvM{r:Ru}{m:Mt}{b:Hs}{d:Mo}(s:StOk t r b m d):FT 64 [tyD t,Q6 r,hsD b,mtD m] (.tup [Xs (stS t r b m d),.int .i64 0]):=by
 have h:=s.ty
 have lb:=QX s.hs.g
 have lr:=QX s.ru.rg
 have ll:=QX s.ru.l.g
 have lv:=s.hs.ln
 have ld:=s.pk.len
 have cl:=s.cl
 have ln:=s.sm.ln
 have le:=s.sm.le
 obtain⟨b1,b2,b3⟩:=s.vb
 have lk:=s.ru.k.len
 have ili:=s.sn.il
 have ile:=s.se.il
 have hbn:=s.bn
 have hbe:=s.be
 have r1:=Qu8 h s.ru s.hs s.sm s.jn s.so
 have r2:=QsZ h s.ru.l.g s.hs.g s.ru.l.ty s.hs.ty s.sm
 have r3:=QuZ (stX r b m.m) ⟨by unfold QS;simp only[stX];omega,by unfold QS;simp only[stX];omega⟩
 rw[s.cx] at r3
 have r4:=Quj h s.ru.l s.hs s.ru.c s.sm r.inj s.jn s.so s.c
 have r5:=Qu9 m (by omega) (by omega) (by omega)
 have r6:=Qvt b.g b.v (by omega) (by omega) (by omega) fun x hx=>by
  obtain⟨i,hi,rfl⟩:=Xk hx
  have:=s.hs.vl i (by omega)
  have:=X7 h (s.hty (x:=i) (by omega)).2
  omega
 have r7:=QlS (n:=b.g.n.length) s.pk.n.p (by omega) (by omega)
 have r8:=QlS (n:=b.g.e.length) s.pk.e.p (by omega) (by omega)
 have il1:(XD r.l.g b.g m.m).n.length=r.l.g.n.length:=by simp only[XD,X4];exact ln
 have r9:FT 146 [.int .i64 r.r.g.n.length,.lst 1 (QR r.k.n),.lst 1 (QR r.i.n),.lst 1 (QR m.m.n),.lst 1 (QR (Xy b.g.n.length d.n)),.int .i64 d.n.length] (.arr 1 (QR (stC r b m.m d).n)):=
  QlT (by omega) (by omega) (by omega) s.sn.nd ili.symm (by omega) (by simp [Xy];omega) (fun i hi=>s.sn.ib _ (gt_mem (by omega) (by omega))) (fun i hi=>by
   obtain⟨q,hq,e⟩:=s.sn.knat (a:=i) (by omega);rw[e];omega) (fun i hi=>by
   obtain⟨x,hx,hx2,_⟩:=s.cin hi;rw[hx];simp [Xy];omega) (fun i hi=>by
   obtain⟨x,hx,hx2,hx3,_⟩:=s.cin hi
   have:=(s.tin hx3).1
   simp only[stT] at this
   rw[hx,this];omega)
 have r10:FT 146 [.int .i64 r.r.g.e.length,.lst 1 (QR r.k.e),.lst 1 (QR r.i.e),.lst 1 (QR m.m.e),.lst 1 (QR (Xy b.g.e.length d.e)),.int .i64 d.e.length] (.arr 1 (QR (stC r b m.m d).e)):=by
  have hin:∀i:Nat,i<r.i.e.length→gt m.m.e (gt r.k.e (i:Int))∈d.e:=fun i hi=>by rw[s.de];exact (s.se.cm_in hi).2
  exact QlT (by omega) (by omega) (by omega) s.se.nd ile.symm (by omega) (by simp [Xy];omega) (fun i hi=>s.se.ib _ (gt_mem (by omega) (by omega))) (fun i hi=>by
   obtain⟨q,hq,e⟩:=s.se.knat (a:=i) (by omega);rw[e];omega) (fun i hi=>by
   have:=s.pk.e.b _ (hin i hi);simp only[Xy,QC,List.length_range];exact this) (fun i hi=>by
   rw[(Ql0 s.pk.e.p s.pk.e.b (hin i hi)).1];omega)
 have r11:=Qvw s
 have r12:=QvK s
 have eT:(stT b d).n=Xy b.g.n.length d.n:=rfl
 have eU:(stT b d).e=Xy b.g.e.length d.e:=rfl
 simp only[stX,gD,mD,gA,mA,tyD,paD,paL,hsD,hsL,mtD,mtL,fbD,fbE,cyL,Q6,ruL,stB,eT,eU,List.cons_append,List.nil_append] at r1 r2 r3 r4 r5 r11 r12
 refine foF [[(0,none,[],true),(2,none,[0],true),(3,(some 0),[2],false),(4,none,[0],false)],[(6,none,[],true),(9,(some 384),[6],false),(12,(some 2048),[6],false)],[(20,none,[],true),(24,(some 14680064),[20],false),(28,(some 201326592),[20],false),(31,(some 1610612736),[20],false),(34,(some 12884901888),[20],false),(37,(some 103079215104),[20],false),(39,(some 274877906944),[20],false)]] ?_
 conv in fnC ..=>reduce
 simp(disch:=omega)only[go_sem,ayS,Q6,ruL,tyD,paL,fbE,cyL,hsD,hsL,mtD,mtL]
 refine QQ r1 ?_
 simp(disch:=omega)only[go_sem,ayS]
 refine QQ r2 ?_
 have hX:(XD r.l.g b.g m.m).e=r.l.g.e:=rfl
 generalize XD r.l.g b.g m.m=X at*
 simp(disch:=omega)only[go_sem,ayS,QvL]
 refine QQ r3 ?_
 simp(disch:=omega)only[go_sem,ayS]
 refine QQ r4 ?_
 simp(disch:=omega)only[go_sem,ayS]
 refine QQ r5 ?_
 simp(disch:=omega)only[go_sem,ayS]
 refine QQ r6 ?_
 simp(disch:=omega)only[go_sem,ayS]
 refine QQ r7 ?_
 simp(disch:=omega)only[go_sem,ayS]
 refine QQ r8 ?_
 simp(disch:=omega)only[go_sem,ayS]
 refine QQ r9 ?_
 simp(disch:=omega)only[go_sem,ayS]
 refine QQ r10 ?_
 simp(disch:=omega)only[go_sem,ayS]
 have hVl:(stA t r b m d).v.length=(Xp t r b d).length:=by rw[Qeb,YC,JO]
 have hNl:(stA t r b m d).g.n.length=(stN r b d).length:=rfl
 have hEl:(stA t r b m d).g.e.length=(Xr r b m.m d).length:=rfl
 have eN:stN r b d=(stA t r b m d).g.n:=rfl
 have eE:Xr r b m.m d=(stA t r b m d).g.e:=rfl
 rw[eN,eE] at r11
 rcases QgL (Xp t r b d) with⟨z1,z2⟩|⟨z1,z2⟩
 ·have z3:nsD (stA t r b m d).v=.arr 1 []:=by rw[List.length_eq_zero_iff.1 (by omega:(stA t r b m d).v.length=0)];rfl
  rw[z2] at r11 r12
  rw[z3] at r12
  refine QQ r11 ?_
  simp(disch:=omega)only[go_sem,ayS]
  refine QQ r12 ?_
  simp(disch:=omega)only[go_sem,ayS]
  have hr:X8 (stA t r b m d).v=[]:=by rw[List.length_eq_zero_iff.1 (by omega:(stA t r b m d).v.length=0)];rfl
  simp only[Xs,X0,ruL,paL,fbE,cyL,mtL,hsL,stS,hr,List.cons_append,List.nil_append]
  rfl
 ·rw[z2] at r11 r12
  rw[ZR (by omega:0<(stA t r b m d).v.length)] at r12
  refine QQ r11 ?_
  simp(disch:=omega)only[go_sem,ayS]
  refine QQ r12 ?_
  simp(disch:=omega)only[go_sem,ayS]
  simp only[Xs,X0,ruL,paL,fbE,cyL,mtL,hsL,stS,List.cons_append,List.nil_append]
  rfl
theorem QgM{r:Ru}{m:Mt}{b:Hs}{d:Mo}(s:StOk t r b m d):FT 23 [tyD t,Q6 r,hsD b,mtD m] (.tup [Xs (stS t r b m d),.int .i64 0]):=by
 have r1:=Qu1 s.ty s.ru s.hs
 have r2:=QvM s
 simp only[tyD,hsD,hsL,mtD,mtL,Xs,X0,fbE,cyL,Q6,ruL,paL,List.cons_append,List.nil_append] at r1 r2
 refine foF [] ?_
 conv in fnC ..=>reduce
 simp(disch:=omega)only[go_sem,ayS,Q6,ruL,tyD,paL,fbE,cyL,hsD,hsL,mtD,mtL]
 refine QQ r1 ?_
 simp(disch:=omega)only[go_sem,ayS]
 refine QQ r2 ?_
 simp(disch:=omega)only[go_sem,ayS]
 simp only[Xs,X0,ruL,paL,fbE,cyL,mtL,hsL,List.cons_append,List.nil_append]
theorem QvN(l:List (List Int))(hl:l.length≤1000)(hr:∀x∈l,x.length≤1000):FT 249 [.lst 1 (X8 l),.lst 1 (X8 l),.clo 229 []] (.bool true):=by
 refine fo [] ?_
 conv in fnC ..=>reduce
 simp(disch:=omega)only[go_sem,ayS]
 refine Xb 17 l.length 0 rfl (by omega) fun i _ hi=>?_
 simp(disch:=omega)only[go_sem]
 refine QT (fun c=>?_) (fun c=>?_)
 ·have r:=ZC (gt l (i:Int)) (gt l (i:Int)) (by have:=hr _ (gt_mem (l:=l) (j:=(i:Int)) (by omega) (by omega));unfold QS;omega)
  rw[Qe rfl] at r
  simp(disch:=omega)only[go_sem,ayS]
  refine QQ r ?_
  simp(disch:=omega)only[go_sem,ayS]
  exact⟨i+1,by simp,by omega,by omega⟩
 ·simp(disch:=omega)only[go_sem,ayS]
theorem Qmd(h:TyOk t){x:Hs}(hx:HsOk t x):FT 155 [hsD x,hsD x] (.bool true):=by
 have l:=QX hx.g
 have l1:=hx.ln
 have r1:=ZC x.g.n x.g.n (by unfold QS;omega)
 rw[Qe rfl] at r1
 have r2:=Qf0 x.g.e x.g.e (by unfold QS;omega)
 rw[Qe rfl] at r2
 have r3:=QvN x.v (by omega) fun y hy=>by
  obtain⟨i,hi,rfl⟩:=Xk hy
  have:=hx.vl i (by omega)
  have:=X7 h (hx.ty.n _ (gt_mem (l:=x.g.n) (j:=(i:Int)) (by omega) (by omega))).2
  omega
 refine fo [] ?_
 conv in fnC ..=>reduce
 simp(disch:=omega)only[go_sem,ayS,hsD,hsL]
 refine QQ r1 ?_
 simp(disch:=omega)only[go_sem,ayS]
 refine QQ r2 ?_
 simp(disch:=omega)only[go_sem,ayS]
 refine QQ r3 ?_
 simp(disch:=omega)only[go_sem,ayS]
theorem QvO(m:Mt)(h1:m.m.n.length≤1000)(h2:m.m.e.length≤1000)(h3:m.v.length≤1000):FT 154 [mtD m,mtD m] (.bool true):=by
 have r1:=Qck m.m m.m (by unfold QS;omega) (by unfold QS;omega)
 rw[Qe rfl] at r1
 have r2:=ZC m.v m.v (by unfold QS;omega)
 rw[Qe rfl] at r2
 simp only[mD] at r1
 refine fo [] ?_
 conv in fnC ..=>reduce
 simp(disch:=omega)only[go_sem,ayS,mtD,mtL]
 refine QQ r1 ?_
 simp(disch:=omega)only[go_sem,ayS]
 refine QQ r2 ?_
 simp(disch:=omega)only[go_sem,ayS]
set_option maxHeartbeats 8000000 in
theorem QvP{r:Ru}{m:Mt}{b:Hs}{d:Mo}(s:StOk t r b m d):FT 71 [Xs (stS t r b m d),Xs (stS t r b m d)] (.bool true):=by
 have h:=s.ty
 have lb:=QX s.hs.g
 have lr:=QX s.ru.rg
 have ll:=QX s.ru.l.g
 have cl:=s.cl
 have ln:=s.sm.ln
 have le:=s.sm.le
 obtain⟨b1,b2,b3⟩:=s.vb
 have tl:(stT b d).n.length=b.g.n.length∧(stT b d).e.length=b.g.e.length:=by simp [stT,Xy]
 have r1:=QuR s.ru
 have r2:=QvO m (by omega) (by omega) (by omega)
 have r3:=Qmd h s.hs
 have r4:=Qmd h s.ho
 have r5:=Qck (stT b d) (stT b d) (by unfold QS;omega) (by unfold QS;omega)
 have r6:=Qck (stC r b m.m d) (stC r b m.m d) (by unfold QS;omega) (by unfold QS;omega)
 rw[Qe rfl] at r5 r6
 simp only[mD,hsD,hsL,mtD,mtL,fbE,cyL,Q6,ruL,paL,List.cons_append,List.nil_append] at r1 r2 r3 r4 r5 r6
 have e:stS t r b m d=⟨r,m,b,stA t r b m d,stT b d,stC r b m.m d⟩:=rfl
 rw[e]
 clear e
 generalize stA t r b m d=A at*
 generalize stT b d=T at*
 generalize stC r b m.m d=C at*
 refine fo [] ?_
 conv in fnC ..=>reduce
 simp(disch:=omega)only[go_sem,ayS,Xs,X0,ruL,paL,fbE,cyL,mtL,hsL]
 refine QQ r1 ?_
 simp(disch:=omega)only[go_sem,ayS]
 refine QQ r2 ?_
 simp(disch:=omega)only[go_sem,ayS]
 refine QQ r3 ?_
 simp(disch:=omega)only[go_sem,ayS]
 refine QQ r4 ?_
 simp(disch:=omega)only[go_sem,ayS]
 refine QQ r5 ?_
 simp(disch:=omega)only[go_sem,ayS]
 refine QQ r6 ?_
 simp(disch:=omega)only[go_sem,ayS]
set_option maxHeartbeats 8000000 in
theorem Qme{r:Ru}{m:Mt}{b:Hs}{d:Mo}(s:StOk t r b m d):FT 26 [tyD t,Xs (stS t r b m d)] (.bool true):=by
 have r1:=QgM s
 have r2:=QvP s
 have e:stS t r b m d=⟨r,m,b,stA t r b m d,stT b d,stC r b m.m d⟩:=rfl
 rw[e] at r1 r2 ⊢
 generalize stA t r b m d=A at*
 generalize stT b d=T at*
 generalize stC r b m.m d=C at*
 simp only[tyD,hsD,hsL,mtD,mtL,Xs,X0,fbE,cyL,Q6,ruL,paL,List.cons_append,List.nil_append] at r1 r2
 refine fo [] ?_
 conv in fnC ..=>reduce
 simp(disch:=omega)only[go_sem,ayS,Xs,X0,ruL,tyD,paL,fbE,cyL,mtL,hsL]
 refine QQ r1 ?_
 simp(disch:=omega)only[go_sem,ayS]
 refine QQ r2 ?_
 simp(disch:=omega)only[go_sem,ayS]
theorem QvQ(h:TyOk t):FT 149 [tyD t] (.int .i64 0):=by
 have r1:=Qal h
 simp only[tyD] at r1
 refine fo [] ?_
 conv in fnC ..=>reduce
 simp(disch:=omega)only[go_sem,ayS,tyD]
 refine QQ r1 ?_
 simp(disch:=omega)only[go_sem,ayS]
theorem Qmf(p g:G)(m:List Int)(h1:p.e.length≤1000)(h2:m.length≤1000)(h3:g.n.length≤1000)(hb:∀i:Nat,i<m.length→0≤gt m (i:Int)∧gt m (i:Int)<g.n.length):FT 241 [gD p,gD g,.lst 1 (QR m)] (.agg [.arr 1 (QR (thr m g.n)),.arr 3 (eds p.e)]):=by
 have r1:=QfZ p.e (by omega)
 refine fo [[(1,none,[],true),(7,none,[1],false)]] ?_
 conv in fnC ..=>reduce
 simp(disch:=omega)only[go_sem,ayS,gD]
 refine QQ r1 ?_
 simp(disch:=omega)only[go_sem,ayS]
 refine Q8 16 m.length (fun _=>[]) (fun i=>[(4,.arr 1 (QR (thr (m.take i) g.n))),(6,.box [.sl 4 0 i,.sl 5 0 p.e.length])]) (fun _=>True) (by simp(disch:=omega)only[go_sem];rfl) trivial fun i hi _=>?_
 have hL:(thr (m.take i) g.n).length=i:=by simp [thr];omega
 simp(disch:=omega)only[go_sem]
 refine QT (fun c=>?_) (fun c=>?_)
 ·have b1:=hb i (by omega)
  simp(disch:=omega)only[go_sem,ayS,hL]
  exact⟨i+1,by rw[Xm (by omega)];simp [thr],by omega,by omega⟩
 ·obtain rfl:i=m.length:=by omega
  rw[List.take_length] at*
  simp(disch:=omega)only[go_sem,ayS,hL]
theorem Qmg(kept into:List Int)(h1:into.length≤1000)(hn:into.Nodup)(hl:kept.length=into.length):FT 244 [.lst 1 (QR kept),.lst 1 (QR into)] (.tup [.arr 1 (QR (srt into)),.arr 1 (QR (ZS (srt into) into kept))]):=by
 have r1:=Z4 into (by omega)
 have r2:=Qcl into (by unfold QS;omega)
 refine fo [] ?_
 conv in fnC ..=>reduce
 simp(disch:=omega)only[go_sem,ayS]
 refine QQ r1 ?_
 simp(disch:=omega)only[go_sem,ayS]
 refine QQ r2 ?_
 simp(disch:=omega)only[go_sem,ayS,X6]
 have ls:=X6 into
 refine Q8 16 into.length (fun i=>[(7,.sl 1 0 i)]) (fun i=>[(1,.arr 1 (QR (ZS ((srt into).take i) into kept)))]) (fun _=>True) (by simp(disch:=omega)only[go_sem];rfl) trivial fun i hi _=>?_
 have hL:(ZS ((srt into).take i) into kept).length=i:=by simp [ZS];omega
 simp(disch:=omega)only[go_sem]
 refine QT (fun c=>?_) (fun c=>?_)
 ·obtain⟨j,hj,ej⟩:=Xk (srt_mem.1 (gt_mem (l:=srt into) (j:=(i:Int)) (by omega) (by omega)))
  have rI:=Qcd into (gt (srt into) (i:Int)) (by unfold QS;omega)
  have e1:idx (fun y=>decide (gt (srt into) (i:Int)=y)) into 0=j:=by rw[←ej];exact QaT hn hj
  have e2:ZS ((srt into).take (i+1)) into kept=ZS ((srt into).take i) into kept++[gt kept (j:Int)]:=by
   rw[Xm (by omega)];simp [ZS,e1]
  rw[e1] at rI
  simp(disch:=omega)only[go_sem,ayS,hL,ls]
  refine QQ rI ?_
  simp(disch:=omega)only[go_sem,ayS,hL,ls]
  exact⟨i+1,by rw[e2];simp,by omega,by omega⟩
 ·obtain rfl:i=into.length:=by omega
  rw[Qq (by omega)] at*
  simp(disch:=omega)only[go_sem,ayS,hL,ls]
theorem Qmh(l:List Int)(h1:l.length≤1000):FT 243 [.lst 1 (QR l)] (.bool (Yy l)):=by
 have r1:=Z4 l (by omega)
 have r2:=Qcl l (by unfold QS;omega)
 have r3:=Z4 (srt l) (by rw[X6];omega)
 have r4:=Qgf (srt l) (by rw[X6];unfold QS;omega)
 refine fo [] ?_
 conv in fnC ..=>reduce
 simp(disch:=omega)only[go_sem,ayS]
 refine QQ r1 ?_
 simp(disch:=omega)only[go_sem,ayS]
 refine QQ r2 ?_
 simp(disch:=omega)only[go_sem,ayS,X6]
 refine QQ r3 ?_
 simp(disch:=omega)only[go_sem,ayS,X6]
 refine QQ r4 ?_
 simp(disch:=omega)only[go_sem,ayS,X6]
 have e:decide (((cpt (srt l)).length:Int)=l.length)=Yy l:=by
  unfold Yy
  refine decide_eq_decide.2 ?_
  have:=imgs_inj (l:=l)
  unfold YZ at this
  rw[←this]
  omega
 rw[e]
theorem QvR(g:G)(h1:g.n.length≤1000)(h2:g.e.length≤1000):FT 67 [gD g] (.agg [.arr 1 (QR (QY 0 g.n.length)),.arr 1 (QR (QY 0 g.e.length))]):=by
 refine fo [] ?_
 conv in fnC ..=>reduce
 simp(disch:=omega)only[go_sem,ayS,gD]
 refine Q8 9 g.n.length (fun _=>[]) (fun i=>[(4,.arr 1 (QR (QY 0 i))),(6,.box [.sl 4 0 i,.sl 5 0 0])]) (fun _=>True) (by simp(disch:=omega)only[go_sem];rfl) trivial fun i hi _=>?_
 have hL:=Yp 0 i
 have hS:=Qdn 0 i
 simp(disch:=omega)only[go_sem]
 refine QT (fun c=>?_) (fun c=>?_)
 ·simp(disch:=omega)only[go_sem,ayS,hL]
  exact⟨i+1,by rw[hS];simp,by omega,by omega⟩
 ·obtain rfl:i=g.n.length:=by omega
  simp(disch:=omega)only[go_sem,ayS,hL]
  refine Q8 22 g.e.length (fun _=>[]) (fun i=>[(4,.arr 1 (QR (QY 0 i))),(5,.box [.sl 3 0 g.n.length,.sl 4 0 i])]) (fun _=>True) (by simp(disch:=omega)only[go_sem];try rfl) trivial fun i hi _=>?_
  have hM:=Yp 0 i
  have hT:=Qdn 0 i
  simp(disch:=omega)only[go_sem]
  refine QT (fun c=>?_) (fun c=>?_)
  ·simp(disch:=omega)only[go_sem,ayS,hM]
   exact⟨i+1,by rw[hT];simp,by omega,by omega⟩
  ·obtain rfl:i=g.e.length:=by omega
   simp(disch:=omega)only[go_sem,ayS,hL,hM]
section
variable {r:Ru} {h:Hs} {m:Mt} {d:Mo}
theorem Qmi(n:Nat):XV t r h m d (n+1)=XV t r h m d n++Zl t r h m d n (Jr t h m n):=by
 simp [XV,List.range_succ]
theorem QvS(i k:Nat):Zl t r h m d i (k+1)=if gt (gt h.v (gt m.m.n (i:Int))) (k:Int)=JP t r h m d i k then Zl t r h m d i k else Zl t r h m d i k++[⟨i,k, -1,gt (gt h.v (gt m.m.n (i:Int))) (k:Int)⟩]:=by
 simp only[Zl,List.range_succ,List.filterMap_append,List.filterMap_cons,List.filterMap_nil]
 unfold QaZ
 split
 ·rename_i hc
  split at hc
  ·cases hc
  ·rename_i hn
   rw[if_pos (Classical.not_not.1 hn)];simp
 ·rename_i x hc
  split at hc
  ·rename_i hn
   rw[if_neg hn,←Option.some.inj hc]
  ·cases hc
theorem Qmj(i k:Nat):(Zl t r h m d i k).length≤k:=by
 unfold Zl
 exact Qt (List.length_filterMap_le _ _) (by simp)
end
theorem Qmk(l:List Slo)(a b c e:Int):XI l++[.agg [.int .i64 a,.int .i64 b,.int .i64 c,.int .i64 e]]=XI (l++[⟨a,b,c,e⟩]):=by simp [XI,slD]
set_option maxHeartbeats 8000000 in
theorem QvT{r:Ru}{m:Mt}{b:Hs}{d:Mo}(s:StOk t r b m d):FT 242 [tyD t,Xs (stS t r b m d)] (.arr 4 (XI (XV t r b m d m.m.n.length))):=by
 have h:=s.ty
 have lb:=QX s.hs.g
 have la:=QX s.vg
 have ll:=QX s.ru.l.g
 have lk:=s.ru.k.len
 have ln:=s.sm.ln
 have lv:=s.hs.ln
 have hav:(stA t r b m d).v.length=(stA t r b m d).g.n.length:=Qeb _ _ _ _ _
 have tl:(stT b d).n.length=b.g.n.length:=by simp [stT,Xy]
 have aF:∀i k:Nat,JP t r b m d i k=if (i:Int)∈r.k.n then gt (gt (stA t r b m d).v (gt (stT b d).n (gt m.m.n (i:Int)))) (k:Int) else (gt (Q0 t (gt b.g.n (gt m.m.n (i:Int)))) (k:Int)).lo:=fun _ _=>rfl
 have aK:∀i:Nat,i<m.m.n.length→(i:Int)∈r.k.n→∃j:Nat,gt (stT b d).n (gt m.m.n (i:Int))=j∧j<(stA t r b m d).g.n.length∧(gt (stA t r b m d).v (j:Int)).length=(Q0 t (gt b.g.n (gt m.m.n (i:Int)))).length:=fun i hi hk=>by
  have hx:gt m.m.n (i:Int)∈d.n:=by rw[s.dn];exact (s.sn.kept hi).2 hk
  obtain⟨f1,f2,f3⟩:=s.tin hx
  have hj:Xq d.n (gt m.m.n (i:Int))<(stN r b d).length:=by rw[YC];omega
  refine⟨_,f1,hj,?_⟩
  rw[s.rl hj,Qea f2,f3]
  obtain⟨x,hx,hx2⟩:=s.mt hi
  rw[hx]
  exact s.hs.vl x hx2
 have e:stS t r b m d=⟨r,m,b,stA t r b m d,stT b d,stC r b m.m d⟩:=rfl
 rw[e]
 clear e
 generalize stA t r b m d=A at*
 generalize stT b d=T at*
 generalize stC r b m.m d=C at*
 refine fo [[],[],[]] ?_
 conv in fnC ..=>reduce
 simp(disch:=omega)only[go_sem,ayS,Xs,X0,ruL,tyD,paL,fbE,cyL,mtL,hsL]
 refine Q8 19 m.m.n.length (fun i=>[(5,.sl 2 0 (XV t r b m d i).length)]) (fun i=>[(2,.arr 4 (XI (XV t r b m d i)))]) (fun i=>(XV t r b m d i).length≤6*i) (by simp(disch:=omega)only[go_sem];rfl) (Qg 0) fun i hi hI=>?_
 have sL:=Qmi (t:=t) (r:=r) (h:=b) (m:=m) (d:=d) i
 simp(disch:=omega)only[go_sem]
 refine QT (fun c=>?_) (fun c=>?_)
 ·obtain⟨x,hx,hx2⟩:=s.mt (i:=i) (by omega)
  have hty:=s.hty hx2
  have g6:=X7 h hty.2
  have ra:=QbD h hty
  have hvl:=s.hs.vl x hx2
  have sR:=fun k=>QvS (t:=t) (r:=r) (h:=b) (m:=m) (d:=d) i k
  have lR:=fun k=>Qmj (t:=t) (r:=r) (h:=b) (m:=m) (d:=d) i k
  have rK:=Zw r.k.n (i:Int) (by unfold QS;omega)
  have aFi:=fun k=>aF i k
  have aKi:=aK i (by omega)
  unfold Jr at sL
  rw[hx] at sL sR aFi aKi
  generalize Q0 t (gt b.g.n (x:Int))=T6 at*
  simp only[tyD] at ra
  simp(disch:=omega)only[go_sem,ayS,hx]
  refine QQ ra ?_
  simp(disch:=omega)only[go_sem,ayS]
  refine Q8 38 T6.length (fun k=>[(5,.sl 2 0 ((XV t r b m d i).length+(Zl t r b m d i k).length))]) (fun k=>[(2,.arr 4 (XI (XV t r b m d i++Zl t r b m d i k)))]) (fun _=>True) (by simp(disch:=omega)only[go_sem,show Zl t r b m d i 0=[] from rfl,List.append_nil];try rfl) trivial fun k hk _=>?_
  have sR:=sR k
  have lR:=lR k
  have hl:(XV t r b m d i++Zl t r b m d i k).length=(XV t r b m d i).length+(Zl t r b m d i k).length:=Qj
  have aFk:=aFi k
  simp(disch:=omega)only[go_sem]
  refine QT (fun c=>?_) (fun c=>?_)
  ·simp(disch:=omega)only[go_sem,ayS,atD]
   refine QQ rK ?_
   by_cases hkk:(i:Int)∈r.k.n
   ·obtain⟨j,ej,ej2,er⟩:=aKi hkk
    have f1:JP t r b m d i k=gt (gt A.v (j:Int)) (k:Int):=by rw[aFk,if_pos hkk,ej]
    rw[f1] at sR
    by_cases e:gt (gt b.v (x:Int)) (k:Int)=gt (gt A.v (j:Int)) (k:Int)
    ·rw[if_pos e] at sR
     simp(disch:=omega)only[go_sem,ayS,hkk,hx,ej,hl]
     exact⟨k+1,by rw[sR];simp,by omega,by omega⟩
    ·rw[if_neg e] at sR
     simp(disch:=omega)only[go_sem,ayS,hkk,hx,ej,hl,Qmk]
     exact⟨k+1,by rw[sR];simp [QA],by omega,by omega⟩
   ·have f1:JP t r b m d i k=(gt T6 (k:Int)).lo:=by rw[aFk,if_neg hkk]
    rw[f1] at sR
    by_cases e:gt (gt b.v (x:Int)) (k:Int)=(gt T6 (k:Int)).lo
    ·rw[if_pos e] at sR
     simp(disch:=omega)only[go_sem,ayS,hkk,hx,hl]
     exact⟨k+1,by rw[sR];simp,by omega,by omega⟩
    ·rw[if_neg e] at sR
     simp(disch:=omega)only[go_sem,ayS,hkk,hx,hl,Qmk]
     exact⟨k+1,by rw[sR];simp [QA],by omega,by omega⟩
  ·obtain rfl:k=T6.length:=by omega
   simp(disch:=omega)only[go_sem,ayS,hl]
   exact⟨i+1,by rw[sL];simp,⟨by omega,by rw[sL,Qj];omega⟩,by omega⟩
 ·obtain rfl:i=m.m.n.length:=by omega
  simp(disch:=omega)only[go_sem,ayS]
end
section
variable {t:Ty}
def ruZ:D:=.agg [.str (bs []),.lst 1 [],.lst 3 [],.lst 4 [],.int .i64 0,.lst 5 [],.lst 1 [],.lst 3 [],.lst 4 [],.int .i64 0,.lst 5 [],.lst 1 [],.lst 1 [],.lst 1 [],.lst 1 [],.bool false,.int .i64 0,.lst 9 [],.lst 1 [],.lst 1 [],.lst 1 [],.lst 3 [],.lst 4 [],.int .i64 0,.lst 5 []]
set_option maxHeartbeats 8000000 in
theorem QvU{r:Ru}{m:Mt}{b:Hs}{d:Mo}(s:StOk t r b m d):FT 150 [tyD t,Xs (stS t r b m d)] (if (XV t r b m d m.m.n.length).length≤10 then .tup [Q6 (Q3 t r b m d),.int .i64 0] else .tup [ruZ,.int .i64 3]):=by
 have h:=s.ty
 have lb:=QX s.hs.g
 have la:=QX s.vg
 have ll:=QX s.ru.l.g
 have lr:=QX s.ru.rg
 have lk:=s.ru.k.len
 have ln:=s.sm.ln
 have lv:=s.hs.ln
 have cl:=s.cl
 have ili:=s.sn.il
 have ile:=s.se.il
 have r1:=Qmf r.r.g (stA t r b m d).g (stC r b m.m d).n (by omega) (by omega) (by omega) (fun i hi=>(s.cty (by omega)).1)
 have r2:=Qmf r.l.g b.g m.m.n (by omega) (by omega) (by omega) (fun i hi=>s.sn.bd i hi)
 have r3:=QvT s
 have r4:=Qmh (stC r b m.m d).n (by omega)
 have r5:=Qmh (stC r b m.m d).e (by omega)
 have r6:=Qmg r.k.n r.i.n (by omega) s.sn.nd (by omega)
 have r7:=Qmg r.k.e r.i.e (by omega) s.se.nd (by omega)
 have hul:(XV t r b m d m.m.n.length).length≤1000:=by
  have key:∀n:Nat,n≤m.m.n.length→(XV t r b m d n).length≤6*n:=by
   intro n
   induction n with
   |zero=>exact fun _=>Qg 0
   |succ n ih=>
    intro hn
    obtain⟨x,hx,hx2⟩:=s.mt (i:=n) (by omega)
    have g6:=X7 h (s.hty hx2).2
    have:=ih (by omega)
    have:=Qmj (t:=t) (r:=r) (h:=b) (m:=m) (d:=d) n (Jr t b m n)
    rw[Qmi,Qj]
    have:Jr t b m n≤6:=by unfold Jr;rw[hx];exact g6
    omega
  have:=key _ (Qg _)
  omega
 have eU:Q3 t r b m d=⟨r.nm,⟨⟨thr (stC r b m.m d).n (stA t r b m d).g.n,r.r.g.e⟩,[],0,[]⟩,⟨⟨thr m.m.n b.g.n,r.l.g.e⟩,XV t r b m d m.m.n.length,0,[]⟩,⟨srt r.i.n,srt r.i.e⟩,⟨ZS (srt r.i.n) r.i.n r.k.n,ZS (srt r.i.e) r.i.e r.k.e⟩,Yy (stC r b m.m d).n&&Yy (stC r b m.m d).e,.tt⟩:=rfl
 rw[eU]
 clear eU
 have e:stS t r b m d=⟨r,m,b,stA t r b m d,stT b d,stC r b m.m d⟩:=rfl
 rw[e] at r3 ⊢
 clear e
 generalize XV t r b m d m.m.n.length=U at*
 simp only[gD,mD,gA,mA,tyD,paD,paL,hsD,hsL,mtD,mtL,Xs,X0,fbD,fbE,cyL,ruL,List.cons_append,List.nil_append] at r1 r2 r3
 by_cases hu:U.length≤10
 ·rw[if_pos hu]
  refine foZ [[(1,none,[],true),(11,none,[1],true),(15,(some 24576),[11],false),(18,(some 196608),[11],false),(22,(some 3670016),[11],false),(23,none,[1],true),(24,(some 0),[11,23],false),(25,(some 0),[11,23],false),(26,none,[1],true),(30,(some 805306368),[11,23,26],false),(31,none,[1],false),(36,none,[1],false)]] ?_
  conv in fnC ..=>reduce
  simp(disch:=omega)only[go_sem,ayS,Xs,X0,ruL,tyD,paL,fbE,cyL,mtL,hsL]
  refine QQ r1 ?_
  simp(disch:=omega)only[go_sem,ayS]
  refine QQ r2 ?_
  simp(disch:=omega)only[go_sem,ayS]
  refine QQ r3 ?_
  simp(disch:=omega)only[go_sem,ayS]
  refine QQ r4 ?_
  cases hd:Yy (stC r b m.m d).n
  ·simp(disch:=omega)only[go_sem,ayS]
   refine QQ r6 ?_
   simp(disch:=omega)only[go_sem,ayS]
   refine QQ r7 ?_
   simp(disch:=omega)only[go_sem,ayS]
   simp only[Q6,ruL,paL,fbL,ttL,cyL,hd,Bool.false_and,List.cons_append,List.nil_append]
   rfl
  ·simp(disch:=omega)only[go_sem,ayS]
   refine QQ r5 ?_
   simp(disch:=omega)only[go_sem,ayS]
   refine QQ r6 ?_
   simp(disch:=omega)only[go_sem,ayS]
   refine QQ r7 ?_
   simp(disch:=omega)only[go_sem,ayS]
   simp only[Q6,ruL,paL,fbL,ttL,cyL,hd,Bool.true_and,List.cons_append,List.nil_append]
   rfl
 ·rw[if_neg hu]
  refine foZ [[(1,none,[],true),(11,none,[1],true),(15,(some 24576),[11],false),(18,(some 196608),[11],false),(22,(some 3670016),[11],false),(23,none,[1],true),(24,(some 0),[11,23],false),(25,(some 0),[11,23],false),(26,none,[1],true),(30,(some 805306368),[11,23,26],false),(31,none,[1],false),(36,none,[1],false)]] ?_
  conv in fnC ..=>reduce
  simp(disch:=omega)only[go_sem,ayS,Xs,X0,ruL,tyD,paL,fbE,cyL,mtL,hsL]
  refine QQ r1 ?_
  simp(disch:=omega)only[go_sem,ayS]
  refine QQ r2 ?_
  simp(disch:=omega)only[go_sem,ayS]
  refine QQ r3 ?_
  simp(disch:=omega)only[go_sem,ayS]
  refine QQ r4 ?_
  cases hd:Yy (stC r b m.m d).n
  ·simp(disch:=omega)only[go_sem,ayS]
   refine QQ r6 ?_
   simp(disch:=omega)only[go_sem,ayS]
   refine QQ r7 ?_
   simp(disch:=omega)only[go_sem,ayS]
   rfl
  ·simp(disch:=omega)only[go_sem,ayS]
   refine QQ r5 ?_
   simp(disch:=omega)only[go_sem,ayS]
   refine QQ r6 ?_
   simp(disch:=omega)only[go_sem,ayS]
   refine QQ r7 ?_
   simp(disch:=omega)only[go_sem,ayS]
   rfl
end
theorem QvV{n:Nat}{d:List Int}(hp:d.Pairwise (·<·))(hb:∀x∈d,0≤x∧x<n){j:Nat}(hj:j<d.length):idx (fun y=>decide ((j:Int)=y)) (Xy n d) 0=gt d (j:Int):=by
 have hm:=gt_mem (l:=d) (j:=(j:Int)) (by omega) (by omega)
 obtain⟨h0,h1⟩:=hb _ hm
 obtain⟨x,hx⟩:∃x:Nat,gt d (j:Int)=x:=⟨_,(Int.toNat_of_nonneg h0).symm⟩
 have e1:gt (Xy n d) (x:Int)=j:=by
  rw[Qcx (by omega),←hx,if_pos hm,QaP hp hj]
 by_cases e:idx (fun y=>decide ((j:Int)=y)) (Xy n d) 0= -1
 ·have:=QdJ _ _ 0 (by omega) e _ (gt_mem (l:=Xy n d) (j:=(x:Int)) (by omega) (by rw[Qcw];omega))
  rw[e1] at this
  simp at this
 ·obtain⟨k,k1,k2,k3,_⟩:=QbB _ _ 0 e
  have k3:=of_decide_eq_true k3
  rw[Qcw] at k2
  rw[Qcx k2] at k3
  split at k3
  ·rename_i hk
   obtain⟨_,f2⟩:=Z8 hp hk
   rw[←k3] at f2
   rw[k1,f2];omega
  ·omega
theorem Qml{n rn:Nat}{im kn into:List Int}(h:Sd n rn im kn into)(hn:n≤1000)(hr:rn≤1000)(hi:im.length≤1000)(hk:kn.length≤1000):
  FT 151 [.int .i64 n,.lst 1 (QR (QY 0 ((Xc n im kn).length+(crL rn into).length))),.lst 1 (QR (Xy ((Xc n im kn).length+(crL rn into).length) (QY 0 (Xc n im kn).length))),.lst 1 (QR (Xy n (Xc n im kn))),.lst 1 (QR (ucL n rn im kn into)),.lst 1 (QR im),.lst 1 (QR kn)] (.arr 1 (QR (bkL n im kn))):=by
 have ld:=Qvm n im kn
 have lc:=QgC rn into
 have hbn:=h.bk_n
 have hbl:=Qcz n im kn
 have hix:=fun (j:Nat) (hj:j<(Xc n im kn).length)=>QvV (n:=n) (QaV n im kn) (fun x hx=>(rst_mem.1 hx).1) hj
 have hlo:=fun (j:Nat) (hj:j<(Xc n im kn).length)=>QbF (n:=n) (im:=im) (kn:=kn) hj
 have hut:=fun (i:Nat) hi=>h.utrk (i:=i) hi
 have l1:(Xy ((Xc n im kn).length+(crL rn into).length) (QY 0 (Xc n im kn).length)).length=(Xc n im kn).length+(crL rn into).length:=Qcw _ _
 have l2:=Yp 0 ((Xc n im kn).length+(crL rn into).length)
 have l3:(Xy n (Xc n im kn)).length=n:=Qcw _ _
 have l4:(ucL n rn im kn into).length=im.length:=QaU _ _ _ _ _ _
 have huc:∀i:Nat,i<im.length→¬(i:Int)∈kn→gt (ucL n rn im kn into) (i:Int)=((Xc n im kn).length+(crL i kn).length:Nat)∧gt (bkL n im kn) ((Xc n im kn).length+(crL i kn).length:Nat)=gt im (i:Int)∧(Xc n im kn).length+(crL i kn).length<n:=fun i hi hk=>by
  obtain⟨c1,c2,c3⟩:=h.uc_cr hi hk
  rw[Qcy (Nat.le_of_lt hi)] at c1 c2 c3
  have:=QcA (n:=n) (im:=im) (kn:=kn) c2
  rw[c3] at this
  exact⟨c1,this,by omega⟩
 have hug:∀i:Nat,i<im.length→0≤gt (ucL n rn im kn into) (i:Int):=fun i hi=>(h.und.cm_bd hi).1
 generalize hN:(Xc n im kn).length+(crL rn into).length=N at*
 generalize hB:bkL n im kn=B at*
 generalize hT:Xy N (QY 0 (Xc n im kn).length)=T at*
 generalize ucL n rn im kn into=C at*
 generalize Xy n (Xc n im kn)=T2 at*
 generalize Xc n im kn=d at*
 refine fo [] ?_
 conv in fnC ..=>reduce
 simp(disch:=omega)only[go_sem,ayS]
 refine Q8 24 N (fun _=>[]) (fun i=>[(0,.arr 1 (QR (fiL (fun j:Nat=>gt B (j:Int)) 0 n (min i d.length))))]) (fun _=>True) (by simp(disch:=omega)only[go_sem,Nat.zero_min,QlQ];try rfl) trivial fun i hi2 _=>?_
 have lf:=Qd7 (fun j:Nat=>gt B (j:Int)) 0 n (min i d.length)
 simp(disch:=omega)only[go_sem]
 refine QT (fun c=>?_) (fun c=>?_)
 ·have hu:=hut i (by omega)
  by_cases c:i<d.length
  ·rw[if_pos c] at hu
   have rI:=Qcd T2 (i:Int) (by unfold QS;omega)
   rw[hix i c,←hlo i c] at rI
   have hs:=QgA (f:=fun j:Nat=>gt B (j:Int)) (z:=0) (n:=n) (i:=i)
   have m1:min i d.length=i:=by omega
   have m2:min (i+1) d.length=i+1:=by omega
   rw[m1] at lf ⊢
   have hg:=YO (n:=N) (i:=i) (by omega)
   simp(disch:=omega)only[go_sem,ayS,hu,hg]
   refine QQ rI ?_
   simp(disch:=omega)only[go_sem,ayS,hs,hu,lf]
   exact⟨i+1,by rw[m2];simp,by omega,by omega⟩
  ·rw[if_neg c] at hu
   have m2:min (i+1) d.length=min i d.length:=by omega
   simp(disch:=omega)only[go_sem,ayS,hu]
   exact⟨i+1,by rw[m2];simp,by omega,by omega⟩
 ·obtain rfl:i=N:=by omega
  have m1:min i d.length=d.length:=by omega
  rw[m1]
  have lf2:=Qd7 (fun j:Nat=>gt B (j:Int)) 0 n d.length
  simp(disch:=omega)only[go_sem,ayS]
  refine Q8 43 im.length (fun _=>[]) (fun k=>[(0,.arr 1 (QR (fiL (fun j:Nat=>gt B (j:Int)) 0 n (d.length+(crL k kn).length))))]) (fun _=>True) (by simp(disch:=omega)only[go_sem,show (crL 0 kn).length=0 from rfl,Nat.add_zero];try rfl) trivial fun k hk2 _=>?_
  have lf3:=Qd7 (fun j:Nat=>gt B (j:Int)) 0 n (d.length+(crL k kn).length)
  have sc:=Qap k kn
  simp(disch:=omega)only[go_sem]
  refine QT (fun c=>?_) (fun c=>?_)
  ·have rK:=Zw kn (k:Int) (by unfold QS;omega)
   have hs:=QgA (f:=fun j:Nat=>gt B (j:Int)) (z:=0) (n:=n) (i:=d.length+(crL k kn).length)
   by_cases c:(k:Int)∈kn
   ·rw[if_pos (Qe c)] at sc
    simp(disch:=omega)only[go_sem,ayS]
    refine QQ rK ?_
    simp(disch:=omega)only[go_sem,ayS,c]
    exact⟨k+1,by rw[sc];simp,by omega,by omega⟩
   ·obtain⟨u1,u2,u3⟩:=huc k (by omega) c
    rw[if_neg (by simp [c])] at sc
    have sl:(crL (k+1) kn).length=(crL k kn).length+1:=by rw[sc];simp
    simp only[u2] at hs
    simp(disch:=omega)only[go_sem,ayS]
    refine QQ rK ?_
    simp(disch:=omega)only[go_sem,ayS,c,u1,hs,lf3]
    exact⟨k+1,by rw[sl];simp [QA],by omega,by omega⟩
  ·obtain rfl:k=im.length:=by omega
   have hz:fiL (fun j:Nat=>gt B (j:Int)) 0 n (d.length+(crL im.length kn).length)=B:=by
    rw[hbn,QlR]
    refine Qaa (by simp;omega) fun j hj=>?_
    have hj:j<n:=by simpa using hj
    rw[QV (by simpa using hj)]
    simp
   rw[hz] at lf3 ⊢
   simp(disch:=omega)only[go_sem,ayS,lf3]
section
variable {t:Ty}
theorem Qmm{N:Nat}{x:Int}(h:0≤x∧x<N):idx (fun y=>decide (x=y)) (QY 0 N) 0=x:=by
 obtain⟨j,rfl⟩:∃j:Nat,x=j:=⟨x.toNat,by omega⟩
 have e:=QaT (l:=QY 0 N) (Qdt N) (j:=j) (by rw[Yp];omega)
 rwa [YO (by omega)] at e
set_option maxHeartbeats 8000000 in
theorem QvW{r:Ru}{m:Mt}{b:Hs}{d:Mo}(s:StOk t r b m d)(hl:(XV t r b m d m.m.n.length).length≤10):
  FT 66 [tyD t,Xs (stS t r b m d),Q6 (Q3 t r b m d),hsD (stA t r b m d),.agg [.lst 1 (QR (QY 0 (stA t r b m d).g.n.length)),.lst 1 (QR (QY 0 (stA t r b m d).g.e.length))]]
   (.tup [Xs (stS t (Q3 t r b m d) (stA t r b m d) (XT r b m d) (Xt d)),mD (bkM b r m),.int .i64 0]):=by
 have h:=s.ty
 have su:=s.und hl
 have lb:=QX s.hs.g
 have la:=QX s.vg
 have ll:=QX s.ru.l.g
 have lr:=QX s.ru.rg
 have lk:=s.ru.k.len
 have cl:=s.cl
 have ln:=s.sm.ln
 have le:=s.sm.le
 have ra:=QgM su
 have rb:=Qml s.sn (by omega) (by omega) (by omega) (by omega)
 have rc:=Qml s.se (by omega) (by omega) (by omega) (by omega)
 rw[←s.dn] at rb
 rw[←s.de] at rc
 rw[←s.ucn] at rb
 rw[←s.uce] at rc
 rw[←YC r b d] at rb
 rw[←JN r b m.m d] at rc
 have hun:=s.ulen.1
 have hue:=s.ulen.2
 have hcn:∀i:Nat,i<(stC r b m.m d).n.length→0≤gt (stC r b m.m d).n (i:Int)∧gt (stC r b m.m d).n (i:Int)<(stA t r b m d).g.n.length:=fun i hi=>(s.cty (by omega)).1
 have hce:∀i:Nat,i<(stC r b m.m d).e.length→0≤gt (stC r b m.m d).e (i:Int)∧gt (stC r b m.m d).e (i:Int)<(stA t r b m d).g.e.length:=fun i hi=>(s.cet (by omega)).1
 have e1:stS t (Q3 t r b m d) (stA t r b m d) (XT r b m d) (Xt d)=⟨Q3 t r b m d,XT r b m d,stA t r b m d,Yl t r b m d,stT (stA t r b m d) (Xt d),stC (Q3 t r b m d) (stA t r b m d) (XT r b m d).m (Xt d)⟩:=rfl
 have e2:stS t r b m d=⟨r,m,b,stA t r b m d,stT b d,stC r b m.m d⟩:=rfl
 have e3:XT r b m d=⟨stC r b m.m d,[]⟩:=rfl
 have e4:mD (bkM b r m)=.agg [.lst 1 (QR (bkL b.g.n.length m.m.n r.k.n)),.lst 1 (QR (bkL b.g.e.length m.m.e r.k.e))]:=rfl
 have hnU:(Yl t r b m d).g.n.length=b.g.n.length:=hun
 have heU:(Yl t r b m d).g.e.length=b.g.e.length:=hue
 have hT1:Xy (stN r b d).length (QY 0 d.n.length)=(stT (stA t r b m d) (Xt d)).n:=rfl
 have hT2:Xy (Xr r b m.m d).length (QY 0 d.e.length)=(stT (stA t r b m d) (Xt d)).e:=rfl
 have hT3:Xy b.g.n.length d.n=(stT b d).n:=rfl
 have hT4:Xy b.g.e.length d.e=(stT b d).e:=rfl
 have hT5:(stN r b d).length=(stA t r b m d).g.n.length:=rfl
 have hT6:(Xr r b m.m d).length=(stA t r b m d).g.e.length:=rfl
 rw[hT1,hT3,hT5,←hnU] at rb
 rw[hT2,hT4,hT6,←heU] at rc
 rw[e1] at ra ⊢
 rw[e2,e4]
 simp only[e3] at ra rb rc ⊢
 clear e1 e2 e3 e4 hT1 hT2 hT3 hT4 hT5 hT6 hun hue su
 generalize Yl t r b m d=V at*
 generalize Q3 t r b m d=R at*
 generalize stC R (stA t r b m d) (stC r b m.m d) (Xt d)=C2 at*
 generalize stT (stA t r b m d) (Xt d)=T2 at*
 generalize stA t r b m d=A at*
 generalize stT b d=T at*
 generalize stC r b m.m d=C at*
 simp only[gD,mD,gA,mA,tyD,paD,paL,hsD,hsL,mtD,mtL,Xs,X0,fbD,fbE,cyL,ruL,Q6,List.cons_append,List.nil_append] at ra
 refine foZ [[(2,none,[],true),(6,none,[2],false),(7,none,[2],false)],[(2,none,[],true),(6,none,[2],false),(7,none,[2],false)],[(0,none,[],true),(25,none,[0],true),(29,(some 469762048),[25],false),(32,(some 2147483648),[25],false),(35,(some 25769803776),[25],false),(38,(some 206158430208),[25],false),(41,(some 1649267441664),[25],false),(45,(some 30786325577728),[25],false),(49,(some 492581209243648),[25],false),(50,none,[0],false)]] ?_
 conv in fnC ..=>reduce
 simp(disch:=omega)only[go_sem,ayS,Xs,X0,ruL,Q6,tyD,paL,fbE,cyL,mtL,hsL,hsD]
 refine Q8 24 C.n.length (fun _=>[]) (fun i=>[(41,.arr 1 (QR (C.n.take i))),(44,.box [.sl 41 0 i,.sl 42 0 0,.sl 43 0 0])]) (fun _=>True) (by simp(disch:=omega)only[go_sem];try rfl) trivial fun i hi _=>?_
 have hL:(C.n.take i).length=i:=by simp;omega
 simp(disch:=omega)only[go_sem]
 refine QT (fun c=>?_) (fun c=>?_)
 ·have rI:=Qcd (QY 0 A.g.n.length) (gt C.n (i:Int)) (by rw[Yp];unfold QS;omega)
  rw[Qmm (hcn i (by omega))] at rI
  simp(disch:=omega)only[go_sem,ayS,hL]
  refine QQ rI ?_
  simp(disch:=omega)only[go_sem,ayS,hL]
  exact⟨i+1,by rw[Xm (by omega)];simp,by omega,by omega⟩
 ·obtain rfl:i=C.n.length:=by omega
  rw[List.take_length] at*
  simp(disch:=omega)only[go_sem,ayS,hL]
  refine Q8 44 C.e.length (fun _=>[]) (fun i=>[(42,.arr 1 (QR (C.e.take i))),(44,.box [.sl 41 0 C.n.length,.sl 42 0 i,.sl 43 0 0])]) (fun _=>True) (by simp(disch:=omega)only[go_sem];try rfl) trivial fun i hi _=>?_
  have hM:(C.e.take i).length=i:=by simp;omega
  simp(disch:=omega)only[go_sem]
  refine QT (fun c=>?_) (fun c=>?_)
  ·have rI:=Qcd (QY 0 A.g.e.length) (gt C.e (i:Int)) (by rw[Yp];unfold QS;omega)
   rw[Qmm (hce i (by omega))] at rI
   simp(disch:=omega)only[go_sem,ayS,hM]
   refine QQ rI ?_
   simp(disch:=omega)only[go_sem,ayS,hM]
   exact⟨i+1,by rw[Xm (by omega)];simp,by omega,by omega⟩
  ·obtain rfl:i=C.e.length:=by omega
   rw[List.take_length] at*
   simp(disch:=omega)only[go_sem,ayS,hL,hM]
   refine QQ ra ?_
   simp(disch:=omega)only[go_sem,ayS]
   refine QQ rb ?_
   simp(disch:=omega)only[go_sem,ayS]
   refine QQ rc ?_
   simp(disch:=omega)only[go_sem,ayS]
   rw[hnU,heU]
theorem QvX{r:Ru}{m:Mt}{b:Hs}{d:Mo}(s:StOk t r b m d):FT 65 [tyD t,Xs (stS t r b m d)] (if (XV t r b m d m.m.n.length).length≤10 then .tup [Q6 (Q3 t r b m d),.int .i64 0] else .tup [ruZ,.int .i64 3]):=by
 have r1:=QvQ s.ty
 have r2:=Qme s
 have r3:=QvU s
 have e2:stS t r b m d=⟨r,m,b,stA t r b m d,stT b d,stC r b m.m d⟩:=rfl
 rw[e2] at r2 r3 ⊢
 clear e2
 generalize XV t r b m d m.m.n.length=U at*
 generalize Q3 t r b m d=R at*
 generalize stA t r b m d=A at*
 generalize stT b d=T at*
 generalize stC r b m.m d=C at*
 simp only[tyD,Xs,X0,fbE,cyL,ruL,paL,hsL,mtL,List.cons_append,List.nil_append] at r1 r2 r3
 by_cases hu:U.length≤10
 ·rw[if_pos hu] at r3 ⊢
  simp only[Q6,fbE,cyL,ruL,paL,List.cons_append,List.nil_append] at r3 ⊢
  refine foZ [] ?_
  conv in fnC ..=>reduce
  simp(disch:=omega)only[go_sem,ayS,Xs,X0,ruL,tyD,paL,fbE,cyL,mtL,hsL]
  refine QQ r1 ?_
  simp(disch:=omega)only[go_sem,ayS]
  refine QQ r2 ?_
  simp(disch:=omega)only[go_sem,ayS]
  refine QQ r3 ?_
  simp(disch:=omega)only[go_sem,ayS]
 ·rw[if_neg hu] at r3 ⊢
  refine foZ [] ?_
  conv in fnC ..=>reduce
  simp(disch:=omega)only[go_sem,ayS,Xs,X0,ruL,tyD,paL,fbE,cyL,mtL,hsL]
  refine QQ r1 ?_
  simp(disch:=omega)only[go_sem,ayS]
  refine QQ r2 ?_
  simp(disch:=omega)only[go_sem,ayS]
  refine QQ r3 ?_
  simp(disch:=omega)only[go_sem,ayS,ruZ]
def stZ:D:=.agg [.str (bs []),.lst 1 [],.lst 3 [],.lst 4 [],.int .i64 0,.lst 5 [],.lst 1 [],.lst 3 [],.lst 4 [],.int .i64 0,.lst 5 [],.lst 1 [],.lst 1 [],.lst 1 [],.lst 1 [],.bool false,.int .i64 0,.lst 9 [],.lst 1 [],.lst 1 [],.lst 1 [],.lst 3 [],.lst 4 [],.int .i64 0,.lst 5 [],.lst 1 [],.lst 1 [],.lst 1 [],.lst 1 [],.lst 3 [],.lst 1 [],.lst 1 [],.lst 3 [],.lst 1 [],.lst 1 [],.lst 1 [],.lst 1 [],.lst 1 []]
def moZ:D:=.agg [.lst 1 [],.lst 1 []]
set_option maxHeartbeats 8000000 in
theorem QvY{r:Ru}{m:Mt}{b:Hs}{d:Mo}(s:StOk t r b m d):FT 24 [tyD t,Xs (stS t r b m d)] (if (XV t r b m d m.m.n.length).length≤10 then .tup [Xs (stS t (Q3 t r b m d) (stA t r b m d) (XT r b m d) (Xt d)),mD (bkM b r m),.int .i64 0] else .tup [stZ,moZ,.int .i64 3]):=by
 have la:=QX s.vg
 have r1:=QvX s
 have r2:=QvR (stA t r b m d).g (by omega) (by omega)
 by_cases hu:(XV t r b m d m.m.n.length).length≤10
 ·have r3:=QvW s hu
  rw[if_pos hu] at r1 ⊢
  have e1:stS t (Q3 t r b m d) (stA t r b m d) (XT r b m d) (Xt d)=⟨Q3 t r b m d,XT r b m d,stA t r b m d,Yl t r b m d,stT (stA t r b m d) (Xt d),stC (Q3 t r b m d) (stA t r b m d) (XT r b m d).m (Xt d)⟩:=rfl
  have e2:stS t r b m d=⟨r,m,b,stA t r b m d,stT b d,stC r b m.m d⟩:=rfl
  rw[e1,e2] at r3 ⊢
  rw[e2] at r1
  clear e1 e2
  generalize stC (Q3 t r b m d) (stA t r b m d) (XT r b m d).m (Xt d)=C2 at*
  generalize stT (stA t r b m d) (Xt d)=T2 at*
  generalize Yl t r b m d=V at*
  generalize XT r b m d=M at*
  generalize Q3 t r b m d=R at*
  generalize stA t r b m d=A at*
  generalize stT b d=T at*
  generalize stC r b m.m d=C at*
  generalize bkM b r m=B at*
  simp only[gD,mD,tyD,Xs,X0,Q6,fbE,cyL,ruL,paL,hsD,hsL,mtL,List.cons_append,List.nil_append] at r1 r2 r3 ⊢
  refine foZ [[(0,none,[],true),(1,none,[],true),(2,none,[],true),(4,none,[],true),(8,none,[0,1,2,4],false)]] ?_
  conv in fnC ..=>reduce
  simp(disch:=omega)only[go_sem,ayS,Xs,X0,ruL,tyD,paL,fbE,cyL,mtL,hsL]
  refine QQ r1 ?_
  simp(disch:=omega)only[go_sem,ayS]
  refine QQ r2 ?_
  simp(disch:=omega)only[go_sem,ayS]
  refine QQ r3 ?_
  simp(disch:=omega)only[go_sem,ayS]
 ·rw[if_neg hu] at r1 ⊢
  have e2:stS t r b m d=⟨r,m,b,stA t r b m d,stT b d,stC r b m.m d⟩:=rfl
  rw[e2] at r1 ⊢
  clear e2
  generalize stA t r b m d=A at*
  generalize stT b d=T at*
  generalize stC r b m.m d=C at*
  simp only[tyD,Xs,X0,fbE,cyL,ruL,paL,hsL,mtL,List.cons_append,List.nil_append] at r1
  refine foZ [[(0,none,[],true),(1,none,[],true),(2,none,[],true),(4,none,[],true),(8,none,[0,1,2,4],false)]] ?_
  conv in fnC ..=>reduce
  simp(disch:=omega)only[go_sem,ayS,Xs,X0,ruL,tyD,paL,fbE,cyL,mtL,hsL]
  refine QQ r1 ?_
  simp(disch:=omega)only[go_sem,ayS,ruZ]
  rfl
end
end Go.Am
