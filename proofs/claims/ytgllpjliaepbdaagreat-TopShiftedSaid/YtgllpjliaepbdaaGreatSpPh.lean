/- Shifting conditions: plain. -/
import Derived.Test.YtgllpjliaepbdaaGreatSpPa
import Derived.Test.YtgllpjliaepbdaaGreatSpPb
import Derived.Test.YtgllpjliaepbdaaGreatSpPc
import Derived.Test.YtgllpjliaepbdaaGreatSpPd
import Derived.Test.YtgllpjliaepbdaaGreatSpPe
import Derived.Test.YtgllpjliaepbdaaGreatSpPf
import Derived.Test.YtgllpjliaepbdaaGreatSpPg
import Derived.Test.YtgllpjliaepbdaaGreatAmZc
namespace Go.Am
open Go
set_option linter.unusedVariables false
set_option linter.unusedSimpArgs false
def ZM(a l c r:List Int):Bool:=(List.range a.length).all fun i=>decide (gt l (gt a (i:Int))=gt r (gt c (i:Int)))
def Jf(b:G)(m n:Mo)(o:List Int×List Int):Bool:=ZM m.n (Xf 0 b.n.length) n.n (Xy b.n.length o.1)&&ZM m.e (Xf 0 b.e.length) n.e (Xy b.e.length o.2)
def ovA(b p:G)(m n:Mo):List (List Int×List Int):=(Z1 b p).filter (Jf b m n)
mutual
def shf:Cnd→G→Mo→Cnd
 | .tt,_,_=>.tt
 | .no c,b,m=>.no (shf c b m)
 | .an l,b,m=>.an (YL l b m)
 | .or l,b,m=>.or (YL l b m)
 | .ex n p c,b,m=>.or ((ovA b p m n).map fun o=>.ex (idM b) (ovG b p o.1 o.2) (shf c (ovG b p o.1 o.2) (ovM b o.1 o.2)))
def YL:List Cnd→G→Mo→List Cnd
 |[],_,_=>[]
 |c::l,b,m=>shf c b m::YL l b m
end
mutual
def ZN:Cnd→G→Mo→Prop
 | .tt,_,_=>True
 | .no c,b,m=>ZN c b m
 | .an l,b,m=>QaI l b m
 | .or l,b,m=>QaI l b m
 | .ex n p c,b,m=>(b.n.length+p.n.length≤40∧b.e.length+p.e.length≤80)∧∀o∈ovA b p m n,ZN c (ovG b p o.1 o.2) (ovM b o.1 o.2)
def QaI:List Cnd→G→Mo→Prop
 |[],_,_=>True
 |c::l,b,m=>ZN c b m∧QaI l b m
end
section
theorem QYz{a b p:G}{m n:Mo}{o:List Int×List Int}(hm:MOk a b m)(hn:MOk a p n):Jf b m n o=true↔Agr a b m n o.1 o.2:=by
 have l1:=hm.ln
 have l2:=hm.le
 have hnn:∀(n i:Nat),i<n→gt (Xf 0 n) (i:Int)=i:=fun n i hi=>XN hi
 simp only[Jf,ZM,Qi,Qr,List.mem_range,Qk,Agr,l1,l2]
 constructor
 ·rintro⟨h1,h2⟩
  refine⟨fun i hi=>?_,fun i hi=>?_⟩
  ·obtain⟨u,hu,hu2⟩:=gtI (hm.nd i hi).1
   have:=h1 i hi
   rw[hu2,hnn _ _ hu] at this
   rw[hu2,this]
  ·obtain⟨u,hu,hu2⟩:=gtI (hm.ed i hi).1
   have:=h2 i hi
   rw[hu2,hnn _ _ hu] at this
   rw[hu2,this]
 ·rintro⟨h1,h2⟩
  refine⟨fun i hi=>?_,fun i hi=>?_⟩
  ·obtain⟨u,hu,hu2⟩:=gtI (hm.nd i hi).1
   have:=h1 i hi
   rw[hu2] at this
   rw[hu2,hnn _ _ hu,this]
  ·obtain⟨u,hu,hu2⟩:=gtI (hm.ed i hi).1
   have:=h2 i hi
   rw[hu2] at this
   rw[hu2,hnn _ _ hu,this]
theorem QkT{a b p:G}{m n:Mo}{o:List Int×List Int}(hm:MOk a b m)(hn:MOk a p n):o∈ovA b p m n↔OvOk b p o.1 o.2∧Agr a b m n o.1 o.2:=by
 rw[ovA,List.mem_filter,QYz hm hn]
 have:o∈Z1 b p↔OvOk b p o.1 o.2:=mem_lapL
 rw[this]
noncomputable def gluL (H v:List Int) (n:Nat):List Int:=(facL H (Xf 0 n)).map fun j=>if j<0 then -1 else gt v j
theorem QFg{H v:List Int}{n i:Nat}(hi:i<n):(gt (gluL H v n) (i:Int)= -1∧∀j:Nat,j<H.length→gt H (j:Int)≠(i:Int))∨∃j:Nat,j<H.length∧gt (gluL H v n) (i:Int)=gt v (j:Int)∧gt H (j:Int)=(i:Int):=by
 have hl:(facL H (Xf 0 n)).length=n:=by rw[QcW,Xh]
 have e:gt (Xf 0 n) (i:Int)=i:=XN hi
 rw[gluL,JZ (by omega)]
 rcases QkR (H:=H) (v:=Xf 0 n) (i:=i) (by rw[Xh];exact hi) with⟨h1,h2⟩|⟨j,h1,h2,h3⟩
 ·left
  rw[h1]
  exact⟨rfl,fun j hj=>by rw[←e];exact h2 j hj⟩
 ·right
  rw[h2,if_neg (by omega)]
  exact⟨j,h1,rfl,by rw[h3,e]⟩
theorem QYA{a b p:G}{m n:Mo}(hm:Emb a b m)(hn:Emb a p n):∃o,o∈ovA b p m n:=by
 refine⟨(gluL n.n m.n p.n.length,gluL n.e m.e p.e.length),(QkT hm.ok hn.ok).2 ?_⟩
 have a1:=hm.ok.ln
 have a2:=hm.ok.le
 have a3:=hn.ok.ln
 have a4:=hn.ok.le
 have gn:=fun i (hi:i<p.n.length)=>QFg (H:=n.n) (v:=m.n) hi
 have ge:=fun i (hi:i<p.e.length)=>QFg (H:=n.e) (v:=m.e) hi
 have m1:(gluL n.n m.n p.n.length).length=p.n.length:=by rw[gluL,Qv,QcW,Xh]
 have m2:(gluL n.e m.e p.e.length).length=p.e.length:=by rw[gluL,Qv,QcW,Xh]
 simp only
 generalize gluL n.n m.n p.n.length=ns at*
 generalize gluL n.e m.e p.e.length=es at*
 obtain⟨_,_,_,p4⟩:=Q8 hn.ok.vb
 obtain⟨_,_,_,a5⟩:=Q8 hm.ok.va
 have hn2:∀u:Nat,u<a.n.length→∀i:Int,gt n.n (u:Int)=i→gt ns i=gt m.n (u:Int):=fun u hu i e=>by
  have hr:=(hn.ok.nd u hu).1
  obtain⟨j,hj,hj2⟩:=gtI hr
  rw[←e,hj2]
  rcases gn j hj with⟨_,w⟩|⟨v,hv,e1,e2⟩
  ·exact absurd hj2 (w u (by omega))
  ·rw[e1]
   have:=hn.jn u v hu (by omega) (by rw[hj2,e2])
   rw[this]
 have he2:∀u:Nat,u<a.e.length→∀i:Int,gt n.e (u:Int)=i→gt es i=gt m.e (u:Int):=fun u hu i e=>by
  have hr:=(hn.ok.ed u hu).1
  obtain⟨j,hj,hj2⟩:=gtI hr
  rw[←e,hj2]
  rcases ge j hj with⟨_,w⟩|⟨v,hv,e1,e2⟩
  ·exact absurd hj2 (w u (by omega))
  ·rw[e1]
   have:=hn.je u v hu (by omega) (by rw[hj2,e2])
   rw[this]
 refine⟨⟨m1,m2,fun i hi=>?_,fun i k hi hk h0 e=>?_,fun i hi=>?_,fun i k hi hk h0 e=>?_⟩,fun i hi=>?_,fun i hi=>?_⟩
 ·rcases gn i hi with⟨w,_⟩|⟨v,hv,e1,e2⟩
  ·exact .inl w
  ·have h1:=hm.ok.nd v (by omega)
   have h2:=hn.ok.nd v (by omega)
   refine .inr ⟨by rw[e1];exact h1.1,?_⟩
   rw[e1,h1.2,←h2.2,e2]
 ·rcases gn i hi with⟨w,_⟩|⟨v,hv,e1,e2⟩
  ·omega
  ·rcases gn k hk with⟨w,_⟩|⟨u,hu,e3,e4⟩
   ·omega
   ·have:=hm.jn v u (by omega) (by omega) (by rw[←e1,←e3,e])
    subst this
    omega
 ·rcases ge i hi with⟨w,_⟩|⟨v,hv,e1,e2⟩
  ·exact .inl w
  ·have h1:=hm.ok.ed v (by omega)
   have h2:=hn.ok.ed v (by omega)
   refine .inr ⟨by rw[e1];exact h1.1,?_⟩
   rw[e2] at h2
   have ha:=a5 _ (gt_mem (l:=a.e) (j:=(v:Int)) (by omega) (by omega))
   simp only[XP,Qi,Qk] at ha
   obtain⟨u,hu,hu2⟩:=gtI (l:=a.n) (y:=(gt a.e (v:Int)).f) (by omega)
   obtain⟨w,hw,hw2⟩:=gtI (l:=a.n) (y:=(gt a.e (v:Int)).o) (by omega)
   rw[e1]
   obtain⟨_,t1,t2,t3⟩:=h1
   obtain⟨_,t4,t5,t6⟩:=h2
   rw[hu2] at t2 t5
   rw[hw2] at t3 t6
   have g1:=hn2 u hu _ t5
   have g2:=hn2 w hw _ t6
   simp only[Ym]
   rw[g1,g2,t2,t3,←t4,t1]
 ·rcases ge i hi with⟨w,_⟩|⟨v,hv,e1,e2⟩
  ·omega
  ·rcases ge k hk with⟨w,_⟩|⟨u,hu,e3,e4⟩
   ·omega
   ·have:=hm.je v u (by omega) (by omega) (by rw[←e1,←e3,e])
    subst this
    omega
 ·obtain⟨j,hj,hj2⟩:=gtI (hn.ok.nd i hi).1
  have h1:=hn2 i hi _ rfl
  have h2:=(hm.ok.nd i hi).1
  rw[hj2] at h1 ⊢
  rw[(Jv (by omega)).2 (by omega),h1]
 ·obtain⟨j,hj,hj2⟩:=gtI (hn.ok.ed i hi).1
  have h1:=he2 i hi _ rfl
  have h2:=(hm.ok.ed i hi).1
  rw[hj2] at h1 ⊢
  rw[(Jv (by omega)).2 (by omega),h1]
mutual
theorem Qb5{a b:G}{m:Mo}:∀(c:Cnd),Q3 a c→Emb a b m→ZN c b m→Q3 b (shf c b m)∧∀x h,Emb b x h→(XK x (shf c b m) h↔XK x c (QY m h))
 | .tt,_,_,_=>⟨by simp [shf,Q3],fun x h _=>by simp [shf,XK]⟩
 | .no c,ho,hm,hs=>by
  simp only[Q3,ZN] at ho hs
  obtain⟨h1,h2⟩:=Qb5 c ho hm hs
  refine⟨by simp only[shf,Q3];exact h1,fun x h hh=>?_⟩
  simp only[shf,XK]
  rw[h2 x h hh]
 | .an l,ho,hm,hs=>by
  simp only[Q3,ZN] at ho hs
  obtain⟨h1,h2,h3,h4⟩:=QkU l ho.2 hm hs
  refine⟨by simp only[shf,Q3];exact⟨fun e=>ho.1 (h2 e),h1⟩,fun x h hh=>?_⟩
  simp only[shf,XK]
  exact h3 x h hh
 | .or l,ho,hm,hs=>by
  simp only[Q3,ZN] at ho hs
  obtain⟨h1,h2,h3,h4⟩:=QkU l ho.2 hm hs
  refine⟨by simp only[shf,Q3];exact⟨fun e=>ho.1 (h2 e),h1⟩,fun x h hh=>?_⟩
  simp only[shf,XK]
  exact h4 x h hh
 | .ex n p c,ho,hm,hs=>by
  simp only[Q3,ZN] at ho hs
  obtain⟨hn,hc⟩:=ho
  obtain⟨⟨s1,s2⟩,hs⟩:=hs
  have hall:∀o∈ovA b p m n,(Emb b (ovG b p o.1 o.2) (idM b)∧Emb p (ovG b p o.1 o.2) (ovM b o.1 o.2))∧Agr a b m n o.1 o.2:=fun o h=>by
   obtain⟨h1,h2⟩:=(QkT hm.ok hn.ok).1 h
   exact⟨QeR hm.ok.vb hn.ok.vb s1 s2 h1,h2⟩
  refine⟨?_,fun x h hh=>?_⟩
  ·simp only[shf,Q3,Ju]
   obtain⟨o,ho⟩:=QYA hm hn
   refine⟨fun e=>?_,fun d hd=>?_⟩
   ·rw[List.map_eq_nil_iff] at e
    rw[e] at ho
    cases ho
   ·obtain⟨o,ho,rfl⟩:=Qu.1 hd
    obtain⟨⟨k1,k2⟩,_⟩:=hall o ho
    simp only[Q3]
    exact⟨k1,(Qb5 c hc k2 (hs o ho)).1⟩
  ·simp only[shf,XK,QvG]
   constructor
   ·rintro⟨d,hd,hx⟩
    obtain⟨o,ho,rfl⟩:=Qu.1 hd
    obtain⟨⟨k1,k2⟩,k3⟩:=hall o ho
    simp only[XK] at hx
    obtain⟨k,hk,hk1,hk2⟩:=hx
    refine⟨QY (ovM b o.1 o.2) k,k2.comp hk,?_,?_⟩
    ·exact ((QFf hm.ok hn.ok k1 k2 hk hk1 rfl).2 k3).symm
    ·exact ((Qb5 c hc k2 (hs o ho)).2 x k hk).1 hk2
   ·rintro⟨q,hq,hq1,hq2⟩
    obtain⟨h1,k,hk,hk1,hk2⟩:=QYy hh hq s1 s2
    obtain⟨k1,k2⟩:=QeR hm.ok.vb hn.ok.vb s1 s2 h1
    have hg:=(QFf hm.ok hn.ok k1 k2 hk hk1 hk2).1 hq1.symm
    have ho:(facL h.n q.n,facL h.e q.e)∈ovA b p m n:=(QkT hm.ok hn.ok).2 ⟨h1,hg⟩
    refine⟨_,Qu.2 ⟨_,ho,rfl⟩,?_⟩
    simp only[XK]
    refine⟨k,hk,hk1,((Qb5 c hc k2 (hs _ ho)).2 x k hk).2 ?_⟩
    rw[hk2]
    exact hq2
theorem QkU{a b:G}{m:Mo}:∀(l:List Cnd),YK a l→Emb a b m→QaI l b m→YK b (YL l b m)∧(YL l b m=[]→l=[])∧(∀x h,Emb b x h→(Jb x (YL l b m) h↔Jb x l (QY m h)))∧∀x h,Emb b x h→(Zw x (YL l b m) h↔Zw x l (QY m h))
 |[],_,_,_=>⟨by simp [YL,YK],fun _=>rfl,fun x h _=>by simp [YL,Jb],fun x h _=>by simp [YL,Zw]⟩
 |c::l,ho,hm,hs=>by
  simp only[YK,QaI] at ho hs
  obtain⟨h1,h2⟩:=Qb5 c ho.1 hm hs.1
  obtain⟨h3,_,h4,h5⟩:=QkU l ho.2 hm hs.2
  refine⟨by simp only[YL,YK];exact⟨h1,h3⟩,fun e=>by simp [YL] at e,fun x h hh=>?_,fun x h hh=>?_⟩
  ·simp only[YL,Jb]
   rw[h2 x h hh,h4 x h hh]
  ·simp only[YL,Zw]
   rw[h2 x h hh,h5 x h hh]
end
end
structure Spn where
 l:G
 r:G
 k:Mo
 i:Mo
 deriving DecidableEq,Inhabited
def YF(m:Mo):Mo:=⟨srt m.n,srt m.e⟩
def Zm(p into keep:List Int):List Int:=p.map fun x=>gt keep (idx (fun y=>decide (x=y)) into 0)
def atL(l im:List Int):List Int:=im.map fun x=>idx (fun y=>decide (x=y)) l 0
def Q0(s:Spn)(m:Mo)(x:G):Cx:=⟨s.r,x,YF s.i,m⟩
def Xs(s:Spn)(m:Mo)(x:G)(z:Mo):Sp:=⟨ptG s.l s.k,s.l,ptG x z,s.k,⟨atL z.n (thr s.i.n m.n),atL z.e (thr s.i.e m.e)⟩⟩
def Jg(x y:G)(z q:Mo):Spn:=⟨y,x,YF q,⟨Zm (srt q.n) q.n z.n,Zm (srt q.e) q.e z.e⟩⟩
mutual
def lft:Cnd→Spn→Cnd×Int
 | .tt,_=>(.tt,0)
 | .no c,s=>if (lft c s).2=0 then (.no (lft c s).1,0) else (.tt,(lft c s).2)
 | .an l,s=>if (Xq l s).2=0 then (.an (Xq l s).1,0) else (.tt,(Xq l s).2)
 | .or l,s=>if (Xq l s).2=0 then (.or (Xq l s).1,0) else (.tt,(Xq l s).2)
 | .ex m x c,s=>
  if (cxR (Q0 s m x)).2≠0 then (.no .tt,0)
  else if Yt (Xs s m x (cxR (Q0 s m x)).1)≠0 then (.tt,Yt (Xs s m x (cxR (Q0 s m x)).1))
  else if (lft c (Jg x (poG (Xs s m x (cxR (Q0 s m x)).1)) (cxR (Q0 s m x)).1 (poK (Xs s m x (cxR (Q0 s m x)).1)))).2=0 then
   (.ex (poP (Xs s m x (cxR (Q0 s m x)).1)) (poG (Xs s m x (cxR (Q0 s m x)).1)) (lft c (Jg x (poG (Xs s m x (cxR (Q0 s m x)).1)) (cxR (Q0 s m x)).1 (poK (Xs s m x (cxR (Q0 s m x)).1)))).1,0)
  else (.tt,(lft c (Jg x (poG (Xs s m x (cxR (Q0 s m x)).1)) (cxR (Q0 s m x)).1 (poK (Xs s m x (cxR (Q0 s m x)).1)))).2)
def Xq:List Cnd→Spn→List Cnd×Int
 |[],_=>([],0)
 |c::l,s=>if (lft c s).2≠0 then ([],(lft c s).2) else if (Xq l s).2≠0 then ([],(Xq l s).2) else ((lft c s).1::(Xq l s).1,0)
end
structure SpnOk(s:Spn):Prop where
 k:PK s.l s.k
 i:Emb (ptG s.l s.k) s.r s.i
def κN(s:Spn):Int→Int→Prop:=Kpr (ptG s.l s.k).n.length s.k.n s.i.n
def κE(s:Spn):Int→Int→Prop:=Kpr (ptG s.l s.k).e.length s.k.e s.i.e
section
theorem QcX{l:List Int}(h:l.Nodup):(srt l).Pairwise (·<·):=by
 have h1:=QdU l
 have h2:(srt l).Nodup:=(QaB l).nodup_iff.2 h
 rw[List.pairwise_iff_getElem] at h1 ⊢
 rw[List.nodup_iff_pairwise_ne,List.pairwise_iff_getElem] at h2
 intro i j hi hj hij
 have:=h1 i j hi hj hij
 have:=h2 i j hi hj hij
 omega
theorem srt_mem{l:List Int}{x:Int}:x∈srt l↔x∈l:=(QaB l).mem_iff
theorem QFh{a b:G}{m:Mo}(h:Emb a b m):PK b (YF m):=by
 have l1:=h.ok.ln
 have l2:=h.ok.le
 have hr:∀x∈m.n,0≤x∧x<b.n.length:=fun x hx=>by
  obtain⟨i,hi,rfl⟩:=X2 hx
  exact (h.ok.nd i (by omega)).1
 have hre:∀x∈m.e,0≤x∧x<b.e.length:=fun x hx=>by
  obtain⟨i,hi,rfl⟩:=X2 hx
  exact (h.ok.ed i (by omega)).1
 refine⟨h.ok.vb,⟨QcX h.nn,fun x hx=>hr x (srt_mem.1 hx)⟩,⟨QcX h.ne,fun x hx=>hre x (srt_mem.1 hx)⟩,fun x hx=>?_⟩
 obtain⟨i,hi,rfl⟩:=X2 (srt_mem.1 hx)
 obtain⟨_,_,t2,t3⟩:=h.ok.ed i (by omega)
 obtain⟨f1,f2⟩:=JJ h.ok.va (Bd.of (show i<a.e.length by omega))
 refine⟨srt_mem.2 ?_,srt_mem.2 ?_⟩
 ·rw[←t2];exact gt_mem f1.1 (by have:=f1.2;omega)
 ·rw[←t3];exact gt_mem f2.1 (by have:=f2.2;omega)
theorem QFi{p into keep:List Int}{i:Nat}(hi:i<p.length)(hn:into.Nodup){j:Nat}(hj:j<into.length)(e:gt into (j:Int)=gt p (i:Int)):gt (Zm p into keep) (i:Int)=gt keep (j:Int):=by
 rw[Zm,JZ hi,←e,QcS hn hj]
theorem QFj{c x y:G}{z q:Mo}(hq:Emb c y q)(hz:Emb c x z):SpnOk (Jg x y z q)∧κN (Jg x y z q)=Kpr c.n.length q.n z.n∧κE (Jg x y z q)=Kpr c.e.length q.e z.e:=by
 have hp:=QFh hq
 have l1:=hq.ok.ln
 have l2:=hq.ok.le
 have l3:=hz.ok.ln
 have l4:=hz.ok.le
 have la:(ptG y (YF q)).n.length=q.n.length:=by show (thr (srt q.n) y.n).length=_;rw[Xp,Zf]
 have lb:(ptG y (YF q)).e.length=q.e.length:=by show (exL y (srt q.n) (srt q.e)).length=_;rw[Je,Zf]
 have s1:(srt q.n).length=q.n.length:=Zf _
 have s2:(srt q.e).length=q.e.length:=Zf _
 --each place of the sorted list is the image of one element
 have pn:∀i:Nat,i<q.n.length→∃j:Nat,j<c.n.length∧gt q.n (j:Int)=gt (srt q.n) (i:Int)∧gt (Zm (srt q.n) q.n z.n) (i:Int)=gt z.n (j:Int):=fun i hi=>by
  obtain⟨j,hj,e⟩:=X2 (srt_mem.1 (gt_mem (l:=srt q.n) (j:=(i:Int)) (by omega) (by omega)))
  exact⟨j,by omega,e,QFi (by omega) hq.nn hj e⟩
 have pe:∀i:Nat,i<q.e.length→∃j:Nat,j<c.e.length∧gt q.e (j:Int)=gt (srt q.e) (i:Int)∧gt (Zm (srt q.e) q.e z.e) (i:Int)=gt z.e (j:Int):=fun i hi=>by
  obtain⟨j,hj,e⟩:=X2 (srt_mem.1 (gt_mem (l:=srt q.e) (j:=(i:Int)) (by omega) (by omega)))
  exact⟨j,by omega,e,QFi (by omega) hq.ne hj e⟩
 have nn:(srt q.n).Nodup:=Qb4 (QcX hq.nn)
 have ne:(srt q.e).Nodup:=Qb4 (QcX hq.ne)
 have hex:=Qak hp
 --the images of the part's elements
 have en:∀i:Nat,i<q.n.length→gt (YF q).n (i:Int)=gt (srt q.n) (i:Int):=fun _ _=>rfl
 have hi:Emb (ptG y (YF q)) x ⟨Zm (srt q.n) q.n z.n,Zm (srt q.e) q.e z.e⟩:=by
  refine⟨⟨hex.ok.va,hz.ok.vb,by simp only[Zm,Qv,s1,la],by simp only[Zm,Qv,s2,lb],fun i hi=>?_,fun i hi=>?_⟩,fun i k hi hk e=>?_,fun i k hi hk e=>?_⟩
  ·rw[la] at hi
   obtain⟨j,hj,e1,e2⟩:=pn i hi
   simp only
   rw[e2]
   refine⟨(hz.ok.nd j hj).1,?_⟩
   have h1:=(hex.ok.nd i (by omega)).2
   change gt y.n (gt (srt q.n) (i:Int))=_ at h1
   rw[←e1,(hq.ok.nd j hj).2] at h1
   rw[(hz.ok.nd j hj).2,h1]
  ·rw[lb] at hi
   obtain⟨j,hj,e1,e2⟩:=pe i hi
   obtain⟨_,h1,h2,h3⟩:=hex.ok.ed i (by omega)
   obtain⟨_,g1,g2,g3⟩:=hq.ok.ed j hj
   obtain⟨r1,t1,t2,t3⟩:=hz.ok.ed j hj
   obtain⟨f1,f2⟩:=JJ hex.ok.va (Bd.of (show i<(ptG y (YF q)).e.length by omega))
   obtain⟨c1,c2⟩:=JJ hq.ok.va (Bd.of hj)
   change (gt (ptG y (YF q)).e (i:Int)).t=(gt y.e (gt (srt q.e) (i:Int))).t at h1
   change gt (srt q.n) (gt (ptG y (YF q)).e (i:Int)).f=(gt y.e (gt (srt q.e) (i:Int))).f at h2
   change gt (srt q.n) (gt (ptG y (YF q)).e (i:Int)).o=(gt y.e (gt (srt q.e) (i:Int))).o at h3
   rw[←e1] at h1 h2 h3
   simp only
   rw[e2]
   generalize gt (ptG y (YF q)).e (i:Int)=X at*
   obtain⟨a,ha,ha2⟩:=f1.nat
   obtain⟨b,hb,hb2⟩:=f2.nat
   rw[la] at ha hb
   obtain⟨u,hu,u1,u2⟩:=pn a ha
   obtain⟨v,hv,v1,v2⟩:=pn b hb
   obtain⟨w,hw,hw2⟩:=c1.nat
   obtain⟨o,ho,ho2⟩:=c2.nat
   rw[ha2,←u1,←g2,hw2] at h2
   rw[hb2,←v1,←g3,ho2] at h3
   have x1:=hq.jn u w hu hw h2
   have x2:=hq.jn v o hv ho h3
   refine⟨r1,by rw[h1,←g1,t1],?_,?_⟩
   ·rw[ha2,u2,x1,←hw2,t2]
   ·rw[hb2,v2,x2,←ho2,t3]
  ·rw[la] at hi hk
   obtain⟨j,hj,e1,e2⟩:=pn i hi
   obtain⟨t,ht,e3,e4⟩:=pn k hk
   simp only at e
   rw[e2,e4] at e
   have:=hz.jn j t hj ht e
   subst this
   exact Y0 nn (by omega) (by omega) (by rw[←e1,←e3])
  ·rw[lb] at hi hk
   obtain⟨j,hj,e1,e2⟩:=pe i hi
   obtain⟨t,ht,e3,e4⟩:=pe k hk
   simp only at e
   rw[e2,e4] at e
   have:=hz.je j t hj ht e
   subst this
   exact Y0 ne (by omega) (by omega) (by rw[←e1,←e3])
 refine⟨⟨hp,hi⟩,?_,?_⟩
 ·funext a b
  apply propext
  show Kpr (ptG y (YF q)).n.length (srt q.n) (Zm (srt q.n) q.n z.n) a b↔_
  rw[la]
  constructor
  ·rintro⟨t,ht,h1,h2⟩
   obtain⟨i,hi,rfl⟩:=ht.nat
   obtain⟨j,hj,e1,e2⟩:=pn i hi
   exact⟨j,Bd.of hj,by rw[e1,h1],by rw[←e2,h2]⟩
  ·rintro⟨t,ht,h1,h2⟩
   obtain⟨j,hj,rfl⟩:=ht.nat
   obtain⟨i,hi,e⟩:=X2 (srt_mem.2 (gt_mem (l:=q.n) (j:=(j:Int)) (by omega) (by omega)))
   obtain⟨t,ht,e1,e2⟩:=pn i (by omega)
   have:=hq.jn t j ht hj (by rw[e1,e])
   subst this
   exact⟨i,Bd.of (by omega),by rw[e,h1],by rw[e2,h2]⟩
 ·funext a b
  apply propext
  show Kpr (ptG y (YF q)).e.length (srt q.e) (Zm (srt q.e) q.e z.e) a b↔_
  rw[lb]
  constructor
  ·rintro⟨t,ht,h1,h2⟩
   obtain⟨i,hi,rfl⟩:=ht.nat
   obtain⟨j,hj,e1,e2⟩:=pe i hi
   exact⟨j,Bd.of hj,by rw[e1,h1],by rw[←e2,h2]⟩
  ·rintro⟨t,ht,h1,h2⟩
   obtain⟨j,hj,rfl⟩:=ht.nat
   obtain⟨i,hi,e⟩:=X2 (srt_mem.2 (gt_mem (l:=q.e) (j:=(j:Int)) (by omega) (by omega)))
   obtain⟨t,ht,e1,e2⟩:=pe i (by omega)
   have:=hq.je t j ht hj (by rw[e1,e])
   subst this
   exact⟨i,Bd.of (by omega),by rw[e,h1],by rw[e2,h2]⟩
end
section
theorem Bx.eg{A B C D:G}{f g h k:Mo}(ef:Emb A B f)(eh:Emb B D h)(ek:Emb C D k)(ln:g.n.length=A.n.length)(le:g.e.length=A.e.length)
  (bn:Bx A.n.length B.n.length C.n.length D.n.length (gt f.n) (gt g.n) (gt h.n) (gt k.n)) (be:Bx A.e.length B.e.length C.e.length D.e.length (gt f.e) (gt g.e) (gt h.e) (gt k.e)):Emb A C g:=by
 refine⟨⟨ef.ok.va,ek.ok.va,ln,le,fun i hi=>?_,fun i hi=>?_⟩,fun i j hi hj e=>?_,fun i j hi hj e=>?_⟩
 ·have hb:=Bd.of hi
  refine⟨bn.bg _ hb,?_⟩
  rw[←ek.tn (bn.bg _ hb),←bn.cm _ hb,eh.tn (ef.bn hb),ef.tn hb]
 ·have hb:=Bd.of hi
  have hc:=be.bg _ hb
  obtain⟨t1,t2,t3⟩:=ef.te hb
  obtain⟨t4,t5,t6⟩:=eh.te (ef.be hb)
  obtain⟨t7,t8,t9⟩:=ek.te hc
  obtain⟨a1,a2⟩:=JJ ef.ok.va hb
  obtain⟨c1,c2⟩:=JJ ek.ok.va hc
  have hcm:=be.cm _ hb
  rw[←hcm] at t7 t8 t9
  refine⟨hc,by rw[t1,t4,←t7],?_,?_⟩
  ·refine ek.in (bn.bg _ a1) c1 ?_
   rw[←bn.cm _ a1,t2,t5,t8]
  ·refine ek.in (bn.bg _ a2) c2 ?_
   rw[←bn.cm _ a2,t3,t6,t9]
 ·have:=bn.ig (fun x y hx hy e=>ef.in hx hy e) _ _ (Bd.of hi) (Bd.of hj) e
  omega
 ·have:=be.ig (fun x y hx hy e=>ef.ie hx hy e) _ _ (Bd.of hi) (Bd.of hj) e
  omega
theorem QFk{na nr nx:Nat}{i m z cx:List Int}(li:i.length=na)(ni:i.Nodup)(nz:z.Nodup)(bi:∀a,Bd na a→Bd nr (gt i a))
  (b:Bx (srt i).length nr z.length nx (gt (srt i)) (gt cx) (gt m) (gt z)):
  Bx na nr z.length nx (gt i) (gt (atL z (thr i m))) (gt m) (gt z):=by
 have ls:(srt i).length=na:=by rw[Zf,li]
 have hp:∀a,Bd na a→∃t,Bd na t∧gt (srt i) t=gt i a:=fun a ha=>by
  obtain⟨u,hu,e⟩:=X2 (srt_mem.2 (gt_mem (l:=i) (j:=a) ha.1 (by rw[li];exact ha.2)))
  exact⟨u,Bd.of (by omega),e⟩
 have hq:∀t,Bd na t→∃a,Bd na a∧gt i a=gt (srt i) t:=fun t ht=>by
  obtain⟨u,hu,e⟩:=X2 (srt_mem.1 (gt_mem (l:=srt i) (j:=t) ht.1 (by rw[ls];exact ht.2)))
  exact⟨u,Bd.of (by omega),e⟩
 have ns:=Qb4 (QcX ni)
 have key:∀a t,Bd na a→Bd na t→gt (srt i) t=gt i a→gt (atL z (thr i m)) a=gt cx t:=fun a t ha ht e=>by
  obtain⟨u,hu,rfl⟩:=ha.nat
  rw[atL,JZ (by rw[Xp];omega),Xi (by omega)]
  have ht':Bd (srt i).length t:=by rw[ls];exact ht
  have h1:=b.cm t ht'
  rw[e] at h1
  obtain⟨j,hj,e2⟩:=(b.bg t ht').nat
  rw[e2] at h1 ⊢
  rw[h1]
  exact QcS nz hj
 rw[ls] at b
 refine⟨bi,fun a ha=>?_,b.bh,b.bk,fun a ha=>?_,fun x c hx hc e=>?_,b.cv,b.ih,b.ik⟩
 ·obtain⟨t,ht,e⟩:=hp a ha
  rw[key a t ha ht e]
  exact b.bg t ht
 ·obtain⟨t,ht,e⟩:=hp a ha
  rw[key a t ha ht e,←e]
  exact b.cm t ht
 ·obtain⟨t,ht,e1,e2⟩:=b.mo x c hx hc e
  obtain⟨a,ha,e3⟩:=hq t ht
  exact⟨a,ha,by rw[e3,e1],by rw[key a t ha ht e3.symm,e2]⟩
theorem QkV{s:Spn}(hs:SpnOk s){m:Mo}{x:G}(hm:Emb s.r x m):cxE (Q0 s m x)=0∧(cxR (Q0 s m x)=(m0,14)∧Yu (Q0 s m x)≠[]∨cxR (Q0 s m x)=(cxP (Q0 s m x),0)∧Yu (Q0 s m x)=[]):=by
 have e1:XE s.r x m=0:=mok.2 hm.ok
 have e2:Yf s.r (YF s.i)=0:=validP_ok.2 (QFh hs.i)
 have e0:cxE (Q0 s m x)=0:=by
  have e1':XE (Q0 s m x).l (Q0 s m x).g (Q0 s m x).m=0:=e1
  have e2':Yf (Q0 s m x).l (Q0 s m x).k=0:=e2
  unfold cxE
  rw[if_neg (Qo.2 e1')]
  exact e2'
 refine⟨e0,?_⟩
 have i1:idL (Q0 s m x).m.n (Q0 s m x).k.n=[]:=Qba hm.nn
 have i2:idL (Q0 s m x).m.e (Q0 s m x).k.e=[]:=Qba hm.ne
 unfold cxR
 rw[if_neg (by simp [e0]),i1,i2,if_neg (by simp)]
 by_cases hd:Yu (Q0 s m x)=[]
 ·right
  rw[hd,if_neg (by simp)]
  exact⟨rfl,rfl⟩
 ·left
  rw[if_pos (by cases hc:Yu (Q0 s m x) with|nil=>exact absurd hc hd|cons a l=>simp)]
  exact⟨rfl,hd⟩
theorem QFl{s:Spn}(hs:SpnOk s){m:Mo}{x:G}(hm:Emb s.r x m)(hd:Yu (Q0 s m x)=[]):
  Emb (ptG x (cxP (Q0 s m x))) x (cxP (Q0 s m x))∧BxG (ptG s.l s.k) s.r (ptG x (cxP (Q0 s m x))) x s.i (Xs s m x (cxP (Q0 s m x))).g m (cxP (Q0 s m x)):=by
 obtain⟨e0,_⟩:=QkV hs hm
 have b:=QFd (x:=Q0 s m x) e0 hm hd
 have ez:Emb (ptG x (cxP (Q0 s m x))) x (cxP (Q0 s m x)):=b.ek
 have lc:(ptG x (cxP (Q0 s m x))).n.length=(cxP (Q0 s m x)).n.length:=Xp _ _
 have ld:(ptG x (cxP (Q0 s m x))).e.length=(cxP (Q0 s m x)).e.length:=Je _ _ _
 have la:(ptG s.r (YF s.i)).n.length=(srt s.i.n).length:=Xp _ _
 have lb:(ptG s.r (YF s.i)).e.length=(srt s.i.e).length:=Je _ _ _
 have bn0:Bx (srt s.i.n).length s.r.n.length (cxP (Q0 s m x)).n.length x.n.length (gt (srt s.i.n)) (gt (Jz (Q0 s m x) (cxP (Q0 s m x))).n) (gt m.n) (gt (cxP (Q0 s m x)).n):=by
  have:=b.bn
  simp only[Q0] at this lc ⊢
  rw[←lc,←la]
  exact this
 have be0:Bx (srt s.i.e).length s.r.e.length (cxP (Q0 s m x)).e.length x.e.length (gt (srt s.i.e)) (gt (Jz (Q0 s m x) (cxP (Q0 s m x))).e) (gt m.e) (gt (cxP (Q0 s m x)).e):=by
  have:=b.be
  simp only[Q0] at this ld ⊢
  rw[←ld,←lb]
  exact this
 have bn:=QFk hs.i.ok.ln hs.i.nn ez.nn (fun a ha=>hs.i.bn ha) bn0
 have be:=QFk hs.i.ok.le hs.i.ne ez.ne (fun a ha=>hs.i.be ha) be0
 rw[←lc] at bn
 rw[←ld] at be
 have eg:=Bx.eg (g:=(Xs s m x (cxP (Q0 s m x))).g) hs.i hm ez (by simp only[Xs,atL,Qv,Xp,hs.i.ok.ln]) (by simp only[Xs,atL,Qv,Xp,hs.i.ok.le]) bn be
 exact⟨ez,hs.i,eg,hm,ez,bn,be⟩
theorem QYB{s:Spn}(hs:SpnOk s){m:Mo}{x:G}(hm:Emb s.r x m)(hd:Yu (Q0 s m x)≠[]){L D S X:G}{q h u v k:Mo}(r:RelG (κN s) (κE s) L s.r D S X q h u v)(hk:Emb x X k)(e:QY m k=h):False:=by
 obtain⟨y,hy⟩:=List.exists_mem_of_ne_nil _ hd
 obtain⟨j,hj,hp,rfl⟩:=sel_mem.1 hy
 simp only[Q0] at hj hp
 simp only[Zk,Qi,Bool.not_eq_true',QE,Qx,Qk] at hp
 obtain⟨hne,hp⟩:=hp
 have hjb:=Bd.of hj
 have hkj:=hk.be hjb
 obtain⟨t1,t2,t3⟩:=hk.te hjb
 have hen:∀b,Bd s.r.n.length b→gt k.n (gt m.n b)=gt h.n b:=fun b hb=>by rw[←e,Qip (c:=X) hm.ok hb]
 have hee:∀b,Bd s.r.e.length b→gt k.e (gt m.e b)=gt h.e b:=fun b hb=>by rw[←e,Qiq (c:=X) hm.ok hb]
 rcases r.re.cx _ hkj with⟨a,ha,e1⟩|⟨d,hd,e1⟩
 ·rw[←hee a ha] at e1
  have:=hk.ie (hm.be ha) hjb e1
  exact hne (this▸gt_mem ha.1 (by rw[hm.ok.le];exact ha.2))
 ·obtain⟨w1,w2,w3⟩:=r.ev.te hd
  obtain⟨d1,d2⟩:=JJ r.ev.ok.va hd
  have no:∀(f:Int)(g:Int),f∈Xm m.n (srt s.i.n)→Bd D.n.length g→gt k.n f=gt v.n g→False:=fun f g hf hg he=>by
   obtain⟨b,hb,hnk,rfl⟩:=goneL_mem.1 hf
   have hbb:Bd s.r.n.length (b:Int):=Bd.of (by rw[←hm.ok.ln];exact hb)
   rw[hen _ hbb] at he
   obtain⟨l,t,ht,_,e3⟩:=r.rn.mx _ _ hbb hg he
   exact hnk (srt_mem.2 (e3▸gt_mem ht.1 (by rw[hs.i.ok.ln];exact ht.2)))
  rcases hp with hp|hp
  ·exact no _ _ hp d1 (by rw[t2,←e1,w2])
  ·exact no _ _ hp d2 (by rw[t3,←e1,w3])
end
def QFm(c:Cnd)(s:Spn)(d:Cnd):Prop:=Q3 s.l d∧∀(D S X:G)(q h u v:Mo),RelG (κN s) (κE s) s.l s.r D S X q h u v→(XK S d q↔XK X c h)
def QFn(l:List Cnd)(s:Spn)(r:List Cnd):Prop:=YK s.l r∧(r=[]→l=[])∧(∀(D S X:G)(q h u v:Mo),RelG (κN s) (κE s) s.l s.r D S X q h u v→(Jb S r q↔Jb X l h))∧∀(D S X:G)(q h u v:Mo),RelG (κN s) (κE s) s.l s.r D S X q h u v→(Zw S r q↔Zw X l h)
mutual
theorem Qbc:∀(c:Cnd)(s:Spn),Q3 s.r c→SpnOk s→((lft c s).2=0∨(lft c s).2=3)∧((lft c s).2=0→QFm c s (lft c s).1)
 | .tt,s,_,_=>by
  simp only[lft,QFm,Q3,XK]
  simp
 | .no c,s,ho,hs=>by
  simp only[Q3] at ho
  obtain⟨h1,h2⟩:=Qbc c s ho hs
  simp only[lft]
  split
  ·rename_i h0
   obtain⟨h3,h4⟩:=h2 h0
   refine⟨.inl rfl,fun _=>⟨by simpa only[Q3] using h3,fun D S X q h u v r=>?_⟩⟩
   simp only[XK]
   rw[h4 D S X q h u v r]
  ·rename_i h0
   exact⟨h1,fun h=>absurd h h0⟩
 | .an l,s,ho,hs=>by
  simp only[Q3] at ho
  obtain⟨h1,h2⟩:=QkW l s ho.2 hs
  simp only[lft]
  split
  ·rename_i h0
   obtain⟨h3,h4,h5,h6⟩:=h2 h0
   refine⟨.inl rfl,fun _=>⟨by simp only[Q3];exact⟨fun e=>ho.1 (h4 e),h3⟩,fun D S X q h u v r=>?_⟩⟩
   simp only[XK]
   exact h5 D S X q h u v r
  ·rename_i h0
   exact⟨h1,fun h=>absurd h h0⟩
 | .or l,s,ho,hs=>by
  simp only[Q3] at ho
  obtain⟨h1,h2⟩:=QkW l s ho.2 hs
  simp only[lft]
  split
  ·rename_i h0
   obtain⟨h3,h4,h5,h6⟩:=h2 h0
   refine⟨.inl rfl,fun _=>⟨by simp only[Q3];exact⟨fun e=>ho.1 (h4 e),h3⟩,fun D S X q h u v r=>?_⟩⟩
   simp only[XK]
   exact h6 D S X q h u v r
  ·rename_i h0
   exact⟨h1,fun h=>absurd h h0⟩
 | .ex m x c,s,ho,hs=>by
  simp only[Q3] at ho
  obtain⟨hm,hc⟩:=ho
  obtain⟨e0,hx⟩:=QkV hs hm
  rcases hx with⟨e1,hd⟩|⟨e1,hd⟩
  ·simp only[lft,e1]
   rw[if_pos (by simp)]
   refine⟨.inl rfl,fun _=>⟨by simp only[Q3],fun D S X q h u v r=>?_⟩⟩
   simp only[XK,not_true_eq_false,false_iff]
   rintro⟨k,hk,e,_⟩
   exact QYB hs hm hd r hk e
  ·obtain⟨ez,bZ⟩:=QFl hs hm hd
   simp only[lft,e1,ne_eq,not_true_eq_false,if_false]
   generalize cxP (Q0 s m x)=z at*
   by_cases hp:Yt (Xs s m x z)=0
   ·have hpo:=poErr_ok.1 hp
    have ek:Emb (ptG s.l s.k) s.l s.k:=Qak hs.k
    have bY:=QkQ hpo ek bZ.eg
    obtain⟨hs2,hn2,he2⟩:=QFj bY.ek ez
    rw[if_neg (by simp [hp])]
    obtain⟨g1,g2⟩:=Qbc c (Jg x (poG (Xs s m x z)) z (poK (Xs s m x z))) hc hs2
    split
    ·rename_i h0
     obtain⟨g3,g4⟩:=g2 h0
     refine⟨.inl rfl,fun _=>⟨by simp only[Q3];exact⟨bY.eh,g3⟩,fun D S X q h u v r=>?_⟩⟩
     rw[hn2,he2] at g4
     have r':RelG (Kpr (ptG s.l s.k).n.length s.k.n s.i.n) (Kpr (ptG s.l s.k).e.length s.k.e s.i.e) s.l s.r D S X q h u v:=r
     simp only[XK]
     constructor
     ·rintro⟨k,hk,e,hk2⟩
      obtain⟨k',j1,j2,j3⟩:=QvK bY bZ r' hk e
      exact⟨k',j1,j2,(g4 D S X k k' u v j3).1 hk2⟩
     ·rintro⟨k,hk,e,hk2⟩
      have r2:=r'.sw
      rw[Kpr.sw,Kpr.sw] at r2
      obtain⟨k',j1,j2,j3⟩:=QvK bZ bY r2 hk e
      have j4:=j3.sw
      rw[Kpr.sw,Kpr.sw] at j4
      exact⟨k',j1,j2,(g4 D S X k' k u v j4).2 hk2⟩
    ·rename_i h0
     exact⟨g1,fun h=>absurd h h0⟩
   ·rw[if_pos hp]
    have h3:Yt (Xs s m x z)=3:=by
     have hsp:spE (Xs s m x z)=0:=spE_ok.2 ⟨(Qak hs.k).ok,bZ.eg.ok⟩
     unfold Yt at hp ⊢
     rw[if_neg (by simp [hsp])] at hp ⊢
     split at hp
     ·rename_i hb;rw[if_pos hb]
     ·exact absurd rfl hp
    exact⟨.inr h3,fun h=>absurd h hp⟩
theorem QkW:∀(l:List Cnd)(s:Spn),YK s.r l→SpnOk s→((Xq l s).2=0∨(Xq l s).2=3)∧((Xq l s).2=0→QFn l s (Xq l s).1)
 |[],s,_,_=>by
  simp only[Xq,QFn,YK,Jb,Zw]
  simp
 |c::l,s,ho,hs=>by
  simp only[YK] at ho
  obtain⟨h1,h2⟩:=Qbc c s ho.1 hs
  obtain⟨h3,h4⟩:=QkW l s ho.2 hs
  simp only[Xq]
  split
  ·rename_i h0
   exact⟨h1,fun h=>absurd h h0⟩
  ·rename_i h0
   have h0:=Qo.1 h0
   split
   ·rename_i k0
    exact⟨h3,fun h=>absurd h k0⟩
   ·rename_i k0
    have k0:=Qo.1 k0
    obtain⟨a1,a2⟩:=h2 h0
    obtain⟨b1,_,b3,b4⟩:=h4 k0
    refine⟨.inl rfl,fun _=>⟨by simp only[YK];exact⟨a1,b1⟩,by simp,fun D S X q h u v r=>?_,fun D S X q h u v r=>?_⟩⟩
    ·simp only[Jb]
     rw[a2 D S X q h u v r,b3 D S X q h u v r]
    ·simp only[Zw]
     rw[a2 D S X q h u v r,b4 D S X q h u v r]
end
attribute [local irreducible] W
def QFo:LL:=[qa 0 [.int .i64 (0),.nl 9,.nl 1,.nl 1,.nl 1,.nl 3,.nl 4,.int .i64 (0),.nl 5]]
def QFp:LL:=[qu 1 [.int .i64 (0),.nl 9,.nl 1,.nl 1,.nl 1,.nl 3,.nl 4,.int .i64 (0),.nl 5] [(0,1,.k (.int .i64 (1)))],qs 9 0 1]
def QeS(F:Fn):LC:=QQ [.reg QFo [0],.reg QFp [0],.ret]
def QYC:Hints:=hOf [] (QeS fun _=>0)
def QFq:LL:=[qB 1 0,qb 2 false]
def QFr:LL:=[qf 4 4 1,qL 5 5 4,qa 3 [.nl 1,.nl 3,.nl 4,.int .i64 (0),.nl 5],qs 5 3 5]
def QFs:LL:=[qf 6 2 1,qf 7 0 6,ql 8 1 7,qz 9 8,qf 10 2 1,qf 11 1 10,ql 12 1 11,qz 13 12,qo .add 14 9 13,qf 15 0 3,qf 16 0 15,ql 17 1 16,qz 18 17,qo .add 19 14 18,qf 20 0 3,qf 21 1 20,ql 22 1 21,
 qz 23 22,qo .add 24 19 23,qf 25 2 3,ql 26 1 25,qz 27 26,qo .add 28 24 27,qf 29 3 3,ql 30 1 29,qo .add 31 28 30,qf 32 4 3,ql 33 1 32,qz 34 33,qo .add 35 31 34,qk .eql 36 35 0,
 qm 37 36,qg 37 true (qf 38 3 3),qg 37 true (ql 39 1 38),qg 37 true (qk .eql 40 39 0),qP 41 37 40,qm 2 41]
def QkX(F:Fn):LC:=QQ [.reg QFq [1],.reg QFr [1,3],.reg QFs [2],.ret]
def QFt:LL:=[qB 1 0,qi 2 0]
def QFu:LL:=[qf 4 1 1,ql 5 1 4,qz 6 5,qm 3 6]
def QFv:LL:=[qf 7 0 1,ql 8 1 7]
def QFw:LL:=[qk .eql 10 8 1,qm 9 10]
def QFx(F:Fn):LL:=[qm 11 3,qk .gtr 12 11 0,qm 13 12,qg 13 false (qL 14 9 1),qg 13 false (qc 15 (F "X") [.t 14]),qg 13 false (qv 16 15),qQ 17 13 16]
def QFy:LL:=[qi 2 1]
def QFz:LL:=[qk .eql 19 8 2,qm 18 19]
def QFA(F:Fn):LL:=[qm 20 3,qk .neq 21 20 1,qm 22 21,qg 22 false (qL 23 9 1),qg 22 false (qc 24 (F "X") [.t 23]),qg 22 false (qv 25 24),qQ 26 22 25]
def QFB:LL:=[qi 2 1]
def QFC:LL:=[qk .eql 28 8 3,qm 27 28]
def QFD:LL:=[qk .eql 29 8 4,qm 27 29]
def QFE(F:Fn):LL:=[qm 30 3,qk .eql 31 30 0,qm 32 31,qg 32 false (qL 33 9 1),qg 32 false (qc 34 (F "X") [.t 33]),qg 32 false (qv 35 34),qQ 36 32 35]
def QFF:LL:=[qi 2 1]
def QFG:LL:=[qk .eql 38 8 5,qm 37 38]
def QFH:LL:=[qm 39 3,qk .neq 40 39 1]
def QFI:LL:=[qi 2 1]
def QFJ:LL:=[qf 41 4 1,qf 42 2 41,ql 43 1 42,qz 44 43,qk .gtr 45 44 0,qm 46 45,qg 46 false (qf 47 4 1),qg 46 false (qf 48 3 47),qg 46 false (ql 49 1 48),qg 46 false (qk .neq 50 49 0),
 qQ 51 46 50,qm 52 51,qg 52 false (qf 53 4 1),qg 52 false (qf 54 4 53),qg 52 false (ql 55 1 54),qg 52 false (qz 56 55),qg 52 false (qk .gtr 57 56 0),qQ 58 52 57]
def QFK:LL:=[qi 2 8]
def QFL:LL:=[qi 2 1]
def QFM:LL:=[qi 2 0]
def QkY(F:Fn):LC:=QQ [.reg QFt [1],.reg QFu [1,3],QQ [.reg QFv [1,3,8],.block 0 (QQ [.reg QFw [1,3,8,9],.cond (.t 9) (QQ [.reg (QFx F) [17],.cond (.t 17) (QQ [.reg QFy [2],.ret]) .skip]) (QQ [.reg QFz [1,3,8,18],.cond (.t 18) (QQ [.reg (QFA F) [26],.cond (.t 26) (QQ [.reg QFB [2],.ret]) .skip]) (QQ [QQ [.reg QFC [1,3,8,27],.cond (.t 27) .skip (.reg QFD [1,3,8,27])],.cond (.t 27) (QQ [.reg (QFE F) [36],.cond (.t 36) (QQ [.reg QFF [2],.ret]) .skip]) (QQ [.reg QFG [1,3,37],.cond (.t 37) (QQ [QQ [.reg QFH [1,40],.cond (.t 40) (QQ [.reg QFI [2],.ret]) .skip],.reg QFJ [58],.cond (.t 58) (QQ [.reg QFK [2],.ret]) .skip]) (QQ [.reg QFL [2],.ret])])])])])],.reg QFM [2],.ret]
def QYD:Hints:=hn [] [(0,[1]),(1,[1,3]),(2,[1,3,8]),(3,[2]),(4,[1,3,8,9]),(5,[17]),(6,[2]),(7,[1,3,8,18]),(8,[26]),(9,[2]),(10,[1,3,8,27]),(11,[1,3,8,27]),(12,[36]),(13,[2]),(14,[1,3,37]),(15,[1,40]),(16,[2]),(17,[58]),(18,[2]),(19,[2])] []
def QFN:LL:=[qB 1 0,qi 2 0,qi 3 0]
def QFO:LL:=[qi 4 1,qi 5 0]
def QFP:LL:=[qi 6 0]
def QFQ:LL:=[qm 9 6,qf 10 1 1,ql 11 1 10,qz 12 11,qo .lss 13 9 12]
def QFR(F:Fn):LL:=[qf 17 1 1,ql 18 1 17,qm 19 6,qd 20 9 18 19,qL 21 9 20,qc 22 (F "m") [.t 21],qm 16 22,qx 23 16 0,qx 24 16 1,qm 7 23,qm 8 24]
def QFS:LL:=[qm 25 4,qm 26 7,qo .add 27 25 26,qm 4 27]
def QFT:LL:=[qm 28 5,qm 29 8,qQp 30 (.mx [.t 28,.t 29]),qm 5 30]
def QFU:LL:=[qm 14 6,qk .add 15 14 1,qm 6 15]
def QeT(F:Fn):LC:=QQ [QQ [.reg QFQ [1,4,5,6,13],.cond (.t 13) .skip (.exit 0)],.block 1 (QQ [.reg (QFR F) [1,4,5,6,7,8],.reg QFS [1,4,5,6,8],.reg QFT [1,4,5,6]]),.reg QFU [1,4,5,6]]
def QFV:LL:=[qf 31 0 1,ql 32 1 31,qk .eql 33 32 5]
def QFW:LL:=[qm 34 5,qk .add 35 34 1,qm 5 35]
def QFX:LL:=[qm 36 4,qm 37 5,qm 2 36,qm 3 37]
def QkZ(F:Fn):LC:=QQ [.reg QFN [1],.reg QFO [1,4,5],QQ [.reg QFP [1,4,5,6],.block 0 (.loop [1,4,5,6] (QeT F))],QQ [.reg QFV [4,5,33],.cond (.t 33) (.reg QFW [4,5]) .skip],.reg QFX [2,3],.ret]
def QYE:Hints:=hn [] [(0,[1]),(1,[1,4,5]),(2,[1,4,5,6]),(3,[1,4,5,6,13]),(4,[1,4,5,6]),(5,[1,4,5,6,7,8]),(6,[1,4,5,6,8]),(7,[1,4,5,6]),(8,[4,5,33]),(9,[4,5]),(10,[2,3])] [(3,[1,4,5,6])]
def QFY:LL:=[qB 2 0,qB 3 1,qi 4 0]
def QFZ(F:Fn):LL:=[qL 9 9 3,qc 10 (F "aY") [.t 9],qm 5 10]
def QF0:LL:=[qm 11 5,qk .neq 12 11 0]
def QF1:LL:=[qm 13 5,qm 4 13]
def QF2:LL:=[qf 14 0 3,ql 15 1 14,qk .eql 16 15 5]
def QF3(F:Fn):LL:=[qL 17 2 2,qf 18 4 3,qf 19 0 18,qL 20 2 19,qf 21 2 3,qL 22 2 21,qc 23 (F "s") [.t 17,.t 20,.t 22],qm 6 23]
def QF4:LL:=[qm 24 6,qk .neq 25 24 0]
def QF5:LL:=[qm 26 6,qm 4 26]
def QF6(F:Fn):LL:=[qL 27 2 2,qf 28 4 3,qf 29 0 28,qL 30 2 29,qf 31 2 3,qL 32 2 31,qc 33 (F "bW") [.t 27,.t 30,.t 32],qv 34 33]
def QF7:LL:=[qi 4 1]
def QF8(F:Fn):LL:=[qf 35 4 3,qf 36 0 35,qL 37 2 36,qf 38 1 3,ql 39 1 38,qQp 40 (.iad 9 (.t 39) (.k (.int .i64 (0)))),qL 41 9 40,qc 42 (F "y") [.t 37,.t 41],qm 4 42]
def QF9:LL:=[qi 7 0]
def QGa:LL:=[qm 43 7,qf 44 1 3,ql 45 1 44,qz 46 45,qo .lss 47 43 46]
def QGb(F:Fn):LL:=[qL 50 2 2,qf 51 1 3,ql 52 1 51,qm 53 7,qd 54 9 52 53,qL 55 9 54,qc 56 (F "y") [.t 50,.t 55],qm 8 56]
def QGc:LL:=[qm 57 8,qk .neq 58 57 0]
def QGd:LL:=[qm 59 8,qm 4 59]
def QGe:LL:=[qm 48 7,qk .add 49 48 1,qm 7 49]
def Qk0(F:Fn):LC:=QQ [QQ [.reg QGa [2,3,7,47],.cond (.t 47) .skip (.exit 0)],.block 1 (QQ [.dreg [] (QGb F) [2,3,7,8],.reg QGc [2,3,7,8,58],.cond (.t 58) (QQ [.reg QGd [4],.ret]) .skip]),.reg QGe [2,3,7]]
def QGf:LL:=[qi 4 0]
def Qk1(F:Fn):LC:=QQ [.reg QFY [2,3],QQ [.reg (QFZ F) [2,3,5],.reg QF0 [2,3,5,12],.cond (.t 12) (QQ [.reg QF1 [4],.ret]) .skip],QQ [.reg QF2 [2,3,16],.cond (.t 16) (QQ [QQ [.reg (QF3 F) [2,3,6],.reg QF4 [2,3,6,25],.cond (.t 25) (QQ [.reg QF5 [4],.ret]) .skip],QQ [.reg (QF6 F) [3,34],.cond (.t 34) (QQ [.reg QF7 [4],.ret]) .skip],.dreg [] (QF8 F) [4],.ret]) .skip],QQ [.reg QF9 [2,3,7],.block 0 (.loop [2,3,7] (Qk0 F))],.reg QGf [4],.ret]
def QYF:Hints:=hn [] [(0,[2,3]),(1,[2,3,5]),(2,[2,3,5,12]),(3,[4]),(4,[2,3,16]),(5,[2,3,6]),(6,[2,3,6,25]),(7,[4]),(8,[3,34]),(9,[4]),(10,[4]),(11,[2,3,7]),(12,[2,3,7,47]),(13,[2,3,7]),(14,[2,3,7,8]),(15,[2,3,7,8,58]),(16,[4]),(17,[4])] [(12,[2,3,7])]
def QGg:LL:=[qB 1 0,qi 2 0]
def QGh(F:Fn):LL:=[qL 6 9 1,qc 7 (F "m") [.t 6],qm 5 7,qx 8 5 0,qx 9 5 1,qm 3 8,qm 4 9]
def QGi:LL:=[qm 10 3,qk .gtr 11 10 2000,qm 12 11,qg 12 false (qm 13 4),qg 12 false (qk .gtr 14 13 3),qQ 15 12 14]
def QGj:LL:=[qi 2 3]
def QGk:LL:=[qi 2 0]
def Qk2(F:Fn):LC:=QQ [.reg QGg [1],QQ [.reg (QGh F) [3,4],.reg QGi [15],.cond (.t 15) (QQ [.reg QGj [2],.ret]) .skip],.reg QGk [2],.ret]
def QGl:LL:=[qB 2 0,qB 3 1,qi 4 0]
def QGm(F:Fn):LL:=[qL 7 2 2,qc 8 (F "d") [.t 7],qm 5 8]
def QGn:LL:=[qm 9 5,qk .neq 10 9 0]
def QGo:LL:=[qm 11 5,qm 4 11]
def QGp(F:Fn):LL:=[qL 12 2 2,qL 13 9 3,qc 14 (F "y") [.t 12,.t 13],qm 6 14]
def QGq:LL:=[qm 15 6,qk .neq 16 15 0]
def QGr:LL:=[qm 17 6,qm 4 17]
def QGs(F:Fn):LL:=[qL 18 9 3,qc 19 (F "bP") [.t 18],qm 4 19]
def Qk3(F:Fn):LC:=QQ [.reg QGl [2,3],QQ [.reg (QGm F) [2,3,5],.reg QGn [2,3,5,10],.cond (.t 10) (QQ [.reg QGo [4],.ret]) .skip],QQ [.reg (QGp F) [3,6],.reg QGq [3,6,16],.cond (.t 16) (QQ [.reg QGr [4],.ret]) .skip],.reg (QGs F) [4],.ret]
def QGt:LL:=[qB 3 0,qb 6 false]
def QGu:LL:=[qf 8 4 3,qf 9 0 8,qf 10 0 9,ql 11 1 10,qz 12 11,qm 13 1,qo .gtr 14 12 13,qm 15 14,qg 15 false (qf 16 4 3),qg 15 false (qf 17 0 16),qg 15 false (qf 18 1 17),qg 15 false (ql 19 1 18),
 qg 15 false (qz 20 19),qg 15 false (qm 21 2),qg 15 false (qo .gtr 22 20 21),qQ 23 15 22,qm 24 23,qg 24 false (qf 25 2 3),qg 24 false (qf 26 0 25),qg 24 false (ql 27 1 26),
 qg 24 false (qz 28 27),qg 24 false (qk .gtr 29 28 100),qQ 30 24 29,qm 31 30,qg 31 false (qf 32 2 3),qg 31 false (qf 33 1 32),qg 31 false (ql 34 1 33),qg 31 false (qz 35 34),
 qg 31 false (qk .gtr 36 35 100),qQ 37 31 36,qm 38 37,qg 38 false (qf 39 4 3),qg 38 false (qf 40 2 39),qg 38 false (ql 41 1 40),qg 38 false (qz 42 41),qg 38 false (qk .gtr 43 42 20),
 qQ 44 38 43,qm 45 44,qg 45 false (qf 46 4 3),qg 45 false (qf 47 4 46),qg 45 false (ql 48 1 47),qg 45 false (qz 49 48),qg 45 false (qk .gtr 50 49 20),qQ 51 45 50]
def QGv:LL:=[qb 6 false]
def QGw:LL:=[qi 7 0]
def QGx:LL:=[qm 52 7,qf 53 1 3,ql 54 1 53,qz 55 54,qo .lss 56 52 55]
def QGy(F:Fn):LL:=[qf 59 1 3,ql 60 1 59,qm 61 7,qd 62 9 60 61,qL 63 9 62,qm 64 1,qm 65 2,qc 66 (F "o") [.t 63,.t 64,.t 65],qv 67 66]
def QGz:LL:=[qb 6 false]
def QGA:LL:=[qm 57 7,qk .add 58 57 1,qm 7 58]
def QeU(F:Fn):LC:=QQ [QQ [.reg QGx [1,2,3,7,56],.cond (.t 56) .skip (.exit 0)],.block 1 (QQ [.reg (QGy F) [1,2,3,7,67],.cond (.t 67) (QQ [.reg QGz [6],.ret]) .skip]),.reg QGA [1,2,3,7]]
def QGB:LL:=[qb 6 true]
def Qk4(F:Fn):LC:=QQ [.reg QGt [1,2,3],QQ [.reg QGu [1,2,3,51],.cond (.t 51) (QQ [.reg QGv [6],.ret]) .skip],QQ [.reg QGw [1,2,3,7],.block 0 (.loop [1,2,3,7] (QeU F))],.reg QGB [6],.ret]
def QYG:Hints:=hn [] [(0,[1,2,3]),(1,[1,2,3,51]),(2,[6]),(3,[1,2,3,7]),(4,[1,2,3,7,56]),(5,[1,2,3,7]),(6,[1,2,3,7,67]),(7,[6]),(8,[6])] [(4,[1,2,3,7])]
def QGC:LL:=[qB 2 0,qB 3 1,qb 4 false]
def QGD(F:Fn):LL:=[qL 8 9 3,qc 9 (F "m") [.t 8],qm 7 9,qx 10 7 0,qx 11 7 1,qm 5 10,qm 6 11]
def QGE(F:Fn):LL:=[qm 12 5,qk .gtr 13 12 60,qm 14 13,qg 14 false (qL 15 9 3),qg 14 false (qc 16 (F "o") [.t 15,.k (.int .i64 (45)),.k (.int .i64 (90))]),qg 14 false (qv 17 16),qQ 18 14 17,qm 19 18,
 qg 19 false (qL 20 2 2),qg 19 false (qc 21 (F "bq") [.t 20]),qg 19 false (qv 22 21),qQ 23 19 22]
def QGF:LL:=[qb 4 false]
def QGG(F:Fn):LL:=[qL 24 2 2,qL 25 9 3,qc 26 (F "aQ") [.t 24,.t 25],qk .neq 27 26 0,qm 28 27,qg 28 false (qm 29 5),qg 28 false (qk .leq 30 29 8),qg 28 false (qm 31 30),qg 31 true (qm 32 6),
 qg 31 true (qk .leq 33 32 1),qg 31 true (qm 34 33),qg 34 true (qL 35 9 3),qg 34 true (qc 36 (F "o") [.t 35,.k (.int .i64 (4)),.k (.int .i64 (3))]),qg 31 true (qP 37 34 36),
 qg 31 true (qm 38 37),qg 38 false (qm 39 6),qg 38 false (qk .leq 40 39 2),qg 38 false (qm 41 40),qg 41 true (qL 42 9 3),
 qg 41 true (qc 43 (F "o") [.t 42,.k (.int .i64 (2)),.k (.int .i64 (2))]),qg 38 false (qP 44 41 43),qg 31 true (qQ 45 38 44),qg 28 false (qP 46 31 45),qQ 47 28 46,qm 4 47]
def Qk5(F:Fn):LC:=QQ [.reg QGC [2,3],.reg (QGD F) [2,3,5,6],QQ [.reg (QGE F) [2,3,5,6,23],.cond (.t 23) (QQ [.reg QGF [4],.ret]) .skip],.reg (QGG F) [4],.ret]
instance:Inhabited Cnd:=⟨.tt⟩
def Q9:Cnd→Int
 | .tt=>1
 | .no _=>2
 | .an _=>3
 | .or _=>4
 | .ex ..=>5
def QU:Cnd→List Cnd
 | .tt=>[]
 | .no c=>[c]
 | .an l=>l
 | .or l=>l
 | .ex _ _ c=>[c]
def Xn:Cnd→Mo
 | .ex m _ _=>m
 |_=>m0
def Xk:Cnd→G
 | .ex _ p _=>p
 |_=>g0
def cnC(k:Int)(kids:List D)(m:Mo)(p:G):List D:=[.int .i64 k,.lst 9 kids,.lst 1 (QR m.n),.lst 1 (QR m.e),.lst 1 (QR p.n),.lst 3 (eds p.e),.lst 4 [],.int .i64 0,.lst 5 []]
mutual
def cnD:Cnd→D
 | .tt=>.agg (cnC 1 [] m0 g0)
 | .no c=>.agg (cnC 2 [cnD c] m0 g0)
 | .an l=>.agg (cnC 3 (QcY l) m0 g0)
 | .or l=>.agg (cnC 4 (QcY l) m0 g0)
 | .ex m p c=>.agg (cnC 5 [cnD c] m p)
def QcY:List Cnd→List D
 |[]=>[]
 |c::l=>cnD c::QcY l
end
mutual
def csz:Cnd→Nat
 | .tt=>1
 | .no c=>1+csz c
 | .an l=>1+Xu l
 | .or l=>1+Xu l
 | .ex _ _ c=>1+csz c
def Xu:List Cnd→Nat
 |[]=>0
 |c::l=>csz c+Xu l
end
mutual
def cdp:Cnd→Nat
 | .tt=>0
 | .no c=>cdp c
 | .an l=>Ya l
 | .or l=>Ya l
 | .ex _ _ c=>cdp c+1
def Ya:List Cnd→Nat
 |[]=>0
 |c::l=>max (cdp c) (Ya l)
end
attribute [go_sem] QFo QFp QeS QFq QFr QFs QkX QFt QFu QFv QFw QFx QFy QFz QFA QFB QFC QFD QFE QFF QFG QFH QFI QFJ QFK QFL QFM QkY QFN QFO QFP QFQ QFR QFS QFT QFU QFV QFW QFX QkZ QFY QFZ QF0 QF1 QF2 QF3 QF4 QF5 QF6 QF7 QF8 QF9 QGa QGb QGc QGd QGe QGf Qk1 QGg QGh QGi QGj QGk Qk2 QGl QGm QGn QGo QGp QGq QGr QGs Qk3 QGt QGu QGv QGw QGx QGy QGz QGA QGB Qk4 QGC QGD QGE QGF QGG Qk5
theorem QGH:∀l,QcY l=l.map cnD
 |[]=>rfl
 |c::l=>by rw[QcY,QGH l];rfl
def cds(l:List Cnd):List D:=l.map cnD
theorem Qk6:cds []=[]:=rfl
theorem Qbd(c:Cnd):cds [c]=[cnD c]:=rfl
theorem Qk7(l:List Cnd):(cds l).length=l.length:=by simp [cds]
theorem Q4(c:Cnd):cnD c=.agg [.int .i64 (Q9 c),.lst 9 (cds (QU c)),.lst 1 (QR (Xn c).n),.lst 1 (QR (Xn c).e),.lst 1 (QR (Xk c).n),.lst 3 (eds (Xk c).e),.lst 4 [],.int .i64 0,.lst 5 []]:=by
 cases c<;>simp only[cnD,cnC,Q9,QU,Xn,Xk,QGH,cds,List.map_nil,List.map_cons]
theorem QGI{l:List Cnd}{i:Nat}(h:i<l.length):(cds l)[i]?=some (.agg [.int .i64 (Q9 (gt l (i:Int))),.lst 9 (cds (QU (gt l (i:Int)))),.lst 1 (QR (Xn (gt l (i:Int))).n),.lst 1 (QR (Xn (gt l (i:Int))).e),.lst 1 (QR (Xk (gt l (i:Int))).n),.lst 3 (eds (Xk (gt l (i:Int))).e),.lst 4 [],.int .i64 0,.lst 5 []]):=by
 rw[←Q4,Xc h]
 simp [cds,h]
theorem Qbe{l:List Cnd}(h:0<l.length):(cds l)[0]?=some (.agg [.int .i64 (Q9 (gt l 0)),.lst 9 (cds (QU (gt l 0))),.lst 1 (QR (Xn (gt l 0)).n),.lst 1 (QR (Xn (gt l 0)).e),.lst 1 (QR (Xk (gt l 0)).n),.lst 3 (eds (Xk (gt l 0)).e),.lst 4 [],.int .i64 0,.lst 5 []]):=QGI h
attribute [go_sem] Qk7 QGI Qbe
theorem JA(c:Cnd):csz c=1+Xu (QU c):=by cases c<;>simp [csz,Xu,QU]
theorem Qk8(c:Cnd):cdp c=Ya (QU c)+if Q9 c=5 then 1 else 0:=by cases c<;>simp [cdp,Ya,QU,Q9]
theorem QeV:∀l m,Xu (l++m)=Xu l+Xu m
 |[],m=>by simp [Xu]
 |c::l,m=>by rw[List.cons_append,Xu,Xu,QeV l m];omega
theorem QGJ:∀l m,Ya (l++m)=max (Ya l) (Ya m)
 |[],m=>by simp [Ya]
 |c::l,m=>by rw[List.cons_append,Ya,Ya,QGJ l m];omega
theorem QeW(c:Cnd):1≤csz c:=by rw[JA];omega
theorem J5{l:List Cnd}{i:Nat}(h:i<l.length):csz (gt l (i:Int))≤Xu l:=by
 have e:l=l.take i++gt l (i:Int)::l.drop (i+1):=by rw[Xc h];simp
 have:=congrArg Xu e
 rw[QeV,Xu] at this
 omega
theorem Qal:∀l:List Cnd,l.length≤Xu l
 |[]=>by simp [Xu]
 |c::l=>by have:=Qal l;have:=QeW c;rw[Xu,List.length_cons];omega
theorem Qk9{l:List Cnd}{i:Nat}(h:i<l.length):Xu (l.take (i+1))=Xu (l.take i)+csz (gt l (i:Int)):=by
 rw[Yk h,QeV];simp [Xu]
theorem QGK{l:List Cnd}{i:Nat}(h:i<l.length):Ya (l.take (i+1))=max (Ya (l.take i)) (cdp (gt l (i:Int))):=by
 rw[Yk h,QGJ];simp [Ya]
theorem Qla(l:List Cnd)(i:Nat):Xu (l.take i)≤Xu l:=by
 have:=QeV (l.take i) (l.drop i)
 rw[List.take_append_drop] at this
 omega
theorem QeX:∀c,cdp c≤csz c:=by
 have key:∀n c,csz c≤n→cdp c≤csz c:=fun n=>by
  induction n with
  |zero=>intro c h;have:=QeW c;omega
  |succ n ih=>
   intro c h
   have hl:∀l,Xu l≤n→Ya l≤Xu l:=fun l=>by
    induction l with
    |nil=>simp [Ya]
    |cons a l ihl=>intro hl;rw[Xu] at hl ⊢;rw[Ya];have:=ih a (by omega);have:=ihl (by omega);omega
   have e1:=JA c
   have:=hl (QU c) (by omega)
   rw[Qk8]
   split<;>omega
 exact fun c=>key _ c (Qf _)
def J6:Cnd→Prop
 | .an l=>l≠[]
 | .or l=>l≠[]
 |_=>True
def XV(c:Cnd):Int:=if csz c≤2000∧cdp c≤3 then 0 else 3
def QaJ(c:Cnd)(a b:Int):Bool:=!(decide (a<(Xk c).n.length)||(decide (b<(Xk c).e.length)||(decide (100<((Xn c).n.length:Int))||decide (100<((Xn c).e.length:Int)))))
mutual
def Yn(a b:Int):Cnd→Bool
 | .tt=>QaJ .tt a b
 | .no c=>QaJ (.no c) a b&&Yn a b c
 | .an l=>QaJ (.an l) a b&&Qbf a b l
 | .or l=>QaJ (.or l) a b&&Qbf a b l
 | .ex m p c=>QaJ (.ex m p c) a b&&Yn a b c
def Qbf(a b:Int):List Cnd→Bool
 |[]=>true
 |c::l=>Yn a b c&&Qbf a b l
end
theorem QGL(a b:Int):∀l,Qbf a b l=l.all (Yn a b)
 |[]=>rfl
 |c::l=>by rw[Qbf,QGL a b l];rfl
theorem QYH(a b:Int)(c:Cnd):Yn a b c=(QaJ c a b&&Qbf a b (QU c)):=by cases c<;>simp [Yn,Qbf,QU]
def QcZ(a:G)(c:Cnd):Bool:=
 if 60<csz c∨Yn 45 90 c=false∨few a=false then false
 else decide (XV c≠0)||(decide (csz c≤8)&&((decide (cdp c≤1)&&Yn 4 3 c)||(decide (cdp c≤2)&&Yn 2 2 c)))
section
variable (P:Program) (F:String→Nat)
def QeY:Prop:=FC P (F "i") [] (cnD .tt) []
def Qlb:Prop:=∀(k:Int)(l:List Cnd),FC P (F "X") [.agg [.int .i64 k,.lst 9 (cds l),.lst 1 [],.lst 1 [],.lst 1 [],.lst 3 [],.lst 4 [],.int .i64 0,.lst 5 []]] (.bool true) []
def Qlc:Prop:=∀c:Cnd,J6 c→FC P (F "aY") [cnD c] (.int .i64 0) []
def Qld(n:Nat):Prop:=∀c:Cnd,csz c=n→n≤1000000→FC P (F "m") [cnD c] (.tup [.int .i64 (csz c),.int .i64 (cdp c)]) []
def Qc0:Prop:=∀n,Qld P F n
def Qle(n:Nat):Prop:=∀(a:G)(c:Cnd),csz c=n→n≤1000000→QX a=0→Q3 a c→FC P (F "y") [gD a,cnD c] (.int .i64 0) []
def Qlf:Prop:=∀n,Qle P F n
def Qlg:Prop:=∀c:Cnd,csz c≤1000000→FC P (F "bP") [cnD c] (.int .i64 (XV c)) []
def Qlh:Prop:=∀(a:G)(c:Cnd),csz c≤1000000→QX a=0→Q3 a c→FC P (F "aQ") [gD a,cnD c] (.int .i64 (XV c)) []
def Qli(n:Nat):Prop:=∀(c:Cnd)(a b:Int),csz c=n→n≤1000000→FC P (F "o") [cnD c,.int .i64 a,.int .i64 b] (.bool (Yn a b c)) []
def Qlj:Prop:=∀n,Qli P F n
def Qlk:Prop:=∀(a:G)(c:Cnd),csz c≤1000000→QX a=0→Q3 a c→FC P (F "bT") [gD a,cnD c] (.bool (QcZ a c)) []
end
section
variable {P:Program} {F:String→Nat} {α:Type}
theorem QYI:W P (QeS F) (DoneZ [.c 0 true 9] [] (cnD .tt) []) (init []):=by
 refine ZH ?_
 rw[Q4]
 simp(disch:=omega)only[go_sem]
 rfl
theorem QYJ(k:Int)(l:List Cnd):W P (QkX F) (Done [.t 2] [] (.bool true) []) (init [.agg [.int .i64 k,.lst 9 (cds l),.lst 1 [],.lst 1 [],.lst 1 [],.lst 3 [],.lst 4 [],.int .i64 0,.lst 5 []]]):=by
 refine QZ ?_
 have d:decide (((0:Nat):Int)+((0:Nat):Int)+((0:Nat):Int)+((0:Nat):Int)+((0:Nat):Int)+0+((0:Nat):Int)=0)=true:=rfl
 simp(disch:=omega)only[go_sem,d]
theorem QYK(hb:Qlb P F)(c:Cnd)(hs:J6 c):W P (QkY F) (Done [.t 2] [] (.int .i64 0) []) (init [cnD c]):=by
 refine QZ ?_
 rw[Q4]
 have r:=hb (Q9 c) (QU c)
 cases c with
 |tt=>
  simp only[Q9,QU,Xn,Xk,m0,g0,Qk6] at*
  have d1:decide ((1:Int)=1)=true:=rfl
  have d2:decide (((0:Nat):Int)>0)=false:=rfl
  simp(disch:=omega)only[go_sem,d1,d2]
  refine QT r ?_
  simp(disch:=omega)only[go_sem]
 |no c=>
  simp only[Q9,QU,Xn,Xk,m0,g0,Qbd] at*
  have d1:decide ((2:Int)=1)=false:=rfl
  have d2:decide ((2:Int)=2)=true:=rfl
  have d3:decide (((1:Nat):Int)=1)=true:=rfl
  simp(disch:=omega)only[go_sem,d1,d2,d3]
  refine QT r ?_
  simp(disch:=omega)only[go_sem]
 |an l=>
  simp only[Q9,QU,Xn,Xk,m0,g0,J6] at*
  have d1:decide ((3:Int)=1)=false:=rfl
  have d2:decide ((3:Int)=2)=false:=rfl
  have d3:decide ((3:Int)=3)=true:=rfl
  have d4:decide ((l.length:Int)=0)=false:=Qc (by cases l with|nil=>exact absurd rfl hs|cons a l=>simp;omega)
  simp(disch:=omega)only[go_sem,d1,d2,d3,d4]
  refine QT r ?_
  simp(disch:=omega)only[go_sem]
 |or l=>
  simp only[Q9,QU,Xn,Xk,m0,g0,J6] at*
  have d1:decide ((4:Int)=1)=false:=rfl
  have d2:decide ((4:Int)=2)=false:=rfl
  have d3:decide ((4:Int)=3)=false:=rfl
  have d5:decide ((4:Int)=4)=true:=rfl
  have d4:decide ((l.length:Int)=0)=false:=Qc (by cases l with|nil=>exact absurd rfl hs|cons a l=>simp;omega)
  simp(disch:=omega)only[go_sem,d1,d2,d3,d4,d5]
  refine QT r ?_
  simp(disch:=omega)only[go_sem]
 |ex m p c=>
  simp only[Q9,QU,Xn,Xk,m0,g0,Qbd] at*
  have d1:decide ((5:Int)=1)=false:=rfl
  have d2:decide ((5:Int)=2)=false:=rfl
  have d3:decide ((5:Int)=3)=false:=rfl
  have d4:decide ((5:Int)=4)=false:=rfl
  have d5:decide ((5:Int)=5)=true:=rfl
  have d6:decide (((1:Nat):Int)=1)=true:=rfl
  have d7:decide ((0:Int)<((0:Nat):Int))=false:=rfl
  have d8:decide ((0:Int)=0)=true:=rfl
  simp(disch:=omega)only[go_sem,d1,d2,d3,d4,d5,d6,d7,d8]
set_option maxRecDepth 100000 in
theorem QYL(n:Nat)(ih:∀m,m<n→Qld P F m)(c:Cnd)(hc:csz c=n)(hn:n≤1000000):W P (QkZ F) (Done [.t 2,.t 3] [] (.tup [.int .i64 (csz c),.int .i64 (cdp c)]) []) (init [cnD c]):=by
 refine QZ ?_
 have e1:=JA c
 have e2:=Qk8 c
 have e3:=QeX c
 have hl:=Qal (QU c)
 have hk:∀i:Nat,i<(QU c).length→FC P (F "m") [cnD (gt (QU c) (i:Int))] (.tup [.int .i64 (csz (gt (QU c) (i:Int))),.int .i64 (cdp (gt (QU c) (i:Int)))]) []:=fun i hi=>by
  have:=J5 hi
  exact ih _ (by omega) _ rfl (by omega)
 have sS:=fun i hi=>Qk9 (l:=QU c) (i:=i) hi
 have dS:=fun i hi=>QGK (l:=QU c) (i:=i) hi
 have sL:=Qla (QU c)
 have kL:=fun (i:Nat) hi=>J5 (l:=QU c) (i:=i) hi
 have kD:=fun (i:Nat)=>QeX (gt (QU c) (i:Int))
 have s0:Xu ((QU c).take 0)=0:=rfl
 have d0:Ya ((QU c).take 0)=0:=rfl
 have sN:Xu ((QU c).take (QU c).length)=Xu (QU c):=by rw[List.take_length]
 have dN:Ya ((QU c).take (QU c).length)=Ya (QU c):=by rw[List.take_length]
 rw[Q4]
 generalize csz c=S at*
 generalize cdp c=T at*
 generalize Q9 c=k at*
 generalize (Xn c).n=mn at*
 generalize (Xn c).e=me at*
 generalize (Xk c).n=pn at*
 generalize (Xk c).e=pe at*
 generalize Xu (QU c)=A at*
 generalize Ya (QU c)=B at*
 generalize QU c=l at*
 obtain⟨sA,hsA⟩:∃sA:Nat→Nat,∀i,Xu (l.take i)=sA i:=⟨_,fun _=>rfl⟩
 obtain⟨dA,hdA⟩:∃dA:Nat→Nat,∀i,Ya (l.take i)=dA i:=⟨_,fun _=>rfl⟩
 simp only[hsA,hdA] at*
 clear hsA hdA
 simp(disch:=omega)only[go_sem]
 refine Q5 (fun i:Nat=>⟨[(1,.pt 0 0),(4,.int .i64 ((sA i:Int)+1)),(5,.int .i64 (dA i)),(6,.int .i64 i)],[(0,.box [.int .i64 k,.lst 9 (cds l),.lst 1 (QR mn),.lst 1 (QR me),.lst 1 (QR pn),.lst 3 (eds pe),.lst 4 [],.int .i64 0,.lst 5 []])],1⟩) (fun i=>i≤l.length) (fun i=>l.length-i) 0 ?_ ?_ ?_
 ·simp(disch:=omega)only[go_sem,s0,d0]
  rfl
 ·simp
 ·intro i hi
  by_cases h:i<l.length
  ·have g1:decide ((i:Int)<l.length)=true:=Qd (by omega)
   have r:=hk i h
   rw[Q4] at r
   have:=sS i h
   have:=dS i h
   have:=sL i
   have:=sL (i+1)
   have:=kL i h
   have:=kD i
   generalize csz (gt l (i:Int))=u at*
   generalize cdp (gt l (i:Int))=w at*
   simp(disch:=omega)only[go_sem,QeT,g1]
   refine QT r ?_
   simp(disch:=omega)only[go_sem]
   exact⟨i+1,by simp;omega,by omega,by omega⟩
  ·obtain rfl:i=l.length:=by omega
   have g1:decide ((l.length:Int)<l.length)=false:=Qc (by omega)
   by_cases hk5:k=5
   ·have g2:decide (k=5)=true:=Qd hk5
    rw[if_pos hk5] at e2
    simp(disch:=omega)only[go_sem,QeT,g1,g2]
    simp;omega
   ·have g2:decide (k=5)=false:=Qc hk5
    rw[if_neg hk5] at e2
    simp(disch:=omega)only[go_sem,QeT,g1,g2]
    simp;omega
theorem QYM(hs:Qlc P F)(hv:QbF P F)(hj:QhH P F)(n:Nat)(ih:∀m,m<n→Qle P F m)(a:G)(c:Cnd)(hc:csz c=n)(hn:n≤1000000)(va:QX a=0)(ho:Q3 a c):
  W P (Qk1 F) (Done [.t 4] [] (.int .i64 0) []) (init [gD a,cnD c]):=by
 refine QZ ?_
 have e1:=JA c
 have hl:=Qal (QU c)
 have hl2:(QU c).length≤1000000:=by omega
 have rs:=hs c (by cases c<;>simp only[Q3,J6] at ho ⊢<;>exact ho.1)
 by_cases hx:∃m p d,c=.ex m p d
 ·obtain⟨m,p,d,rfl⟩:=hx
  simp only[Q3] at ho
  obtain⟨hm,hd⟩:=ho
  have r1:=hv a p m
  rw[mok.2 hm.ok] at r1
  have l1:=hm.ok.ln
  have l2:=hm.ok.le
  obtain⟨v1,v2,_⟩:=Q8 va
  have r2:=hj a p m (by unfold QW;omega) (by unfold QW;omega)
  have e2:Zr a p m=true:=by
   unfold Zr
   rw[mok.2 hm.ok]
   simp only[decide_true,Bool.true_and,Qi]
   exact⟨Qd hm.nn,Qd hm.ne⟩
  rw[e2] at r2
  have r3:=ih (csz d) (by rw[JA] at hc;simp only[QU,Xu] at hc;omega) p d rfl (by rw[JA] at hc;simp only[QU,Xu] at hc;omega) hm.ok.vb hd
  rw[Q4] at r3 rs ⊢
  have hz:=Qbe (l:=[d]) (by simp)
  have hg:gt [d] 0=d:=rfl
  rw[hg] at hz
  clear ih e1 hl hc l1 l2 v1 v2 hm hd e2 hv hj hs va
  simp only[Q9,QU,Xn,Xk] at*
  obtain⟨an,ae⟩:=a
  obtain⟨mn,me⟩:=m
  obtain⟨pn,pe⟩:=p
  simp only[gD,mD] at*
  have d0:decide ((0:Int)=0)=true:=rfl
  have d5:decide ((5:Int)=5)=true:=rfl
  simp(disch:=omega)only[go_sem,d0,d5]
  refine QT rs ?_
  simp(disch:=omega)only[go_sem,d0,d5]
  refine QT r1 ?_
  simp(disch:=omega)only[go_sem,d0]
  refine QT r2 ?_
  simp(disch:=omega)only[go_sem,hz]
  refine QT r3 ?_
  simp(disch:=omega)only[go_sem]
 ·have hk5:Q9 c≠5:=fun h=>hx (by cases c<;>simp [Q9] at h;exact⟨_,_,_,rfl⟩)
  have hov:∀i:Nat,i<(QU c).length→Q3 a (gt (QU c) (i:Int)):=fun i hi=>by
   have hm:=gt_mem (l:=QU c) (j:=(i:Int)) (by omega) (by omega)
   cases c
   case tt=>simp [QU] at hi
   case no c=>
    have hm':gt (QU (.no c)) (i:Int)=c:=by simpa only[QU,Qn] using hm
    rw[hm']
    simpa only[Q3] using ho
   case an l=>simp only[Q3,Ju,QU] at ho hm;exact ho.2 _ hm
   case or l=>simp only[Q3,Ju,QU] at ho hm;exact ho.2 _ hm
   case ex=>exact absurd ⟨_,_,_,rfl⟩ hx
  have hk:∀i:Nat,i<(QU c).length→FC P (F "y") [gD a,cnD (gt (QU c) (i:Int))] (.int .i64 0) []:=fun i hi=>by
   have:=J5 hi
   exact ih _ (by omega) _ _ rfl (by omega) va (hov i hi)
  rw[Q4] at rs ⊢
  clear ih e1 hc hs hv hj hov hx ho
  generalize Q9 c=k at*
  generalize (Xn c).n=mn at*
  generalize (Xn c).e=me at*
  generalize (Xk c).n=pn at*
  generalize (Xk c).e=pe at*
  generalize Xu (QU c)=A at*
  generalize QU c=l at*
  obtain⟨an,ae⟩:=a
  simp only[gD] at*
  have d0:decide ((0:Int)=0)=true:=rfl
  have d5:decide (k=5)=false:=Qc hk5
  simp(disch:=omega)only[go_sem,d0,d5]
  refine QT rs ?_
  simp(disch:=omega)only[go_sem,d0,d5]
  refine Q5 (fun i:Nat=>⟨[(2,.pt 0 0),(3,.pt 1 0),(7,.int .i64 i)],[(0,.box [.lst 1 (QR an),.lst 3 (eds ae)]),(1,.box [.int .i64 k,.lst 9 (cds l),.lst 1 (QR mn),.lst 1 (QR me),.lst 1 (QR pn),.lst 3 (eds pe),.lst 4 [],.int .i64 0,.lst 5 []])],2⟩) (fun i=>i≤l.length) (fun i=>l.length-i) 0 ?_ ?_ ?_
  ·simp(disch:=omega)only[go_sem]
   rfl
  ·simp
  ·intro i hi
   by_cases h:i<l.length
   ·have g1:decide ((i:Int)<l.length)=true:=Qd (by omega)
    have r:=hk i h
    rw[Q4] at r
    simp(disch:=omega)only[go_sem,Qk0,g1]
    refine QT r ?_
    simp(disch:=omega)only[go_sem,d0]
    exact⟨i+1,by simp,by omega,by omega⟩
   ·obtain rfl:i=l.length:=by omega
    have g1:decide ((l.length:Int)<l.length)=false:=Qc (by omega)
    simp(disch:=omega)only[go_sem,Qk0,g1]
theorem QYN(hs:Qc0 P F)(c:Cnd)(h:csz c≤1000000):W P (Qk2 F) (Done [.t 2] [] (.int .i64 (XV c)) []) (init [cnD c]):=by
 refine QZ ?_
 have r:=hs _ c rfl h
 have e:XV c=if csz c≤2000∧cdp c≤3 then 0 else 3:=rfl
 rw[Q4] at r ⊢
 generalize XV c=E at*
 generalize csz c=A at*
 generalize cdp c=B at*
 by_cases h1:A≤2000
 ·have g1:decide ((2000:Int)<A)=false:=Qc (by omega)
  by_cases h2:B≤3
  ·have g2:decide ((3:Int)<B)=false:=Qc (by omega)
   rw[if_pos ⟨h1,h2⟩] at e
   subst e
   simp(disch:=omega)only[go_sem]
   refine QT r ?_
   simp(disch:=omega)only[go_sem,g1,g2]
  ·have g2:decide ((3:Int)<B)=true:=Qd (by omega)
   rw[if_neg (by omega)] at e
   subst e
   simp(disch:=omega)only[go_sem]
   refine QT r ?_
   simp(disch:=omega)only[go_sem,g1,g2]
 ·have g1:decide ((2000:Int)<A)=true:=Qd (by omega)
  rw[if_neg (by omega)] at e
  subst e
  simp(disch:=omega)only[go_sem]
  refine QT r ?_
  simp(disch:=omega)only[go_sem,g1]
theorem QYO(h5:Qa3 P F)(ho:Qlf P F)(hl:Qlg P F)(a:G)(c:Cnd)(h:csz c≤1000000)(va:QX a=0)(hov:Q3 a c):W P (Qk3 F) (Done [.t 4] [] (.int .i64 (XV c)) []) (init [gD a,cnD c]):=by
 refine QZ ?_
 have r1:=h5 a
 rw[va] at r1
 have r2:=ho _ a c rfl h va hov
 have r3:=hl c h
 rw[Q4] at r2 r3 ⊢
 obtain⟨an,ae⟩:=a
 simp only[gD] at*
 have d0:decide ((0:Int)=0)=true:=rfl
 simp(disch:=omega)only[go_sem]
 refine QT r1 ?_
 simp(disch:=omega)only[go_sem,d0]
 refine QT r2 ?_
 simp(disch:=omega)only[go_sem,d0]
 refine QT r3 ?_
 simp(disch:=omega)only[go_sem]
set_option maxRecDepth 100000 in
theorem QYP(n:Nat)(ih:∀m,m<n→Qli P F m)(c:Cnd)(a b:Int)(hc:csz c=n)(hn:n≤1000000):W P (Qk4 F) (Done [.t 6] [] (.bool (Yn a b c)) []) (init [cnD c,.int .i64 a,.int .i64 b]):=by
 refine QZ ?_
 have e1:=JA c
 have hl:=Qal (QU c)
 have hl2:(QU c).length≤1000000:=by omega
 have hk:∀i:Nat,i<(QU c).length→FC P (F "o") [cnD (gt (QU c) (i:Int)),.int .i64 a,.int .i64 b] (.bool (Yn a b (gt (QU c) (i:Int)))) []:=fun i hi=>by
  have:=J5 hi
  exact ih _ (by omega) _ _ _ rfl (by omega)
 have eF:=QYH a b c
 rw[QGL] at eF
 have eH:QaJ c a b=!(decide (a<(Xk c).n.length)||(decide (b<(Xk c).e.length)||(decide (100<((Xn c).n.length:Int))||decide (100<((Xn c).e.length:Int))))):=rfl
 rw[Q4]
 clear ih e1 hc
 generalize Yn a b c=Z at*
 generalize QaJ c a b=H at*
 generalize Q9 c=k at*
 generalize (Xn c).n=mn at*
 generalize (Xn c).e=me at*
 generalize (Xk c).n=pn at*
 generalize (Xk c).e=pe at*
 generalize Xu (QU c)=A at*
 generalize QU c=l at*
 have d7:decide ((20:Int)<((0:Nat):Int))=false:=rfl
 cases g1:decide (a<(pn.length:Int)) with
 |true=>
  rw[g1] at eH
  simp only[Bool.true_or,Bool.not_true] at eH
  subst eH
  simp only[Bool.false_and] at eF
  subst eF
  simp(disch:=omega)only[go_sem,g1]
 |false=>
 cases g2:decide (b<(pe.length:Int)) with
 |true=>
  rw[g1,g2] at eH
  simp only[Bool.true_or,Bool.false_or,Bool.not_true] at eH
  subst eH
  simp only[Bool.false_and] at eF
  subst eF
  simp(disch:=omega)only[go_sem,g1,g2]
 |false=>
 cases g3:decide (100<(mn.length:Int)) with
 |true=>
  rw[g1,g2,g3] at eH
  simp only[Bool.true_or,Bool.false_or,Bool.not_true] at eH
  subst eH
  simp only[Bool.false_and] at eF
  subst eF
  simp(disch:=omega)only[go_sem,g1,g2,g3]
 |false=>
 cases g4:decide (100<(me.length:Int)) with
 |true=>
  rw[g1,g2,g3,g4] at eH
  simp only[Bool.false_or,Bool.not_true] at eH
  subst eH
  simp only[Bool.false_and] at eF
  subst eF
  simp(disch:=omega)only[go_sem,g1,g2,g3,g4]
 |false=>
  rw[g1,g2,g3,g4] at eH
  simp only[Bool.false_or,Bool.not_false] at eH
  subst eH
  simp only[Bool.true_and] at eF
  simp(disch:=omega)only[go_sem,g1,g2,g3,g4,d7]
  refine Q5 (fun i:Nat=>⟨[(1,.int .i64 a),(2,.int .i64 b),(3,.pt 0 0),(7,.int .i64 i)],[(0,.box [.int .i64 k,.lst 9 (cds l),.lst 1 (QR mn),.lst 1 (QR me),.lst 1 (QR pn),.lst 3 (eds pe),.lst 4 [],.int .i64 0,.lst 5 []])],1⟩) (fun i=>i≤l.length∧(l.take i).all (Yn a b)=true) (fun i=>l.length-i) 0 ?_ ?_ ?_
  ·simp(disch:=omega)only[go_sem]
   rfl
  ·simp
  ·rintro i ⟨hi,hia⟩
   by_cases h:i<l.length
   ·have g1:decide ((i:Int)<l.length)=true:=Qd (by omega)
    have r:=hk i h
    have hs:(l.take (i+1)).all (Yn a b)=((l.take i).all (Yn a b)&&Yn a b (gt l (i:Int))):=by rw[Yk h];simp
    rw[hia,Bool.true_and] at hs
    have hf:Yn a b (gt l (i:Int))=false→l.all (Yn a b)=false:=fun hf=>by
     rw[←Bool.not_eq_true,Qr]
     intro hh
     have:=hh _ (gt_mem (l:=l) (j:=(i:Int)) (by omega) (by omega))
     rw[hf] at this
     cases this
    rw[Q4] at r
    generalize Yn a b (gt l (i:Int))=u at*
    cases u
    ·rw[hf rfl] at eF
     subst eF
     simp(disch:=omega)only[go_sem,QeU,g1]
     refine QT r ?_
     simp(disch:=omega)only[go_sem]
    ·simp(disch:=omega)only[go_sem,QeU,g1]
     refine QT r ?_
     simp(disch:=omega)only[go_sem]
     exact⟨i+1,by simp,⟨by omega,hs⟩,by omega⟩
   ·obtain rfl:i=l.length:=by omega
    rw[List.take_length] at hia
    rw[hia] at eF
    subst eF
    have g1:decide ((l.length:Int)<l.length)=false:=Qc (by omega)
    simp(disch:=omega)only[go_sem,QeU,g1]
set_option maxRecDepth 100000 in
theorem QYQ(hz:Qc0 P F)(hf:Qlj P F)(h5:Qht P F)(hv:Qlh P F)(a:G)(c:Cnd)(h:csz c≤1000000)(va:QX a=0)(ho:Q3 a c):W P (Qk5 F) (Done [.t 4] [] (.bool (QcZ a c)) []) (init [gD a,cnD c]):=by
 refine QZ ?_
 have r1:=hz _ c rfl h
 have r2:=hf _ c 45 90 rfl h
 have r3:=h5 a
 have r4:=hv a c h va ho
 have r5:=hf _ c 4 3 rfl h
 have r6:=hf _ c 2 2 rfl h
 have e:QcZ a c=if 60<csz c∨Yn 45 90 c=false∨few a=false then false
 else decide (XV c≠0)||(decide (csz c≤8)&&((decide (cdp c≤1)&&Yn 4 3 c)||(decide (cdp c≤2)&&Yn 2 2 c))):=rfl
 rw[Q4] at r1 r2 r4 r5 r6 ⊢
 generalize QcZ a c=Z at*
 generalize csz c=S at*
 generalize cdp c=T at*
 generalize Yn 45 90 c=f1 at*
 generalize Yn 4 3 c=f2 at*
 generalize Yn 2 2 c=f3 at*
 generalize few a=f4 at*
 generalize XV c=L at*
 obtain⟨an,ae⟩:=a
 simp only[gD] at*
 have cI:∀(p q:Prop)[Decidable p][Decidable q],(p↔q)→decide p=decide q:=fun p q _ _ h=>by simp [h]
 by_cases c1:60<S
 ·have g1:decide ((60:Int)<S)=true:=Qd (by omega)
  rw[if_pos (.inl c1)] at e
  subst e
  simp(disch:=omega)only[go_sem]
  refine QT r1 ?_
  simp(disch:=omega)only[go_sem,g1]
 have g1:decide ((60:Int)<S)=false:=Qc (by omega)
 cases f1 with
 |false=>
  rw[if_pos (.inr (.inl rfl))] at e
  subst e
  simp(disch:=omega)only[go_sem]
  refine QT r1 ?_
  simp(disch:=omega)only[go_sem,g1]
  refine QT r2 ?_
  simp(disch:=omega)only[go_sem]
 |true=>
 cases f4 with
 |false=>
  rw[if_pos (.inr (.inr rfl))] at e
  subst e
  simp(disch:=omega)only[go_sem]
  refine QT r1 ?_
  simp(disch:=omega)only[go_sem,g1]
  refine QT r2 ?_
  simp(disch:=omega)only[go_sem]
  refine QT r3 ?_
  simp(disch:=omega)only[go_sem]
 |true=>
  rw[if_neg (by simp;omega)] at e
  simp(disch:=omega)only[go_sem]
  refine QT r1 ?_
  simp(disch:=omega)only[go_sem,g1]
  refine QT r2 ?_
  simp(disch:=omega)only[go_sem]
  refine QT r3 ?_
  simp(disch:=omega)only[go_sem]
  refine QT r4 ?_
  cases g2:decide (L=0) with
  |false=>
   have:decide (L≠0)=true:=by simpa using g2
   rw[this,Bool.true_or] at e
   subst e
   simp(disch:=omega)only[go_sem,g2]
  |true=>
  have:decide (L≠0)=false:=by simpa using g2
  rw[this,Bool.false_or] at e
  cases g3:decide ((S:Int)≤8) with
  |false=>
   have:decide (S≤8)=false:=by simp at g3 ⊢;omega
   rw[this,Bool.false_and] at e
   subst e
   simp(disch:=omega)only[go_sem,g2,g3]
  |true=>
  have:decide (S≤8)=true:=by simp at g3 ⊢;omega
  rw[this,Bool.true_and] at e
  have g5:decide (T≤1)=decide ((T:Int)≤1):=cI _ _ (by omega)
  have g6:decide (T≤2)=decide ((T:Int)≤2):=cI _ _ (by omega)
  rw[g5,g6] at e
  cases g7:decide ((T:Int)≤1) with
  |true=>
   rw[g7,Bool.true_and] at e
   cases f2 with
   |true=>
    rw[Bool.true_or] at e
    subst e
    simp(disch:=omega)only[go_sem,g2,g3,g7]
    refine QT r5 ?_
    simp(disch:=omega)only[go_sem]
   |false=>
    rw[Bool.false_or] at e
    have g8:decide ((T:Int)≤2)=true:=Qd (by have:=of_decide_eq_true g7;omega)
    rw[g8,Bool.true_and] at e
    subst e
    simp(disch:=omega)only[go_sem,g2,g3,g7]
    refine QT r5 ?_
    simp(disch:=omega)only[go_sem,g8]
    refine QT r6 ?_
    simp(disch:=omega)only[go_sem]
  |false=>
   rw[g7,Bool.false_and,Bool.false_or] at e
   cases g8:decide ((T:Int)≤2) with
   |true=>
    rw[g8,Bool.true_and] at e
    subst e
    simp(disch:=omega)only[go_sem,g2,g3,g7,g8]
    refine QT r6 ?_
    simp(disch:=omega)only[go_sem]
   |false=>
    rw[g8,Bool.false_and] at e
    subst e
    simp(disch:=omega)only[go_sem,g2,g3,g7,g8]
end
end Go.Am
