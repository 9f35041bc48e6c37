/- Contracts and what they rest on: Cc. -/
import Derived.Test.YtgllpjliaepbdaaGreatCa
import Derived.Test.YtgllpjliaepbdaaGreatCb
import Derived.Test.YtgllpjliaepbdaaGreatAmPi
import Derived.Test.YtgllpjliaepbdaaGreatAmEv
import Derived.Shelf.Sort.Plain
import Derived.Shelf.Slices.In.SortNone
import Derived.RangeFuncBox
import Derived.RangeFuncLeaves
import Derived.WalkKit
import Derived.OwnWalkIn
import Derived.TacticsInMore
import Derived.LoopNIn
import Derived.LoopIn
import Derived.Maps.AppendAt
set_option linter.unusedVariables false
set_option linter.unusedSimpArgs false
set_option linter.unnecessarySimpa false
open Go Go.Proofs Go.RowKit
namespace Go.Am
set_option maxRecDepth 100000
attribute [local irreducible] W
theorem Qke(l:List Int)(n:Int)(hl:l.length≤QS)(h0:0≤n)(h1:n≤1000000):FC Tryz.prog 163 [.lst 1 (QR l),.int .i64 n] (.int .i64 (XN n none l)) []:=by
 refine fo [[]] ?_
 conv in fnC ..=>reduce
 unfold QS at hl
 simp(disch:=omega)only[go_sem]
 refine Xj (fun i:Nat=>⟨[(0,.lst 1 (QR l)),(1,.int .i64 n),(5,.int .i64 i)],[],0⟩) (fun i=>i≤l.length∧XN n none l=XN n (JB l i) (l.drop i)) (fun i=>l.length-i) 0 ?_ ?_ ?_
 ·simp(disch:=omega)only[go_sem]
  rfl
 ·simp [JB]
 ·intro i hi
  simp(disch:=omega)only[go_sem]
  refine QT (fun a=>?_) (fun a=>?_)
  ·have hs:=Qjj n l i (by omega)
   simp(disch:=omega)only[go_sem]
   refine QT (fun b=>?_) (fun b=>?_)
   ·simp(disch:=omega)only[go_sem,b]
    rw[hi.2,hs,if_neg (by omega)]
   ·simp(disch:=omega)only[go_sem,b]
    refine QT (fun b2=>?_) (fun b2=>?_)
    ·simp(disch:=omega)only[go_sem]
     rw[hi.2,hs,if_neg (by omega)]
    ·rw[if_pos (by omega)] at hs
     simp(disch:=omega)only[go_sem]
     refine QT (fun c=>?_) (fun c=>?_)
     ·simp(disch:=omega)only[go_sem,c]
      refine QT (fun d=>?_) (fun d=>?_)
      ·simp(disch:=omega)only[go_sem]
       rw[hi.2,hs,if_pos ⟨by omega,d⟩]
      ·simp(disch:=omega)only[go_sem]
       exact⟨i+1,by simp,⟨by omega,by rw[hi.2,hs,if_neg (fun e=>d e.2)]⟩,by omega⟩
     ·simp(disch:=omega)only[go_sem,c]
      exact⟨i+1,by simp,⟨by omega,by rw[hi.2,hs,if_neg (fun e=>by omega)]⟩,by omega⟩
  ·simp(disch:=omega)only[go_sem]
   rw[hi.2,QD (by omega)]
   rfl
theorem Qsq(l:List Int)(n:Int)(hl:l.length≤QS):FC Tryz.prog 164 [.lst 1 (QR l),.int .i64 n] (.bool (decide (n∈l))) []:=by
 refine fo [] ?_
 conv in fnC ..=>reduce
 unfold QS at hl
 simp(disch:=omega)only[go_sem]
 refine Xj (fun i:Nat=>⟨[(0,.lst 1 (QR l)),(1,.int .i64 n),(5,.int .i64 i)],[],0⟩) (fun i=>i≤l.length∧n∉l.take i) (fun i=>l.length-i) 0 ?_ ?_ ?_
 ·simp(disch:=omega)only[go_sem]
  rfl
 ·simp
 ·rintro i ⟨hi,hn⟩
  simp(disch:=omega)only[go_sem]
  refine QT (fun c=>?_) (fun c=>?_)
  ·have hm:=Qf4 (n:=n) (l:=l) (i:=i) (by omega)
   simp(disch:=omega)only[go_sem]
   refine QT (fun d=>?_) (fun d=>?_)
   ·have:n∈l:=by rw[←d];exact gt_mem (by omega) (by omega)
    simp(disch:=omega)only[go_sem]
    simp [this]
   ·simp(disch:=omega)only[go_sem]
    exact⟨i+1,by simp,⟨by omega,fun h=>by rcases hm.1 h with h|h;exact hn h;exact d h⟩,by omega⟩
  ·obtain rfl:i=l.length:=by omega
   rw[List.take_length] at hn
   simp(disch:=omega)only[go_sem]
   simp [hn]
theorem Qsr(g:G)(p:Mo)(hv:QZ g=0)(h1:p.n.length≤QS)(h2:p.e.length≤QS):FC Tryz.prog 77 [gD g,mD p] (.int .i64 (Jo g p)) []:=by
 refine fo [[]] ?_
 conv in fnC ..=>reduce
 have vs:=XZ hv
 have r1:=Qke p.n g.n.length h1 (by omega) (by omega)
 have r2:=Qke p.e g.e.length h2 (by omega) (by omega)
 have hR:Jo g p=if XN g.n.length none p.n≠0 then XN g.n.length none p.n else if XN g.e.length none p.e≠0 then XN g.e.length none p.e else if ZD g p=true then 14 else 0:=rfl
 rw[hR]
 by_cases c1:XN g.n.length none p.n=0
 case neg=>
  rw[if_pos c1]
  generalize XN g.n.length none p.n=v at*
  simp only[gD,mD] at*
  simp(disch:=omega)only[go_sem]
  refine QQ r1 ?_
  simp(disch:=omega)only[go_sem,c1]
 rw[if_neg (by simp [c1])]
 by_cases c2:XN g.e.length none p.e=0
 case neg=>
  rw[if_pos c2]
  rw[c1] at r1
  generalize XN g.e.length none p.e=v at*
  simp only[gD,mD] at*
  simp(disch:=omega)only[go_sem]
  refine QQ r1 ?_
  simp(disch:=omega)only[go_sem]
  refine QQ r2 ?_
  simp(disch:=omega)only[go_sem,c2]
 rw[if_neg (by simp [c2])]
 have a1:=ascG_iff.1 c1
 have a2:=ascG_iff.1 c2
 have q1:=Z5 a1
 have q2:=Z5 a2
 rw[c1] at r1
 rw[c2] at r2
 have hD:ZD g p=p.e.any fun x=>!(decide ((gt g.e x).f∈p.n)&&decide ((gt g.e x).o∈p.n)):=rfl
 have hx:=fun x=>Qsq p.n x (by unfold QS;omega)
 clear hR c1 c2
 obtain⟨gn,ge⟩:=g
 obtain⟨pn,pe⟩:=p
 simp only[gD,mD] at*
 simp(disch:=omega)only[go_sem]
 refine QQ r1 ?_
 simp(disch:=omega)only[go_sem]
 refine QQ r2 ?_
 simp(disch:=omega)only[go_sem]
 refine Xj (fun i:Nat=>⟨[(2,.pt 0 0),(3,.pt 1 0),(7,.int .i64 i)],[(0,.box [.lst 1 (QR gn),.lst 3 (eds ge)]),(1,.box [.lst 1 (QR pn),.lst 1 (QR pe)])],2⟩) (fun i=>i≤pe.length∧∀k:Nat,k<i→(gt ge (gt pe k)).f∈pn∧(gt ge (gt pe k)).o∈pn) (fun i=>pe.length-i) 0 ?_ ?_ ?_
 ·simp(disch:=omega)only[go_sem]
  rfl
 ·exact⟨by omega,fun k hk=>by omega⟩
 ·rintro i ⟨hi,hk⟩
  by_cases c:i<pe.length
  ·have g1:decide ((i:Int)<pe.length)=true:=Qe (by omega)
   have hb:=a2.b _ (gt_mem (l:=pe) (j:=i) (by omega) (by omega))
   have x1:=hx (gt ge (gt pe i)).f
   have x2:=hx (gt ge (gt pe i)).o
   by_cases d1:(gt ge (gt pe i)).f∈pn
   ·rw[Qe d1] at x1
    by_cases d2:(gt ge (gt pe i)).o∈pn
    ·rw[Qe d2] at x2
     simp(disch:=omega)only[go_sem,g1]
     refine QQ x1 ?_
     simp(disch:=omega)only[go_sem]
     refine QQ x2 ?_
     simp(disch:=omega)only[go_sem]
     refine⟨i+1,by simp,⟨by omega,fun k h=>?_⟩,by omega⟩
     by_cases e:k=i
     ·subst e;exact⟨d1,d2⟩
     ·exact hk k (by omega)
    ·rw[Qf d2] at x2
     have hdt:ZD ⟨gn,ge⟩ ⟨pn,pe⟩=true:=by
      rw[hD,List.any_eq_true]
      exact⟨_,gt_mem (l:=pe) (j:=i) (by omega) (by omega),by simp [d2]⟩
     rw[hdt]
     simp(disch:=omega)only[go_sem,g1]
     refine QQ x1 ?_
     simp(disch:=omega)only[go_sem]
     refine QQ x2 ?_
     simp(disch:=omega)only[go_sem]
     try rfl
   ·rw[Qf d1] at x1
    have hdt:ZD ⟨gn,ge⟩ ⟨pn,pe⟩=true:=by
     rw[hD,List.any_eq_true]
     exact⟨_,gt_mem (l:=pe) (j:=i) (by omega) (by omega),by simp [d1]⟩
    rw[hdt]
    simp(disch:=omega)only[go_sem,g1]
    refine QQ x1 ?_
    simp(disch:=omega)only[go_sem]
    try rfl
  ·have g1:decide ((i:Int)<pe.length)=false:=Qf (by omega)
   obtain rfl:i=pe.length:=by omega
   have hdt:ZD ⟨gn,ge⟩ ⟨pn,pe⟩=false:=by
    rw[hD,List.any_eq_false]
    intro x hx
    obtain⟨k,k1,k2⟩:=Xk hx
    have:=hk k k1
    rw[k2] at this
    simp [this]
   rw[hdt]
   simp(disch:=omega)only[go_sem,g1]
   try rfl
theorem Qgc(g:G)(p:Mo)(h1:p.n.length≤QS)(h2:p.e.length≤QS):FC Tryz.prog 30 [gD g,mD p] (.int .i64 (Yz g p)) []:=by
 refine fo [] ?_
 conv in fnC ..=>reduce
 have r1:=Jn g
 have hR:Yz g p=if QZ g≠0 then QZ g else Jo g p:=rfl
 rw[hR]
 by_cases c:QZ g=0
 ·have r2:=Qsr g p c h1 h2
  rw[if_neg (by simp [c])]
  rw[c] at r1
  generalize Jo g p=v at*
  simp only[gD,mD] at*
  simp(disch:=omega)only[go_sem]
  refine QQ r1 ?_
  simp(disch:=omega)only[go_sem]
  refine QQ r2 ?_
  simp(disch:=omega)only[go_sem]
 ·rw[if_pos c]
  generalize QZ g=v at*
  simp only[gD,mD] at*
  simp(disch:=omega)only[go_sem]
  refine QQ r1 ?_
  simp(disch:=omega)only[go_sem,c]
theorem Qss(l:List Int)(x:Int)(hl:l.length≤QS):FC Tryz.prog 31 [.lst 1 (QR l),.int .i64 x] (.int .i64 (idx (fun y=>decide (x=y)) l 0)) []:=by
 refine fo [] ?_
 conv in fnC ..=>reduce
 unfold QS at hl
 simp(disch:=omega)only[go_sem]
 refine Xj (fun i:Nat=>⟨[(0,.lst 1 (QR l)),(1,.int .i64 x),(5,.int .i64 i)],[],0⟩) (fun i=>i≤l.length∧idx (fun y=>decide (x=y)) l 0=idx (fun y=>decide (x=y)) (l.drop i) i) (fun i=>l.length-i) 0 ?_ ?_ ?_
 ·simp(disch:=omega)only[go_sem]
  rfl
 ·simp
 ·intro i hi
  by_cases c:i<l.length
  ·have d1:decide ((i:Int)<l.length)=true:=Qe (by omega)
   have hd:=Qdm (fun y=>decide (x=y)) l i c
   by_cases e:gt l i=x
   ·have d2:decide (gt l i=x)=true:=Qe e
    simp(disch:=omega)only[go_sem,d1,d2]
    rw[hi.2,hd,if_pos (by simp [e])]
   ·have d2:decide (gt l i=x)=false:=Qf e
    simp(disch:=omega)only[go_sem,d1,d2]
    exact⟨i+1,by simp,⟨by omega,by rw[hi.2,hd,if_neg (by simpa using fun h=>e h.symm)]⟩,by omega⟩
  ·have d1:decide ((i:Int)<l.length)=false:=Qf (by omega)
   simp(disch:=omega)only[go_sem,d1]
   rw[hi.2,QD (by omega)]
   rfl
theorem Qgd(g:G)(p:Mo)(h1:p.sm):FC Tryz.prog 7 [gD g,mD p] (.tup [gA (exR g p).1,mA (exR g p).2.1,.int .i64 (exR g p).2.2]) []:=by
 refine fo [[(1,none,[],true),(11,none,[1],false)],[],[(1,none,[],true),(3,none,[],true),(8,none,[1,3],true),(10,(some 512),[8],false),(12,(some 2048),[8],false),(13,none,[1,3],false),(15,none,[1],false)],[(0,none,[],true),(3,(some 4),[],false),(4,none,[0],true),(7,(some 64),[4],false),(8,none,[0],false)]] ?_
 conv in fnC ..=>reduce
 have r1:=Qgc g p h1.1 h1.2
 have hR:exR g p=if Yz g p≠0 then (g0,m0,Yz g p) else (ptG g p,p,0):=rfl
 have h0:Yz g p=0→PK g p:=fun h=>validP_ok.1 h
 generalize Yz g p=v at*
 rw[hR]
 clear hR
 obtain⟨gn,ge⟩:=g
 obtain⟨pn,pe⟩:=p
 simp only[gD,mD] at*
 simp(disch:=omega)only[go_sem]
 refine QQ r1 ?_
 simp(disch:=omega)only[go_sem]
 refine XY (fun c=>?_) (fun c=>?_)
 ·simp(disch:=omega)only[go_sem]
  simp [c,mA,gA,m0,g0,QR,eds]
 have hk:=h0 c
 have hl:=hk.len
 have hs:=XZ hk.v
 rw[if_neg (by simp [c])]
 clear h0 r1
 simp only[ptG,gA,mA] at*
 have rb:=fun (x:Int) (hx:x∈pn)=>Qss pn x (by unfold QS;omega)
 have rb:∀x∈pn,FC Tryz.prog 31 [.lst 1 (QR pn),.int .i64 x] (.int .i64 (Xq pn x)) []:=fun x hx=>by rw[←Qj8 hk.n.p hx];exact rb x hx
 simp(disch:=omega)only[go_sem]
 refine Xj (fun i:Nat=>⟨[(2,.pt 0 0),(3,.pt 1 0),(4,.pt 4 0),(5,.pt 7 0),(8,.pt 10 0),(9,.int .i64 i)],
  [(0,.box [.lst 1 (QR gn),.lst 3 (eds ge)]),(1,.box [.lst 1 (QR pn),.lst 1 (QR pe)]),(2,.arr 1 []),(3,.arr 3 []),(4,.box [.sl 2 0 0,.sl 3 0 0]),(5,.arr 1 []),(6,.arr 1 []),(7,.box [.sl 5 0 0,.sl 6 0 0]),
   (8,.arr 1 (QR (thr (pn.take i) gn))),(9,.arr 3 []),(10,.box [.sl 8 0 i,.sl 9 0 0])],11⟩) (fun i=>i≤pn.length) (fun i=>pn.length-i) 0 ?_ ?_ ?_
 ·simp(disch:=omega)only[go_sem]
  rfl
 ·simp
 ·intro i hi
  have tl:(thr (pn.take i) gn).length=i:=by rw[X4,Qo];omega
  by_cases e:i<pn.length
  ·have d1:decide ((i:Int)<pn.length)=true:=Qe (by omega)
   have hb1:=hk.n.b _ (gt_mem (l:=pn) (j:=(i:Int)) (by omega) (by omega))
   simp only at hb1
   have hst:=QfO (b:=gn) e
   simp(disch:=omega)only[go_sem,d1,tl]
   exact⟨i+1,by simp [hst],by omega,by omega⟩
  ·have d1:decide ((i:Int)<pn.length)=false:=Qf (by omega)
   obtain rfl:i=pn.length:=by omega
   rw[List.take_length] at tl
   simp(disch:=omega)only[go_sem,d1,tl]
   refine Xj (fun i:Nat=>⟨[(2,.pt 0 0),(3,.pt 1 0),(4,.pt 4 0),(5,.pt 7 0),(8,.pt 10 0),(10,.int .i64 i)],
    [(0,.box [.lst 1 (QR gn),.lst 3 (eds ge)]),(1,.box [.lst 1 (QR pn),.lst 1 (QR pe)]),(2,.arr 1 []),(3,.arr 3 []),(4,.box [.sl 2 0 0,.sl 3 0 0]),(5,.arr 1 []),(6,.arr 1 []),(7,.box [.sl 5 0 0,.sl 6 0 0]),
     (8,.arr 1 (QR (thr pn gn))),(9,.arr 3 (eds (exL ⟨gn,ge⟩ pn (pe.take i)))),(10,.box [.sl 8 0 pn.length,.sl 9 0 i])],11⟩) (fun i=>i≤pe.length) (fun i=>pe.length-i) 0 ?_ ?_ ?_
   ·simp(disch:=omega)only[go_sem]
    rfl
   ·simp
   ·intro i hi
    have el:(exL ⟨gn,ge⟩ pn (pe.take i)).length=i:=by rw[Qak,Qo];omega
    by_cases e:i<pe.length
    ·have d1:decide ((i:Int)<pe.length)=true:=Qe (by omega)
     have hm:=gt_mem (l:=pe) (j:=(i:Int)) (by omega) (by omega)
     have hb1:=hk.e.b _ hm
     have hb2:=hk.d _ hm
     simp only at hb1 hb2
     have hst:=Qj6 (g:=⟨gn,ge⟩) (pn:=pn) e
     simp only at hst
     have rf:=rb (gt ge (gt pe i)).f hb2.1
     have ro:=rb (gt ge (gt pe i)).o hb2.2
     simp(disch:=omega)only[go_sem,d1,el]
     refine QQ rf ?_
     simp(disch:=omega)only[go_sem]
     refine QQ ro ?_
     simp(disch:=omega)only[go_sem,el]
     exact⟨i+1,by simp [hst],by omega,by omega⟩
    ·have d1:decide ((i:Int)<pe.length)=false:=Qf (by omega)
     obtain rfl:i=pe.length:=by omega
     rw[List.take_length] at el
     simp(disch:=omega)only[go_sem,d1,tl,el]
     try rfl
theorem QdL(l:List Int)(hl:l.length≤QS):FC Tryz.prog 16 [.lst 1 (QR l)] (.bool (Yy l)) []:=by
 refine fo [[]] ?_
 conv in fnC ..=>reduce
 unfold QS at hl
 simp(disch:=omega)only[go_sem]
 refine Xj (fun i:Nat=>⟨[(0,.lst 1 (QR l)),(3,.int .i64 i)],[],0⟩) (fun i=>i≤l.length∧(l.take i).Nodup) (fun i=>l.length-i) 0 ?_ ?_ ?_
 ·simp(disch:=omega)only[go_sem]
  rfl
 ·simp
 ·rintro i ⟨hi,hn⟩
  simp(disch:=omega)only[go_sem]
  refine QT (fun c=>?_) (fun c=>?_)
  ·have ht:=Qrg (l:=l) (i:=i) (by omega)
   simp(disch:=omega)only[go_sem]
   refine Xj (fun k:Nat=>⟨[(0,.lst 1 (QR l)),(3,.int .i64 i),(4,.int .i64 k)],[],0⟩) (fun k=>k≤i∧∀j:Nat,j<k→gt l i≠gt l j) (fun k=>i-k) 0 ?_ ?_ ?_
   ·simp(disch:=omega)only[go_sem]
    rfl
   ·simp
   ·rintro k ⟨hk,hd⟩
    simp(disch:=omega)only[go_sem]
    refine QT (fun d=>?_) (fun d=>?_)
    ·simp(disch:=omega)only[go_sem]
     refine QT (fun e=>?_) (fun e=>?_)
     ·simp(disch:=omega)only[go_sem]
      have:¬l.Nodup:=fun h=>by
       have h2:=ht.1 (h.sublist (List.take_sublist _ _))
       exact h2.2 k (by omega) e
      simp [Yy,this]
     ·simp(disch:=omega)only[go_sem]
      refine⟨k+1,by simp,⟨by omega,fun j hj=>?_⟩,by omega⟩
      by_cases hjk:j=k
      ·subst hjk;exact e
      ·exact hd j (by omega)
    ·simp(disch:=omega)only[go_sem]
     exact⟨i+1,by simp,⟨by omega,ht.2 ⟨hn,fun j hj=>hd j (by omega)⟩⟩,by omega⟩
  ·simp(disch:=omega)only[go_sem]
   rw[Qq (by omega)] at hn
   simp [Yy,hn]
theorem Qcj(a b:G)(m:Mo):FC Tryz.prog 157 [gD a,gD b,mD m] (.int .i64 (Yc a b m)) []:=by
 refine fo [[],[],[],[(6,none,[],true),(8,none,[],true),(10,none,[],true),(11,none,[],true),(12,none,[],true),(13,none,[],true),(16,none,[6,8,10,11,12,13],false)],[]] ?_
 conv in fnC ..=>reduce
 have rva:=Jn a
 have rvb:=Jn b
 have sva:=@XZ a
 have svb:=@XZ b
 have hvm:Yc a b m=if QZ a≠0 then QZ a else if QZ b≠0 then QZ b else if m.n.length≠a.n.length∨m.e.length≠a.e.length then 20
  else if YL b.n m.n a.n≠0 then YL b.n m.n a.n else Y8 b.e m.n m.e a.e:=rfl
 rw[hvm]
 generalize QZ a=va at*
 generalize QZ b=vb at*
 clear hvm
 obtain⟨an,ae⟩:=a
 obtain⟨bn,be⟩:=b
 obtain⟨mn,me⟩:=m
 simp only[gD] at rva rvb
 simp only at sva svb
 simp(disch:=omega)only[go_sem,gD,mD]
 refine QQ rva ?_
 simp(disch:=omega)only[go_sem]
 refine XY (fun c1=>?_) (fun c1=>?_)
 ·simp(disch:=omega)only[go_sem]
 ·subst c1
  obtain⟨a1,a2,_,a4⟩:=sva rfl
  simp(disch:=omega)only[go_sem]
  refine QQ rvb ?_
  simp(disch:=omega)only[go_sem]
  refine XY (fun c2=>?_) (fun c2=>?_)
  ·simp(disch:=omega)only[go_sem]
   simp [c2]
  ·subst c2
   obtain⟨b1,b2,_,b4⟩:=svb rfl
   simp(disch:=omega)only[go_sem]
   refine XY (fun c3=>?_) (fun c3=>?_)
   ·simp(disch:=omega)only[go_sem,c3]
    rw[if_neg (by simp),if_neg (by simp)]
   ·simp(disch:=omega)only[go_sem,c3]
    refine XY (fun c4=>?_) (fun c4=>?_)
    ·simp(disch:=omega)only[go_sem,c3,c4]
     rw[if_neg (by simp),if_neg (by simp)]
    ·have d3:mn.length=an.length:=by omega
     have d4:me.length=ae.length:=by omega
     rw[if_neg (by simp),if_neg (by simp),if_neg (by first|omega|(simp only;omega))]
     clear c3 c4
     try simp(disch:=omega)only[go_sem,d3,d4]
     refine Xj (fun i:Nat=>⟨[(3,.pt 0 0),(4,.pt 1 0),(5,.pt 2 0),(9,.int .i64 i)],
      [(0,.box [.lst 1 (QR an),.lst 3 (eds ae)]),(1,.box [.lst 1 (QR bn),.lst 3 (eds be)]),(2,.box [.lst 1 (QR mn),.lst 1 (QR me)])],3⟩)
      (fun i=>i≤mn.length∧YL bn mn an=YL bn (mn.drop i) (an.drop i)) (fun i=>mn.length-i) 0 ?_ ?_ ?_
     ·simp(disch:=omega)only[go_sem,d3]
      rfl
     ·simp
     ·rintro i ⟨hi,hn⟩
      simp(disch:=omega)only[go_sem]
      refine QT (fun c5=>?_) (fun c5=>?_)
      ·have hs:=Qjp (bn:=bn) (ms:=mn) (aSq:=an) (i:=i) (by omega) (by omega)
       simp(disch:=omega)only[go_sem]
       refine QT (fun c6=>?_) (fun c6=>?_)
       ·simp(disch:=omega)only[go_sem,c6]
        rw[if_neg (show ¬(0≤gt mn i∧gt mn i<bn.length) by omega)] at hs
        rw[hn,hs]
        try simp
       ·simp(disch:=omega)only[go_sem,c6]
        refine QT (fun c7=>?_) (fun c7=>?_)
        ·simp(disch:=omega)only[go_sem]
         rw[if_neg (show ¬(0≤gt mn i∧gt mn i<bn.length) by omega)] at hs
         rw[hn,hs]
         try simp
        ·rw[if_pos (show (0≤gt mn i∧gt mn i<bn.length) by omega)] at hs
         simp(disch:=omega)only[go_sem]
         refine XY (fun c8=>?_) (fun c8=>?_)
         ·rw[if_neg c8] at hs
          simp(disch:=omega)only[go_sem]
          rw[hn,hs]
          try simp
         ·rw[if_pos c8] at hs
          simp(disch:=omega)only[go_sem]
          exact⟨i+1,by simp,⟨by omega,by rw[hn,hs]⟩,by omega⟩
      ·rw[Qjr (by omega)] at hn
       simp(disch:=omega)only[go_sem]
       refine Xj (fun i:Nat=>⟨[(3,.pt 0 0),(4,.pt 1 0),(5,.pt 2 0),(10,.int .i64 i)],
        [(0,.box [.lst 1 (QR an),.lst 3 (eds ae)]),(1,.box [.lst 1 (QR bn),.lst 3 (eds be)]),(2,.box [.lst 1 (QR mn),.lst 1 (QR me)])],3⟩)
        (fun i=>i≤me.length∧Y8 be mn me ae=Y8 be mn (me.drop i) (ae.drop i)) (fun i=>me.length-i) 0 ?_ ?_ ?_
       ·simp(disch:=omega)only[go_sem,d4]
        rfl
       ·simp
       ·rintro i ⟨hi,he⟩
        simp(disch:=omega)only[go_sem]
        refine QT (fun c5=>?_) (fun c5=>?_)
        ·have hs:=Qjq (be:=be) (mn:=mn) (ms:=me) (aSq:=ae) (i:=i) (by omega) (by omega)
         have hae:=Qbt (a4 _ (gt_mem (l:=ae) (j:=i) (by omega) (by omega)))
         simp(disch:=omega)only[go_sem]
         refine QT (fun c6=>?_) (fun c6=>?_)
         ·simp(disch:=omega)only[go_sem,c6]
          rw[if_neg (show ¬(0≤gt me i∧gt me i<be.length) by omega)] at hs
          rw[hn,he,hs]
          simp
         ·simp(disch:=omega)only[go_sem,c6]
          refine QT (fun c7=>?_) (fun c7=>?_)
          ·simp(disch:=omega)only[go_sem]
           rw[if_neg (show ¬(0≤gt me i∧gt me i<be.length) by omega)] at hs
           rw[hn,he,hs]
           simp
          ·rw[if_pos (show (0≤gt me i∧gt me i<be.length) by omega)] at hs
           simp(disch:=omega)only[go_sem]
           refine XY (fun c8=>?_) (fun c8=>?_)
           ·rw[if_neg c8] at hs
            simp(disch:=omega)only[go_sem]
            rw[hn,he,hs]
            simp
           ·rw[if_pos c8] at hs
            simp(disch:=omega)only[go_sem]
            refine XY (fun c9=>?_) (fun c9=>?_)
            ·rw[if_neg (fun h=>c9 h.1)] at hs
             simp(disch:=omega)only[go_sem,c9]
             rw[hn,he,hs]
             simp
            ·simp(disch:=omega)only[go_sem,c9]
             refine XY (fun d1=>?_) (fun d1=>?_)
             ·rw[if_neg (fun h=>d1 h.2)] at hs
              simp(disch:=omega)only[go_sem]
              rw[hn,he,hs]
              simp
             ·rw[if_pos ⟨c9,d1⟩] at hs
              simp(disch:=omega)only[go_sem]
              exact⟨i+1,by simp,⟨by omega,by rw[he,hs]⟩,by omega⟩
        ·rw[Qjs (by omega)] at he
         simp(disch:=omega)only[go_sem]
         rw[hn,he]
         simp
theorem Qkf(a b:G)(m:Mo)(h1:m.n.length≤QS)(h2:m.e.length≤QS):FC Tryz.prog 72 [gD a,gD b,mD m] (.bool (ZA a b m)) []:=by
 refine fo [] ?_
 conv in fnC ..=>reduce
 have rv:=Qcj a b m
 have hi:ZA a b m=(decide (Yc a b m=0)&&(Yy m.n&&Yy m.e)):=rfl
 rw[hi]
 generalize Yc a b m=v at*
 have r1:=QdL m.n h1
 have r2:=QdL m.e h2
 obtain⟨an,ae⟩:=a
 obtain⟨bn,be⟩:=b
 obtain⟨mn,me⟩:=m
 simp only[gD,mD] at rv r1 r2 ⊢
 simp(disch:=omega)only[go_sem]
 refine QQ rv ?_
 simp(disch:=omega)only[go_sem]
 refine QT (fun c=>?_) (fun c=>?_)
 ·simp(disch:=omega)only[go_sem,c]
  refine QQ r1 ?_
  simp(disch:=omega)only[go_sem]
  refine QaF (fun d=>?_) (fun d=>?_)
  ·simp(disch:=omega)only[go_sem,c,d]
   refine QQ r2 ?_
   simp(disch:=omega)only[go_sem,c,d]
  ·simp(disch:=omega)only[go_sem,c,d]
 ·simp(disch:=omega)only[go_sem,c]
theorem Qkg(n:Nat)(h2:n≤1000000):FC Tryz.prog 159 [.int .i64 n] (.arr 1 (QR (QY 0 n))) []:=by
 refine fo [] ?_
 conv in fnC ..=>reduce
 simp(disch:=omega)only[go_sem]
 refine Xj (fun i:Nat=>⟨[(0,.int .i64 n),(3,.sl 0 0 i),(4,.int .i64 i)],[(0,.arr 1 (QR (QY 0 i)))],1⟩) (fun i=>i≤n) (fun i=>n-i) 0 ?_ ?_ ?_
 ·simp(disch:=omega)only[go_sem,Qji,Z2]
  rfl
 ·omega
 ·intro i hi
  have e1:=Yp 0 i
  simp(disch:=omega)only[go_sem]
  refine QT (fun a=>?_) (fun a=>?_)
  ·simp(disch:=omega)only[go_sem,e1]
   exact⟨i+1,by simp [Qdn],by omega,by omega⟩
  ·obtain rfl:i=n:=by omega
   simp(disch:=omega)only[go_sem,e1]
theorem Qst(g:G)(h1:g.n.length≤1000000)(h2:g.e.length≤1000000):FC Tryz.prog 75 [gD g] (mA (idM g)) []:=by
 refine fo [[(3,none,[],true),(5,(some 16),[3],false)]] ?_
 conv in fnC ..=>reduce
 obtain⟨gn,ge⟩:=g
 simp only at h1 h2
 have r1:=Qkg gn.length (by omega)
 have r2:=Qkg ge.length (by omega)
 simp only[gD]
 simp(disch:=omega)only[go_sem]
 refine QQ r1 ?_
 simp(disch:=omega)only[go_sem]
 refine QQ r2 ?_
 simp(disch:=omega)only[go_sem]
 simp [idM,mA]
theorem QdM(a b:G)(m:Mo):FC Tryz.prog 82 [gD a,gD b,mD m] (.int .i64 (Yc a b m)) []:=by
 refine fo [[],[(6,none,[],true),(8,none,[],true),(9,none,[],true),(12,none,[6,8,9],false)],[]] ?_
 conv in fnC ..=>reduce
 have rva:=JH a
 have rvb:=JH b
 have sva:=@XZ a
 have svb:=@XZ b
 have hvm:Yc a b m=if QZ a≠0 then QZ a else if QZ b≠0 then QZ b else if m.n.length≠a.n.length∨m.e.length≠a.e.length then 20
  else if YL b.n m.n a.n≠0 then YL b.n m.n a.n else Y8 b.e m.n m.e a.e:=rfl
 rw[hvm]
 generalize QZ a=va at*
 generalize QZ b=vb at*
 clear hvm
 obtain⟨an,ae⟩:=a
 obtain⟨bn,be⟩:=b
 obtain⟨mn,me⟩:=m
 simp only[gD] at rva rvb
 simp only at sva svb
 simp(disch:=omega)only[go_sem,gD,mD]
 refine QQ rva ?_
 simp(disch:=omega)only[go_sem]
 refine XY (fun c1=>?_) (fun c1=>?_)
 ·simp(disch:=omega)only[go_sem]
 ·subst c1
  obtain⟨a1,a2,_,a4⟩:=sva rfl
  simp(disch:=omega)only[go_sem]
  refine QQ rvb ?_
  simp(disch:=omega)only[go_sem]
  refine XY (fun c2=>?_) (fun c2=>?_)
  ·simp(disch:=omega)only[go_sem]
   simp [c2]
  ·subst c2
   obtain⟨b1,b2,_,b4⟩:=svb rfl
   simp(disch:=omega)only[go_sem]
   refine XY (fun c3=>?_) (fun c3=>?_)
   ·simp(disch:=omega)only[go_sem,c3]
    rw[if_neg (by simp),if_neg (by simp)]
   ·simp(disch:=omega)only[go_sem,c3]
    refine XY (fun c4=>?_) (fun c4=>?_)
    ·simp(disch:=omega)only[go_sem,c3,c4]
     rw[if_neg (by simp),if_neg (by simp)]
    ·have d3:mn.length=an.length:=by omega
     have d4:me.length=ae.length:=by omega
     rw[if_neg (by simp),if_neg (by simp),if_neg (by first|omega|(simp only;omega))]
     clear c3 c4
     try simp(disch:=omega)only[go_sem,d3,d4]
     refine Xj (fun i:Nat=>⟨[(3,.pt 0 0),(4,.pt 1 0),(5,.pt 2 0),(42,.lst 1 (QR mn)),(43,.int .i64 an.length),(44,.int .i64 i)],
      [(0,.box [.lst 1 (QR an),.lst 3 (eds ae)]),(1,.box [.lst 1 (QR bn),.lst 3 (eds be)]),(2,.box [.lst 1 (QR mn),.lst 1 (QR me)])],3⟩)
      (fun i=>i≤mn.length∧YL bn mn an=YL bn (mn.drop i) (an.drop i)) (fun i=>mn.length-i) 0 ?_ ?_ ?_
     ·simp(disch:=omega)only[go_sem,d3]
      rfl
     ·simp
     ·rintro i ⟨hi,hn⟩
      simp(disch:=omega)only[go_sem]
      refine QT (fun c5=>?_) (fun c5=>?_)
      ·have hs:=Qjp (bn:=bn) (ms:=mn) (aSq:=an) (i:=i) (by omega) (by omega)
       simp(disch:=omega)only[go_sem]
       refine QT (fun c6=>?_) (fun c6=>?_)
       ·simp(disch:=omega)only[go_sem,c6]
        rw[if_neg (show ¬(0≤gt mn i∧gt mn i<bn.length) by omega)] at hs
        rw[hn,hs]
        try simp
       ·simp(disch:=omega)only[go_sem,c6]
        refine QT (fun c7=>?_) (fun c7=>?_)
        ·simp(disch:=omega)only[go_sem]
         rw[if_neg (show ¬(0≤gt mn i∧gt mn i<bn.length) by omega)] at hs
         rw[hn,hs]
         try simp
        ·rw[if_pos (show (0≤gt mn i∧gt mn i<bn.length) by omega)] at hs
         simp(disch:=omega)only[go_sem]
         refine XY (fun c8=>?_) (fun c8=>?_)
         ·rw[if_neg c8] at hs
          simp(disch:=omega)only[go_sem]
          rw[hn,hs]
          try simp
         ·rw[if_pos c8] at hs
          simp(disch:=omega)only[go_sem]
          exact⟨i+1,by simp,⟨by omega,by rw[hn,hs]⟩,by omega⟩
      ·rw[Qjr (by omega)] at hn
       simp(disch:=omega)only[go_sem]
       refine Xj (fun i:Nat=>⟨[(3,.pt 0 0),(4,.pt 1 0),(5,.pt 2 0),(71,.lst 1 (QR me)),(72,.int .i64 ae.length),(73,.int .i64 i)],
        [(0,.box [.lst 1 (QR an),.lst 3 (eds ae)]),(1,.box [.lst 1 (QR bn),.lst 3 (eds be)]),(2,.box [.lst 1 (QR mn),.lst 1 (QR me)])],3⟩)
        (fun i=>i≤me.length∧Y8 be mn me ae=Y8 be mn (me.drop i) (ae.drop i)) (fun i=>me.length-i) 0 ?_ ?_ ?_
       ·simp(disch:=omega)only[go_sem,d4]
        rfl
       ·simp
       ·rintro i ⟨hi,he⟩
        simp(disch:=omega)only[go_sem]
        refine QT (fun c5=>?_) (fun c5=>?_)
        ·have hs:=Qjq (be:=be) (mn:=mn) (ms:=me) (aSq:=ae) (i:=i) (by omega) (by omega)
         have hae:=Qbt (a4 _ (gt_mem (l:=ae) (j:=i) (by omega) (by omega)))
         simp(disch:=omega)only[go_sem]
         refine QT (fun c6=>?_) (fun c6=>?_)
         ·simp(disch:=omega)only[go_sem,c6]
          rw[if_neg (show ¬(0≤gt me i∧gt me i<be.length) by omega)] at hs
          rw[hn,he,hs]
          simp
         ·simp(disch:=omega)only[go_sem,c6]
          refine QT (fun c7=>?_) (fun c7=>?_)
          ·simp(disch:=omega)only[go_sem]
           rw[if_neg (show ¬(0≤gt me i∧gt me i<be.length) by omega)] at hs
           rw[hn,he,hs]
           simp
          ·rw[if_pos (show (0≤gt me i∧gt me i<be.length) by omega)] at hs
           simp(disch:=omega)only[go_sem]
           refine XY (fun c8=>?_) (fun c8=>?_)
           ·rw[if_neg c8] at hs
            simp(disch:=omega)only[go_sem]
            rw[hn,he,hs]
            simp
           ·rw[if_pos c8] at hs
            simp(disch:=omega)only[go_sem]
            refine XY (fun c9=>?_) (fun c9=>?_)
            ·rw[if_neg (fun h=>c9 h.1)] at hs
             simp(disch:=omega)only[go_sem,c9]
             rw[hn,he,hs]
             simp
            ·simp(disch:=omega)only[go_sem,c9]
             refine XY (fun d1=>?_) (fun d1=>?_)
             ·rw[if_neg (fun h=>d1 h.2)] at hs
              simp(disch:=omega)only[go_sem]
              rw[hn,he,hs]
              simp
             ·rw[if_pos ⟨c9,d1⟩] at hs
              simp(disch:=omega)only[go_sem]
              exact⟨i+1,by simp,⟨by omega,by rw[he,hs]⟩,by omega⟩
        ·rw[Qjs (by omega)] at he
         simp(disch:=omega)only[go_sem]
         rw[hn,he]
         simp
theorem Qkh(l:List Int)(n:Int)(hl:l.length≤QS)(h0:0≤n)(h1:n≤1000000):FC Tryz.prog 259 [.lst 1 (QR l),.int .i64 n] (.int .i64 (XN n none l)) []:=by
 refine fo [] ?_
 conv in fnC ..=>reduce
 unfold QS at hl
 simp(disch:=omega)only[go_sem]
 refine Xj (fun i:Nat=>⟨[(0,.lst 1 (QR l)),(1,.int .i64 n),(7,.lst 1 (QR l)),(8,.int .i64 l.length),(9,.int .i64 i)],[],0⟩) (fun i=>i≤l.length∧XN n none l=XN n (JB l i) (l.drop i)) (fun i=>l.length-i) 0 ?_ ?_ ?_
 ·simp(disch:=omega)only[go_sem]
  rfl
 ·simp [JB]
 ·intro i hi
  simp(disch:=omega)only[go_sem]
  refine QT (fun a=>?_) (fun a=>?_)
  ·have hs:=Qjj n l i (by omega)
   simp(disch:=omega)only[go_sem]
   refine QT (fun b=>?_) (fun b=>?_)
   ·simp(disch:=omega)only[go_sem,b]
    rw[hi.2,hs,if_neg (by omega)]
   ·simp(disch:=omega)only[go_sem,b]
    refine QT (fun b2=>?_) (fun b2=>?_)
    ·simp(disch:=omega)only[go_sem]
     rw[hi.2,hs,if_neg (by omega)]
    ·rw[if_pos (by omega)] at hs
     simp(disch:=omega)only[go_sem]
     refine QT (fun c=>?_) (fun c=>?_)
     ·simp(disch:=omega)only[go_sem,c]
      refine QT (fun d=>?_) (fun d=>?_)
      ·simp(disch:=omega)only[go_sem]
       rw[hi.2,hs,if_pos ⟨by omega,d⟩]
      ·simp(disch:=omega)only[go_sem]
       exact⟨i+1,by simp,⟨by omega,by rw[hi.2,hs,if_neg (fun e=>d e.2)]⟩,by omega⟩
     ·simp(disch:=omega)only[go_sem,c]
      exact⟨i+1,by simp,⟨by omega,by rw[hi.2,hs,if_neg (fun e=>by omega)]⟩,by omega⟩
  ·simp(disch:=omega)only[go_sem]
   rw[hi.2,QD (by omega)]
   rfl
theorem Qsu(x:Int):FC Tryz.prog 337 [.int .i64 x] (.bool false) []:=by
 refine fo [] ?_
 conv in fnC ..=>reduce
 simp(disch:=omega)only[go_sem]
 try simp
theorem Qsv(x y:Int):FC Tryz.prog 261 [.int .i64 x,.int .i64 y] (.bool (decide (x<y))) []:=by
 refine fo [] ?_
 conv in fnC ..=>reduce
 simp(disch:=omega)only[go_sem]
 refine QQ (Qsu x) ?_
 simp(disch:=omega)only[go_sem]
theorem Qsw(x:Int):FC Tryz.prog 262 [.int .i64 x] (.bool false) []:=by
 refine fo [] ?_
 conv in fnC ..=>reduce
 simp(disch:=omega)only[go_sem]
 try simp
theorem Qge(l:List Int)(x:Int)(hp:l.Pairwise (·<·))(hl:l.length≤1000000):FC Tryz.prog 178 [.lst 1 (QR l),.int .i64 x] (.tup [.int .i64 (Xq l x),.bool (decide (x∈l))]) []:=by
 refine fo [] ?_
 conv in fnC ..=>reduce
 simp(disch:=omega)only[go_sem]
 refine Xj (fun s:Nat×Nat=>⟨[(0,.lst 1 (QR l)),(1,.int .i64 x),(6,.int .i64 l.length),(7,.int .i64 s.1),(8,.int .i64 s.2)],[],0⟩) (fun s=>(s.1≤s.2∧s.2≤l.length)∧(∀k:Nat,k<s.1→gt l k<x)∧∀k:Nat,s.2≤k→k<l.length→x≤gt l k) (fun s=>s.2-s.1) (0,l.length) ?_ ?_ ?_
 ·simp(disch:=omega)only[go_sem]
  rfl
 ·exact⟨by simp,fun k hk=>by simp only at hk;omega,fun k h1 h2=>by simp only at h1;omega⟩
 ·rintro⟨i,j⟩ ⟨⟨i1,i2⟩,i3,i4⟩
  simp only at i1 i2 i3 i4
  by_cases c:i<j
  ·have g1:decide ((i:Int)<j)=true:=Qe (by omega)
   have hh:((i:Int)+j).fdiv (2 ^ min (1:Int).toNat 64)=(((i+j)/2:Nat):Int):=by
    rw[Int.fdiv_eq_ediv_of_nonneg _ (by decide)]
    simp
   have w1:IntKind.u64.wrap ((i:Int)+j)=(i:Int)+j:=by
    unfold IntKind.wrap
    simp [IntKind.bits,IntKind.signed]
    omega
   have r:=Qsv (gt l (((i+j)/2:Nat):Int)) x
   have z1:¬((1:Int)<0):=by omega
   have lt:(i+j)/2<j:=by omega
   have le:i≤(i+j)/2:=by omega
   rw[show (1:Int).toNat=1 from rfl] at hh
   generalize (i+j)/2=h at*
   by_cases d:gt l h<x
   ·rw[Qe d] at r
    simp(disch:=omega)only[go_sem,g1,w1,z1,hh]
    refine QQ r ?_
    simp(disch:=omega)only[go_sem]
    refine⟨(h+1,j),by simp,⟨⟨by simp only;omega,i2⟩,fun k hk=>?_,i4⟩,by simp only;omega⟩
    simp only at hk
    by_cases e:k=h
    ·subst e;exact d
    ·have:=QaM hp (i:=k) (j:=h) (by omega) (by omega)
     omega
   ·rw[Qf d] at r
    simp(disch:=omega)only[go_sem,g1,w1,z1,hh]
    refine QQ r ?_
    simp(disch:=omega)only[go_sem]
    refine⟨(i,h),by simp,⟨⟨by simp only;omega,by simp only;omega⟩,i3,fun k h1 h2=>?_⟩,by simp only;omega⟩
    simp only at h1
    by_cases e:k=h
    ·subst e;omega
    ·have:=QaM hp (i:=h) (j:=k) (by omega) (by omega)
     omega
  ·have g1:decide ((i:Int)<j)=false:=Qf (by omega)
   obtain rfl:i=j:=by omega
   obtain⟨e1,e2⟩:=QjU hp i2 i3 i4
   rw[e1]
   by_cases c2:i<l.length
   ·have g2:decide ((i:Int)<l.length)=true:=Qe (by omega)
    by_cases c3:gt l i=x
    ·have g3:decide (gt l i=x)=true:=Qe c3
     have hx:x∈l:=e2.2 ⟨c2,c3⟩
     rw[Qe hx]
     simp(disch:=omega)only[go_sem,g1,g2,g3]
    ·have g3:decide (gt l i=x)=false:=Qf c3
     have hx:¬x∈l:=fun h=>c3 (e2.1 h).2
     rw[Qf hx]
     simp(disch:=omega)only[go_sem,g1,g2,g3]
     refine QQ (Qsw _) ?_
     simp(disch:=omega)only[go_sem]
   ·have g2:decide ((i:Int)<l.length)=false:=Qf (by omega)
    have hx:¬x∈l:=fun h=>c2 (e2.1 h).1
    rw[Qf hx]
    simp(disch:=omega)only[go_sem,g1,g2]
theorem Qsx(l:List Int)(x:Int)(hp:l.Pairwise (·<·))(hl:l.length≤1000000):FC Tryz.prog 260 [.lst 1 (QR l),.int .i64 x] (.bool (decide (x∈l))) []:=by
 refine fo [] ?_
 conv in fnC ..=>reduce
 have r:=Qge l x hp hl
 simp(disch:=omega)only[go_sem]
 refine QQ r ?_
 simp(disch:=omega)only[go_sem]
theorem Qsy(g:G)(p:Mo)(hv:QZ g=0)(h1:p.n.length≤QS)(h2:p.e.length≤QS):FC Tryz.prog 177 [gD g,mD p] (.int .i64 (Jo g p)) []:=by
 refine fo [[]] ?_
 conv in fnC ..=>reduce
 have vs:=XZ hv
 have r1:=Qkh p.n g.n.length h1 (by omega) (by omega)
 have r2:=Qkh p.e g.e.length h2 (by omega) (by omega)
 have hR:Jo g p=if XN g.n.length none p.n≠0 then XN g.n.length none p.n else if XN g.e.length none p.e≠0 then XN g.e.length none p.e else if ZD g p=true then 14 else 0:=rfl
 rw[hR]
 by_cases c1:XN g.n.length none p.n=0
 case neg=>
  rw[if_pos c1]
  generalize XN g.n.length none p.n=v at*
  simp only[gD,mD] at*
  simp(disch:=omega)only[go_sem]
  refine QQ r1 ?_
  simp(disch:=omega)only[go_sem,c1]
 rw[if_neg (by simp [c1])]
 by_cases c2:XN g.e.length none p.e=0
 case neg=>
  rw[if_pos c2]
  rw[c1] at r1
  generalize XN g.e.length none p.e=v at*
  simp only[gD,mD] at*
  simp(disch:=omega)only[go_sem]
  refine QQ r1 ?_
  simp(disch:=omega)only[go_sem]
  refine QQ r2 ?_
  simp(disch:=omega)only[go_sem,c2]
 rw[if_neg (by simp [c2])]
 have a1:=ascG_iff.1 c1
 have a2:=ascG_iff.1 c2
 have q1:=Z5 a1
 have q2:=Z5 a2
 rw[c1] at r1
 rw[c2] at r2
 have hD:ZD g p=p.e.any fun x=>!(decide ((gt g.e x).f∈p.n)&&decide ((gt g.e x).o∈p.n)):=rfl
 have hx:=fun x=>Qsx p.n x a1.p (by omega)
 clear hR c1 c2
 obtain⟨gn,ge⟩:=g
 obtain⟨pn,pe⟩:=p
 simp only[gD,mD] at*
 simp(disch:=omega)only[go_sem]
 refine QQ r1 ?_
 simp(disch:=omega)only[go_sem]
 refine QQ r2 ?_
 simp(disch:=omega)only[go_sem]
 refine Xj (fun i:Nat=>⟨[(2,.pt 0 0),(3,.pt 1 0),(28,.lst 1 (QR pe)),(29,.int .i64 pe.length),(30,.int .i64 i)],[(0,.box [.lst 1 (QR gn),.lst 3 (eds ge)]),(1,.box [.lst 1 (QR pn),.lst 1 (QR pe)])],2⟩) (fun i=>i≤pe.length∧∀k:Nat,k<i→(gt ge (gt pe k)).f∈pn∧(gt ge (gt pe k)).o∈pn) (fun i=>pe.length-i) 0 ?_ ?_ ?_
 ·simp(disch:=omega)only[go_sem]
  rfl
 ·exact⟨by omega,fun k hk=>by omega⟩
 ·rintro i ⟨hi,hk⟩
  by_cases c:i<pe.length
  ·have g1:decide ((i:Int)<pe.length)=true:=Qe (by omega)
   have hb:=a2.b _ (gt_mem (l:=pe) (j:=i) (by omega) (by omega))
   have x1:=hx (gt ge (gt pe i)).f
   have x2:=hx (gt ge (gt pe i)).o
   by_cases d1:(gt ge (gt pe i)).f∈pn
   ·rw[Qe d1] at x1
    by_cases d2:(gt ge (gt pe i)).o∈pn
    ·rw[Qe d2] at x2
     simp(disch:=omega)only[go_sem,g1]
     refine QQ x1 ?_
     simp(disch:=omega)only[go_sem]
     refine QQ x2 ?_
     simp(disch:=omega)only[go_sem]
     refine⟨i+1,by simp,⟨by omega,fun k h=>?_⟩,by omega⟩
     by_cases e:k=i
     ·subst e;exact⟨d1,d2⟩
     ·exact hk k (by omega)
    ·rw[Qf d2] at x2
     have hdt:ZD ⟨gn,ge⟩ ⟨pn,pe⟩=true:=by
      rw[hD,List.any_eq_true]
      exact⟨_,gt_mem (l:=pe) (j:=i) (by omega) (by omega),by simp [d2]⟩
     rw[hdt]
     simp(disch:=omega)only[go_sem,g1]
     refine QQ x1 ?_
     simp(disch:=omega)only[go_sem]
     refine QQ x2 ?_
     simp(disch:=omega)only[go_sem]
     try rfl
   ·rw[Qf d1] at x1
    have hdt:ZD ⟨gn,ge⟩ ⟨pn,pe⟩=true:=by
     rw[hD,List.any_eq_true]
     exact⟨_,gt_mem (l:=pe) (j:=i) (by omega) (by omega),by simp [d1]⟩
    rw[hdt]
    simp(disch:=omega)only[go_sem,g1]
    refine QQ x1 ?_
    simp(disch:=omega)only[go_sem]
    try rfl
  ·have g1:decide ((i:Int)<pe.length)=false:=Qf (by omega)
   obtain rfl:i=pe.length:=by omega
   have hdt:ZD ⟨gn,ge⟩ ⟨pn,pe⟩=false:=by
    rw[hD,List.any_eq_false]
    intro x hx
    obtain⟨k,k1,k2⟩:=Xk hx
    have:=hk k k1
    rw[k2] at this
    simp [this]
   rw[hdt]
   simp(disch:=omega)only[go_sem,g1]
   try rfl
theorem Qki(g:G)(p:Mo)(h1:p.n.length≤QS)(h2:p.e.length≤QS):FC Tryz.prog 88 [gD g,mD p] (.int .i64 (Yz g p)) []:=by
 refine fo [] ?_
 conv in fnC ..=>reduce
 have r1:=JH g
 have hR:Yz g p=if QZ g≠0 then QZ g else Jo g p:=rfl
 rw[hR]
 by_cases c:QZ g=0
 ·have r2:=Qsy g p c h1 h2
  rw[if_neg (by simp [c])]
  rw[c] at r1
  generalize Jo g p=v at*
  simp only[gD,mD] at*
  simp(disch:=omega)only[go_sem]
  refine QQ r1 ?_
  simp(disch:=omega)only[go_sem]
  refine QQ r2 ?_
  simp(disch:=omega)only[go_sem]
 ·rw[if_pos c]
  generalize QZ g=v at*
  simp only[gD,mD] at*
  simp(disch:=omega)only[go_sem]
  refine QQ r1 ?_
  simp(disch:=omega)only[go_sem,c]
theorem Qsz(g:G)(p:Mo)(h1:p.sm):FC Tryz.prog 89 [gD g,mD p] (.tup [gA (exR g p).1,mA (exR g p).2.1,.int .i64 (exR g p).2.2]) []:=by
 refine fo [[(1,none,[],true),(7,none,[1],false)],[(0,none,[],true),(3,none,[0],true),(5,(some 16),[3],false),(6,none,[0],false)]] ?_
 conv in fnC ..=>reduce
 have r1:=Qki g p h1.1 h1.2
 have hR:exR g p=if Yz g p≠0 then (g0,m0,Yz g p) else (ptG g p,p,0):=rfl
 have h0:Yz g p=0→PK g p:=fun h=>validP_ok.1 h
 generalize Yz g p=v at*
 rw[hR]
 clear hR
 obtain⟨gn,ge⟩:=g
 obtain⟨pn,pe⟩:=p
 simp only[gD,mD] at*
 simp(disch:=omega)only[go_sem]
 refine QQ r1 ?_
 simp(disch:=omega)only[go_sem]
 refine XY (fun c=>?_) (fun c=>?_)
 ·simp(disch:=omega)only[go_sem]
  simp [c,mA,gA,m0,g0,QR,eds]
 have hk:=h0 c
 have hl:=hk.len
 have hs:=XZ hk.v
 rw[if_neg (by simp [c])]
 clear h0 r1
 simp only[ptG,gA,mA] at*
 have rb:=fun x=>Qge pn x hk.n.p (by omega)
 simp(disch:=omega)only[go_sem]
 refine Xj (fun i:Nat=>⟨[(2,.pt 0 0),(3,.pt 1 0),(4,.pt 4 0),(5,.pt 7 0),(8,.pt 10 0),(23,.lst 1 (QR pn)),(24,.int .i64 pn.length),(25,.int .i64 i)],
  [(0,.box [.lst 1 (QR gn),.lst 3 (eds ge)]),(1,.box [.lst 1 (QR pn),.lst 1 (QR pe)]),(2,.arr 1 []),(3,.arr 3 []),(4,.box [.sl 2 0 0,.sl 3 0 0]),(5,.arr 1 []),(6,.arr 1 []),(7,.box [.sl 5 0 0,.sl 6 0 0]),
   (8,.arr 1 (QR (thr (pn.take i) gn))),(9,.arr 3 []),(10,.box [.sl 8 0 i,.sl 9 0 0])],11⟩) (fun i=>i≤pn.length) (fun i=>pn.length-i) 0 ?_ ?_ ?_
 ·simp(disch:=omega)only[go_sem]
  rfl
 ·simp
 ·intro i hi
  have tl:(thr (pn.take i) gn).length=i:=by rw[X4,Qo];omega
  by_cases e:i<pn.length
  ·have d1:decide ((i:Int)<pn.length)=true:=Qe (by omega)
   have hb1:=hk.n.b _ (gt_mem (l:=pn) (j:=(i:Int)) (by omega) (by omega))
   simp only at hb1
   have hst:=QfO (b:=gn) e
   simp(disch:=omega)only[go_sem,d1,tl]
   exact⟨i+1,by simp [hst],by omega,by omega⟩
  ·have d1:decide ((i:Int)<pn.length)=false:=Qf (by omega)
   obtain rfl:i=pn.length:=by omega
   rw[List.take_length] at tl
   simp(disch:=omega)only[go_sem,d1,tl]
   refine Xj (fun i:Nat=>⟨[(2,.pt 0 0),(3,.pt 1 0),(4,.pt 4 0),(5,.pt 7 0),(8,.pt 10 0),(41,.lst 1 (QR pe)),(42,.int .i64 pe.length),(43,.int .i64 i)],
    [(0,.box [.lst 1 (QR gn),.lst 3 (eds ge)]),(1,.box [.lst 1 (QR pn),.lst 1 (QR pe)]),(2,.arr 1 []),(3,.arr 3 []),(4,.box [.sl 2 0 0,.sl 3 0 0]),(5,.arr 1 []),(6,.arr 1 []),(7,.box [.sl 5 0 0,.sl 6 0 0]),
     (8,.arr 1 (QR (thr pn gn))),(9,.arr 3 (eds (exL ⟨gn,ge⟩ pn (pe.take i)))),(10,.box [.sl 8 0 pn.length,.sl 9 0 i])],11⟩) (fun i=>i≤pe.length) (fun i=>pe.length-i) 0 ?_ ?_ ?_
   ·simp(disch:=omega)only[go_sem]
    rfl
   ·simp
   ·intro i hi
    have el:(exL ⟨gn,ge⟩ pn (pe.take i)).length=i:=by rw[Qak,Qo];omega
    by_cases e:i<pe.length
    ·have d1:decide ((i:Int)<pe.length)=true:=Qe (by omega)
     have hb1:=hk.e.b _ (gt_mem (l:=pe) (j:=(i:Int)) (by omega) (by omega))
     simp only at hb1
     have hst:=Qj6 (g:=⟨gn,ge⟩) (pn:=pn) e
     simp only at hst
     have rf:=rb (gt ge (gt pe i)).f
     have ro:=rb (gt ge (gt pe i)).o
     simp(disch:=omega)only[go_sem,d1,el]
     refine QQ rf ?_
     simp(disch:=omega)only[go_sem]
     refine QQ ro ?_
     simp(disch:=omega)only[go_sem,el]
     exact⟨i+1,by simp [hst],by omega,by omega⟩
    ·have d1:decide ((i:Int)<pe.length)=false:=Qf (by omega)
     obtain rfl:i=pe.length:=by omega
     rw[List.take_length] at el
     have rc1:=Z4 pn (by omega)
     have rc2:=Z4 pe (by omega)
     simp(disch:=omega)only[go_sem,d1,tl,el]
     refine QQ rc1 ?_
     simp(disch:=omega)only[go_sem]
     refine QQ rc2 ?_
     simp(disch:=omega)only[go_sem,tl,el]
     rfl
theorem QsA(m:Mo)(n:Int)(h1:m.n.length≤QS)(h2:m.e.length≤QS):FC Tryz.prog 119 [mD m,.int .i64 n] (.bool (JD m n)) []:=by
 refine fo [] ?_
 conv in fnC ..=>reduce
 obtain⟨mn,me⟩:=m
 simp only[QS] at h1 h2
 simp(disch:=omega)only[go_sem,mD,JD]
theorem QdN(m:Mo)(n:Int)(h1:m.n.length≤QS)(h2:m.e.length≤QS):FC Tryz.prog 120 [mD m,.int .i64 n] (.bool (JD m n)) []:=by
 refine fo [] ?_
 conv in fnC ..=>reduce
 obtain⟨mn,me⟩:=m
 simp only[QS] at h1 h2
 simp(disch:=omega)only[go_sem,mD,JD]
theorem Qck(a b:Mo)(h1:a.n.length≤QS)(h2:a.e.length≤QS):FC Tryz.prog 156 [mD a,mD b] (.bool (decide (a=b))) []:=by
 refine fo [] ?_
 conv in fnC ..=>reduce
 obtain⟨an,ae⟩:=a
 obtain⟨bn,be⟩:=b
 simp only at h1 h2
 simp(disch:=omega)only[go_sem,mD]
 refine QQ (ZC _ _ h1) ?_
 simp(disch:=omega)only[go_sem]
 refine QT (fun c=>?_) (fun c=>?_)
 ·subst c
  simp(disch:=omega)only[go_sem]
  refine QQ (ZC _ _ h2) ?_
  simp(disch:=omega)only[go_sem]
  simp
 ·simp(disch:=omega)only[go_sem,c]
  simp [c]
theorem Qkj(l:List Int)(n:Nat)(hl:l.length≤1000000)(hn:n≤1000000):FC Tryz.prog 213 [.lst 1 (QR l),.int .i64 n] (.arr 1 (QR (Qah l n))) []:=by
 refine fo [] ?_
 conv in fnC ..=>reduce
 have hbl:∀k,((List.range k).map fun k:Nat=>YP l k l.length).length=k:=fun k=>by simp
 have hbs:∀k,((List.range (k+1)).map fun k:Nat=>YP l k l.length)=((List.range k).map fun k:Nat=>YP l k l.length)++[YP l k l.length]:=fun k=>by simp [List.range_succ]
 have hbE:Qah l n=(List.range n).map fun k:Nat=>YP l k l.length:=rfl
 rw[hbE]
 generalize hB:(fun k:Nat=>(List.range k).map fun k:Nat=>YP l k l.length)=B
 have hB':∀k,((List.range k).map fun k:Nat=>YP l k l.length)=B k:=fun k=>by rw[←hB]
 have hB0:B 0=[]:=by rw[←hB];rfl
 rw[hB']
 simp only[hB'] at hbl hbs
 clear hB hB'
 simp(config:={maxSteps:=1000000}) (disch:=first|omega|(simp only[go_sem];omega))only[go_sem]
 refine Xj (fun k:Nat=>⟨[(0,.lst 1 (QR l)),(1,.int .i64 n),(5,.sl 0 0 k),(6,.int .i64 k)],[(0,.arr 1 (QR (B k)))],1⟩) (fun k=>k≤n) (fun k=>n-k) 0 ?_ ?_ ?_
 ·simp(config:={maxSteps:=1000000}) (disch:=first|omega|(simp only[go_sem];omega))only[go_sem,hB0,Z2]
  rfl
 ·simp
 ·intro k hk
  have e1:=hbl k
  have e2:=hbs k
  simp(config:={maxSteps:=1000000}) (disch:=first|omega|(simp only[go_sem];omega))only[go_sem]
  refine QT (fun c=>?_) (fun c=>?_)
  ·simp(config:={maxSteps:=1000000}) (disch:=first|omega|(simp only[go_sem];omega))only[go_sem,e1]
   refine Xj (fun i:Nat=>⟨[(0,.lst 1 (QR l)),(1,.int .i64 n),(5,.sl 0 0 (k+1)),(6,.int .i64 k),(7,.int .i64 i)],[(0,.arr 1 (QR (B k++[YP l k i])))],1⟩) (fun i=>i≤l.length) (fun i=>l.length-i) 0 ?_ ?_ ?_
   ·simp(config:={maxSteps:=1000000}) (disch:=first|omega|(simp only[go_sem];omega))only[go_sem,e1,YP]
    rfl
   ·simp
   ·intro i hi
    have hset:∀x y:Int,(B k++[x]).set k y=B k++[y]:=fun x y=>by rw[List.set_append_right _ _ (by omega),e1];simp
    have hla:YP l k (i+1)=if gt l i=k then (i:Int) else YP l k i:=rfl
    simp(config:={maxSteps:=1000000}) (disch:=first|omega|(simp only[go_sem];omega))only[go_sem,e1]
    refine QT (fun d=>?_) (fun d=>?_)
    ·simp(config:={maxSteps:=1000000}) (disch:=first|omega|(simp only[go_sem];omega))only[go_sem,e1]
     refine QT (fun e=>?_) (fun e=>?_)
     ·rw[if_pos e] at hla
      simp(config:={maxSteps:=1000000}) (disch:=first|omega|(simp only[go_sem];omega))only[go_sem,e1,hset]
      exact⟨i+1,by simp [hla],by omega,by omega⟩
     ·rw[if_neg e] at hla
      simp(config:={maxSteps:=1000000}) (disch:=first|omega|(simp only[go_sem];omega))only[go_sem,e1]
      exact⟨i+1,by simp [hla],by omega,by omega⟩
    ·obtain rfl:i=l.length:=by omega
     simp(config:={maxSteps:=1000000}) (disch:=first|omega|(simp only[go_sem];omega))only[go_sem,e1]
     exact⟨k+1,by simp [e2],by omega,by omega⟩
  ·obtain rfl:k=n:=by omega
   simp(config:={maxSteps:=1000000}) (disch:=first|omega|(simp only[go_sem];omega))only[go_sem,e1]
theorem Qkk(b:List Bool)(hb:b.length≤1000):FC Tryz.prog 78 [.lst 1 (bls b)] (.arr 1 (QR (Yd b))) []:=by
 refine fo [] ?_
 conv in fnC ..=>reduce
 have hM:Yd b=sel (fun k:Nat=>gt b k) b.length:=rfl
 have sl:=YM (fun k:Nat=>gt b k)
 have ss:=J9 (fun k:Nat=>gt b k)
 have s0:=Qb7 (fun k:Nat=>gt b k)
 rw[hM]
 clear hM
 generalize hS:sel (fun k:Nat=>gt b k)=S at*
 simp(disch:=omega)only[go_sem]
 refine Xj (fun i:Nat=>⟨[(0,.lst 1 (bls b)),(3,.sl 0 0 (S i).length),(4,.int .i64 i)],[(0,.arr 1 (QR (S i)))],1⟩) (fun i=>i≤b.length) (fun i=>b.length-i) 0 ?_ ?_ ?_
 ·simp(disch:=omega)only[go_sem,s0,Z2]
  rfl
 ·simp
 ·intro i hi
  have sli:=sl i
  by_cases c:i<b.length
  ·have g1:decide ((i:Int)<b.length)=true:=Qe (by omega)
   have hs:=ss i
   generalize hb':gt b i=t at*
   cases t
   ·simp(disch:=omega)only[go_sem,g1,hb']
    exact⟨i+1,by simp [hs],by omega,by omega⟩
   ·simp(disch:=omega)only[go_sem,g1,hb']
    exact⟨i+1,by simp [hs],by omega,by omega⟩
  ·have g1:decide ((i:Int)<b.length)=false:=Qf (by omega)
   obtain rfl:i=b.length:=by omega
   simp(disch:=omega)only[go_sem,g1]
set_option maxHeartbeats 1000000 in
theorem QsB(g:G)(bn be:List Bool)(hv:QZ g=0)(h1:bn.length=g.n.length)(h2:be.length=g.e.length):FC Tryz.prog 32 [gD g,.lst 1 (bls bn),.lst 1 (bls be)] (mA (Qaj g bn be)) []:=by
 refine fo [[]] ?_
 conv in fnC ..=>reduce
 have vs:=XZ hv
 have hef:∀i:Nat,i<g.e.length→(0≤(gt g.e i).f∧(gt g.e i).f<g.n.length)∧(0≤(gt g.e i).o∧(gt g.e i).o<g.n.length):=fun i hi=>(Zj hv (i:=i) (by omega)).2
 have hL:Qaj g bn be=⟨sel (fun k:Nat=>gt bn k||decide ((k:Int)∈YE g (Yd be))) bn.length,Yd be⟩:=rfl
 have r2:=Qkk be (by omega)
 have hm1:=fun z:List Bool=>Qkk z
 have ends:∀(i:Nat)(x:Int),x∈YE g ((Yd be).filter fun e=>decide (e<((i+1:Nat):Int)))↔x∈YE g ((Yd be).filter fun e=>decide (e<(i:Int)))∨(i<be.length∧gt be i=true∧((gt g.e i).f=x∨(gt g.e i).o=x)):=fun i x=>by
  rw[ends_mem,ends_mem]
  constructor
  ·rintro⟨e,he,hx⟩
   rw[List.mem_filter] at he
   obtain⟨he,hlt⟩:=he
   obtain⟨k,hk,hk2,rfl⟩:=sel_mem.1 he
   by_cases c:k=i
   ·subst c;exact .inr ⟨hk,hk2,hx⟩
   ·refine .inl ⟨k,List.mem_filter.2 ⟨he,?_⟩,hx⟩
    simp at hlt ⊢
    omega
  ·rintro (⟨e,he,hx⟩|⟨h3,h4,hx⟩)
   ·rw[List.mem_filter] at he
    refine⟨e,List.mem_filter.2 ⟨he.1,?_⟩,hx⟩
    have:=he.2
    simp at this ⊢
    omega
   ·exact⟨i,List.mem_filter.2 ⟨markL_mem.2 ⟨h3,h4⟩,by simp;omega⟩,hx⟩
 have endsZ:∀x:Int,¬x∈YE g ((Yd be).filter fun e=>decide (e<((0:Nat):Int))):=fun x h=>by
  obtain⟨e,he,_⟩:=ends_mem.1 h
  rw[List.mem_filter] at he
  obtain⟨k,_,_,rfl⟩:=sel_mem.1 he.1
  have:=he.2
  simp at this
  omega
 have endsF:(Yd be).filter (fun e=>decide (e<(be.length:Int)))=Yd be:=List.filter_eq_self.2 fun e he=>by
  obtain⟨k,hk,_,rfl⟩:=sel_mem.1 he
  simpa using hk
 rw[hL]
 clear hL
 obtain⟨gn,ge⟩:=g
 simp only[gD] at*
 simp(config:={maxSteps:=1000000}) (disch:=first|omega|(simp only[go_sem];omega))only[go_sem]
 refine Xj (fun s:Nat×List Bool=>⟨[(2,.lst 1 (bls be)),(3,.pt 0 0),(6,.pt 3 0),(7,.sl 4 0 gn.length),(8,.int .i64 s.1)],[(0,.box [.lst 1 (QR gn),.lst 3 (eds ge)]),(1,.arr 1 []),(2,.arr 1 []),(3,.box [.sl 1 0 0,.sl 2 0 0]),(4,.arr 1 (bls s.2))],5⟩)
  (fun s=>s.1≤be.length∧s.2.length=gn.length∧∀k:Nat,k<gn.length→gt s.2 k=(gt bn k||decide ((k:Int)∈YE ⟨gn,ge⟩ ((Yd be).filter fun e=>decide (e<(s.1:Int)))))) (fun s=>be.length-s.1) (0,bn) ?_ ?_ ?_
 ·simp(config:={maxSteps:=1000000}) (disch:=first|omega|(simp only[go_sem];omega))only[go_sem,h1]
  rfl
 ·exact⟨by simp,h1,fun k hk=>by rw[Qf (endsZ k)];simp⟩
 ·rintro⟨i,z⟩ ⟨i1,i2,i3⟩
  simp only at i1 i2 i3
  by_cases c:i<be.length
  ·have g1:decide ((i:Int)<be.length)=true:=Qe (by omega)
   obtain⟨⟨f1,f2⟩,o1,o2⟩:=hef i (by omega)
   generalize hb':gt be i=t at*
   cases t
   ·simp(config:={maxSteps:=1000000}) (disch:=first|omega|(simp only[go_sem];omega))only[go_sem,g1,hb']
    refine⟨(i+1,z),by simp,⟨by simp only;omega,i2,fun k hk=>?_⟩,by simp only;omega⟩
    rw[i3 k hk]
    have:=ends i k
    rw[hb'] at this
    have this':(k:Int)∈YE ⟨gn,ge⟩ ((Yd be).filter fun e=>decide (e<((i+1:Nat):Int)))↔(k:Int)∈YE ⟨gn,ge⟩ ((Yd be).filter fun e=>decide (e<(i:Int))):=by rw[this];simp
    simp only
    rw[decide_eq_decide.2 this']
   ·simp(config:={maxSteps:=1000000}) (disch:=first|omega|(simp only[go_sem];omega))only[go_sem,g1,hb',i2]
    refine⟨(i+1,(z.set (gt ge i).f.toNat true).set (gt ge i).o.toNat true),by simp,⟨by simp only;omega,by simp [i2],fun k hk=>?_⟩,by simp only;omega⟩
    have:=ends i k
    rw[hb'] at this
    have this':(k:Int)∈YE ⟨gn,ge⟩ ((Yd be).filter fun e=>decide (e<((i+1:Nat):Int)))↔(k:Int)∈YE ⟨gn,ge⟩ ((Yd be).filter fun e=>decide (e<(i:Int)))∨((gt ge i).f=(k:Int)∨(gt ge i).o=(k:Int)):=by rw[this];simp [c]
    have hdec:decide ((k:Int)∈YE ⟨gn,ge⟩ ((Yd be).filter fun e=>decide (e<((i+1:Nat):Int))))=(decide ((k:Int)∈YE ⟨gn,ge⟩ ((Yd be).filter fun e=>decide (e<(i:Int))))||(decide ((gt ge i).f=(k:Int))||decide ((gt ge i).o=(k:Int)))):=by
     rw[Bool.eq_iff_iff]
     simp only[Ql,QG]
     exact this'
    simp only
    rw[QaK (by simp;omega),QaK (by omega),i3 k hk,hdec]
    by_cases e1:(gt ge i).o.toNat=k
    ·have:(gt ge i).o=(k:Int):=by omega
     simp [e1,this,c]
    ·by_cases e2:(gt ge i).f.toNat=k
     ·have:(gt ge i).f=(k:Int):=by omega
      simp [e1,e2,this,c]
     ·have q1:¬(gt ge i).o=(k:Int):=by omega
      have q2:¬(gt ge i).f=(k:Int):=by omega
      simp [e1,e2,q1,q2]
  ·have g1:decide ((i:Int)<be.length)=false:=Qf (by omega)
   obtain rfl:i=be.length:=by omega
   rw[endsF] at i3
   have hz:Yd z=sel (fun k:Nat=>gt bn k||decide ((k:Int)∈YE ⟨gn,ge⟩ (Yd be))) bn.length:=by
    refine QaL (JI _ _) (JI _ _) fun x=>?_
    rw[QjX,sel_mem]
    constructor
    ·rintro⟨k,k1,k2,rfl⟩;exact⟨k,by omega,by rw[←i3 k (by omega)];exact k2,rfl⟩
    ·rintro⟨k,k1,k2,rfl⟩;exact⟨k,by omega,by rw[i3 k (by omega)];exact k2,rfl⟩
   have r1:=hm1 z (by omega)
   rw[hz] at r1
   generalize sel (fun k:Nat=>gt bn k||decide ((k:Int)∈YE ⟨gn,ge⟩ (Yd be))) bn.length=w1 at*
   simp(config:={maxSteps:=1000000}) (disch:=first|omega|(simp only[go_sem];omega))only[go_sem,g1,i2]
   refine QQ r1 ?_
   simp(config:={maxSteps:=1000000}) (disch:=first|omega|(simp only[go_sem];omega))only[go_sem]
   refine QQ r2 ?_
   simp(config:={maxSteps:=1000000}) (disch:=first|omega|(simp only[go_sem];omega))only[go_sem]
   try rfl
theorem QsC(g:G)(s:Int)(hv:QZ g=0):FC Tryz.prog 8 [gD g,.int .u64 s] (mA (Qcg g s)) []:=by
 refine fo [[(5,(some 16),[],false)]] ?_
 conv in fnC ..=>reduce
 have vs:=XZ hv
 have r1:=QsB g (Zx s 0 g.n.length) (Zx s g.n.length g.e.length) hv (QaN _ _ _) (QaN _ _ _)
 have hL:Qcg g s=Qaj g (Zx s 0 g.n.length) (Zx s g.n.length g.e.length):=rfl
 rw[hL]
 clear hL
 have b0:=QaN s 0 g.n.length
 have b1:=QaN s g.n.length g.e.length
 have bg0:∀k:Nat,k<g.n.length→gt (Zx s 0 g.n.length) (k:Int)=JJ s (k:Int):=fun k hk=>by rw[Qj1 hk];simp
 have bg1:∀k:Nat,k<g.e.length→gt (Zx s g.n.length g.e.length) (k:Int)=JJ s ((g.n.length:Int)+k):=fun k hk=>Qj1 hk
 generalize Zx s 0 g.n.length=x0 at*
 generalize Zx s g.n.length g.e.length=x1 at*
 have hnb:∀i:Int,0≤i→¬i.tmod 64<0:=fun i h=>by rw[Int.tmod_eq_emod_of_nonneg h];omega
 have hb:∀i:Int,decide (IntKind.u64.wrap ((BitVec.ofInt 64 (s.fdiv (2 ^ (min (i.tmod 64).toNat 64)))&&&1#64).toNat:Int)=1)=JJ s i:=fun i=>rfl
 have z0:¬((64:Int)=0):=by omega
 obtain⟨gn,ge⟩:=g
 simp only[gD] at*
 simp(disch:=omega)only[go_sem]
 refine Xj (fun t:Nat×List Bool=>⟨[(1,.int .u64 s),(2,.pt 0 0),(4,.pt 3 0),(5,.sl 4 0 gn.length),(6,.sl 5 0 ge.length),(7,.int .i64 t.1)],
  [(0,.box [.lst 1 (QR gn),.lst 3 (eds ge)]),(1,.arr 1 []),(2,.arr 1 []),(3,.box [.sl 1 0 0,.sl 2 0 0]),(4,.arr 1 (bls t.2)),(5,.arr 1 (bls (List.replicate ge.length false)))],6⟩)
  (fun t=>t.1≤gn.length∧t.2.length=gn.length∧∀k:Nat,k<t.1→gt t.2 k=JJ s k) (fun t=>gn.length-t.1) (0,List.replicate gn.length false) ?_ ?_ ?_
 ·simp(disch:=omega)only[go_sem]
  rfl
 ·exact⟨by simp,by simp,fun k hk=>by simp at hk⟩
 ·rintro⟨i,z⟩ ⟨i1,i2,i3⟩
  simp only at i1 i2 i3
  by_cases c:i<gn.length
  ·have g1:decide ((i:Int)<gn.length)=true:=Qe (by omega)
   have hi:=hnb i (by omega)
   have hbi:=hb i
   simp(disch:=omega)only[go_sem,g1,z0,hi,hbi,i2]
   refine⟨(i+1,z.set i (JJ s i)),by simp;rfl,⟨by simp only;omega,by simp [i2],fun k hk=>?_⟩,by simp only;omega⟩
   simp only at hk
   simp only
   rw[QaK (by omega)]
   by_cases e:i=k
   ·subst e;simp
   ·rw[if_neg e];exact i3 k (by omega)
  ·have g1:decide ((i:Int)<gn.length)=false:=Qf (by omega)
   obtain rfl:i=gn.length:=by omega
   have hz:z=x0:=Qaa (by omega) fun k hk=>by rw[i3 k (by omega),bg0 k (by omega)]
   subst hz
   clear i3
   simp(disch:=omega)only[go_sem,g1,i2]
   refine Xj (fun t:Nat×List Bool=>⟨[(1,.int .u64 s),(2,.pt 0 0),(4,.pt 3 0),(5,.sl 4 0 gn.length),(6,.sl 5 0 ge.length),(8,.int .i64 t.1)],
    [(0,.box [.lst 1 (QR gn),.lst 3 (eds ge)]),(1,.arr 1 []),(2,.arr 1 []),(3,.box [.sl 1 0 0,.sl 2 0 0]),(4,.arr 1 (bls z)),(5,.arr 1 (bls t.2))],6⟩)
    (fun t=>t.1≤ge.length∧t.2.length=ge.length∧∀k:Nat,k<t.1→gt t.2 k=JJ s ((gn.length:Int)+k)) (fun t=>ge.length-t.1) (0,List.replicate ge.length false) ?_ ?_ ?_
   ·simp(disch:=omega)only[go_sem]
    rfl
   ·exact⟨by simp,by simp,fun k hk=>by simp at hk⟩
   ·rintro⟨i,y⟩ ⟨j1,j2,j3⟩
    simp only at j1 j2 j3
    by_cases c:i<ge.length
    ·have g1:decide ((i:Int)<ge.length)=true:=Qe (by omega)
     have hi:=hnb ((gn.length:Int)+i) (by omega)
     have hbi:=hb ((gn.length:Int)+i)
     simp(disch:=omega)only[go_sem,g1,z0,hi,hbi,i2,j2]
     refine⟨(i+1,y.set i (JJ s ((gn.length:Int)+i))),by simp;rfl,⟨by simp only;omega,by simp [j2],fun k hk=>?_⟩,by simp only;omega⟩
     simp only at hk
     simp only
     rw[QaK (by omega)]
     by_cases e:i=k
     ·subst e;simp
     ·rw[if_neg e];exact j3 k (by omega)
    ·have g1:decide ((i:Int)<ge.length)=false:=Qf (by omega)
     obtain rfl:i=ge.length:=by omega
     have hz:y=x1:=Qaa (by omega) fun k hk=>by rw[j3 k (by omega),bg1 k (by omega)]
     subst hz
     clear j3
     generalize Qaj ⟨gn,ge⟩ z y=w at*
     obtain⟨wn,we⟩:=w
     simp only[mA] at*
     simp(disch:=omega)only[go_sem,g1,i2,j2]
     refine QQ r1 ?_
     simp(disch:=omega)only[go_sem]
     try rfl
def QsD:Go.Shelf.Ren:=⟨fun|189=>252|125=>335|257=>334|128=>388|129=>389|294=>380|295=>381|296=>382|297=>383|298=>384|299=>385|216=>261|300=>386|301=>387|328=>431|329=>432|330=>433|331=>434|332=>435|215=>337|343=>458|n=>n,fun|28=>32|3=>3|46=>346|0=>0|51=>389|53=>26|4=>4|183=>419|182=>418|131=>267|5=>5|9=>9|218=>452|222=>456|228=>469|229=>120|n=>n,fun|n=>n⟩
theorem Qkl:Go.Proofs.Lays.n189 Tryz.prog QsD:={
 mixed:=by kernel_rfl,
 f125:=Tryz.func335.trans (congrArg some (by kernel_rfl)),
 f128:=Tryz.func388.trans (congrArg some (by kernel_rfl)),
 f129:=Tryz.func389.trans (congrArg some (by kernel_rfl)),
 f189:=Tryz.func252.trans (congrArg some (by kernel_rfl)),
 f215:=Tryz.func337.trans (congrArg some (by kernel_rfl)),
 f216:=Tryz.func261.trans (congrArg some (by kernel_rfl)),
 f257:=Tryz.func334.trans (congrArg some (by kernel_rfl)),
 f294:=Tryz.func380.trans (congrArg some (by kernel_rfl)),
 f295:=Tryz.func381.trans (congrArg some (by kernel_rfl)),
 f296:=Tryz.func382.trans (congrArg some (by kernel_rfl)),
 f297:=Tryz.func383.trans (congrArg some (by kernel_rfl)),
 f298:=Tryz.func384.trans (congrArg some (by kernel_rfl)),
 f299:=Tryz.func385.trans (congrArg some (by kernel_rfl)),
 f300:=Tryz.func386.trans (congrArg some (by kernel_rfl)),
 f301:=Tryz.func387.trans (congrArg some (by kernel_rfl)),
 f328:=Tryz.func431.trans (congrArg some (by kernel_rfl)),
 f329:=Tryz.func432.trans (congrArg some (by kernel_rfl)),
 f330:=Tryz.func433.trans (congrArg some (by kernel_rfl)),
 f331:=Tryz.func434.trans (congrArg some (by kernel_rfl)),
 f332:=Tryz.func435.trans (congrArg some (by kernel_rfl)),
 f343:=Tryz.func458.trans (congrArg some (by kernel_rfl)),
 t0:=Tryz.underlying0,
 a0:=Tryz.isAgg0,
 z0:=Tryz.sizeOf0,
 v0:=Tryz.zeroValue0,
 t3:=Tryz.underlying3,
 a3:=Tryz.isAgg3,
 z3:=Tryz.sizeOf3,
 v3:=Tryz.zeroValue3,
 t4:=Tryz.underlying4,
 a4:=Tryz.isAgg4,
 z4:=Tryz.sizeOf4,
 v4:=Tryz.zeroValue4,
 t5:=Tryz.underlying5,
 a5:=Tryz.isAgg5,
 z5:=Tryz.sizeOf5,
 v5:=Tryz.zeroValue5,
 t9:=Tryz.underlying9,
 a9:=Tryz.isAgg9,
 z9:=Tryz.sizeOf9,
 v9:=Tryz.zeroValue9,
 t28:=Tryz.underlying32,
 a28:=Tryz.isAgg32,
 z28:=Tryz.sizeOf32,
 v28:=Tryz.zeroValue32,
 t46:=Tryz.underlying346,
 a46:=Tryz.isAgg346,
 z46:=Tryz.sizeOf346,
 v46:=Tryz.zeroValue346,
 t51:=Tryz.underlying389,
 a51:=Tryz.isAgg389,
 z51:=Tryz.sizeOf389,
 v51:=Tryz.zeroValue389,
 t53:=Tryz.underlying26,
 a53:=Tryz.isAgg26,
 z53:=Tryz.sizeOf26,
 v53:=Tryz.zeroValue26,
 t131:=Tryz.underlying267,
 a131:=Tryz.isAgg267,
 z131:=Tryz.sizeOf267,
 v131:=Tryz.zeroValue267,
 t182:=Tryz.underlying418,
 a182:=Tryz.isAgg418,
 z182:=Tryz.sizeOf418,
 v182:=Tryz.zeroValue418,
 t183:=Tryz.underlying419,
 a183:=Tryz.isAgg419,
 z183:=Tryz.sizeOf419,
 v183:=Tryz.zeroValue419,
 t218:=Tryz.underlying452,
 a218:=Tryz.isAgg452,
 z218:=Tryz.sizeOf452,
 v218:=Tryz.zeroValue452,
 t222:=Tryz.underlying456,
 a222:=Tryz.isAgg456,
 z222:=Tryz.sizeOf456,
 v222:=Tryz.zeroValue456,
 t228:=Tryz.underlying469,
 a228:=Tryz.isAgg469,
 z228:=Tryz.sizeOf469,
 v228:=Tryz.zeroValue469,
 t229:=Tryz.underlying120,
 a229:=Tryz.isAgg120,
 z229:=Tryz.sizeOf120,
 v229:=Tryz.zeroValue120}
theorem Qcl(l:List Int)(hl:l.length≤QS):FC Tryz.prog 252 [.arr 1 (QR l)] (.tup []) [(0,.arr 1 (QR (srt l)))]:=by
 have hb:(Tryz.f252.body.isSome)=true:=by kernel_rfl
 obtain⟨body,hb⟩:=Option.isSome_iff_exists.1 hb
 exact Qra (Qda Tryz.func252 (by kernel_rfl) hb) (fun blk off cap zs w h1 h2 h3=>Go.Proofs.Any.slices_Sort_int Qkl blk off cap zs w h1 h2 h3) (fun p cap w=>Go.Proofs.Any.slices_Sort_int_none Qkl p cap w) l hl
attribute [local go_sem] Oper.semAt_some
def atI(zs:List Int)(k:Nat):Int:=zs[k]?.getD 0
theorem Qkm{zs:List Int}{k:Nat}(h:k<zs.length):zs.take (k+1)=zs.take k++[atI zs k]:=by
 unfold atI;rw[List.take_add_one,Qn h];rfl
set_option maxHeartbeats 2000000 in
theorem QsE(F:Fence)(n:Nat)(h7:F.fn 424)(hro:F.round=none)(hn:1≤n)(l Bs bo n₀ b off cap:Nat)(zs:List Int)(hreach:zs.length*8≤140737488351232)(hb:b<n₀)(J Jx:List Int→World→Prop)
  (hY:∀pre x W,J pre W→pre.length<zs.length→YieldAt F (n-1) Tryz.prog l #[.int .i64 x] W fun e W'=>
   (e=.returned (.bool true)∧J (pre++[x]) W'∧Below n₀ W W')∨(e=.returned (.bool false)∧Jx (pre++[x]) W'))
  (W:World) (hBs:W.cell? ⟨Bs,bo,none⟩=some (.slice (some ⟨b,off,none⟩) zs.length cap)) (hc:∀j,j<zs.length→W.cell? ⟨b,off+j,none⟩=some (.int .i64 (atI zs j))) (h0:J [] W):
  CallsIn F n Tryz.prog 424 #[.func (.yield l) #[] #[],.pointer (some ⟨Bs,bo,none⟩)] W fun e W'=>(∃v,e=.returned v)∧
   ((∃ys,ys=zs∧J ys W')∨(∃pre,pre<+:zs∧Jx pre W')):=by
 refine callsIn_of_wp Tryz.func424 rfl h7 ?_ hro
 simp only[Tryz.ntmps424,List.size_toArray,List.length_cons,List.length_nil,Nat.reduceAdd,Nat.reduceSub,Array.replicate_succ,Array.replicate_zero,List.push_toArray,List.append_toArray,List.nil_append,List.cons_append]
 gi_wp2
 gi_loopw [7] (fun i wr=>∃k:Nat,k≤zs.length∧i=.int .i64 k∧J (zs.take k) wr∧Below n₀ W wr)
  (fun i _=>zs.length-(RowKit.intOf i).toNat)
 case atStart=>exact⟨0,Nat.zero_le _,rfl,h0,Below.refl _ _⟩
 case round=>
  obtain⟨k,hk,rfl,hJs,hnx⟩:=hrel
  have hcx:k<zs.length→wr.cell? ⟨b,off+k,none⟩=some (.int .i64 (atI zs k)):=fun h=>(hnx.cell (p:=⟨b,off+k,none⟩) hb).trans (hc k h)
  by_cases hlt:k<zs.length
  ·obtain⟨fn,tmps,assign,body,hy,hR⟩:=hY _ (atI zs k) wr hJs (by simp;omega)
   have hcx':=hcx hlt
   gi_wp2
   refine hR.mono ?_
   rintro e W3 (⟨rfl,hJ3,hk3⟩|⟨rfl,hJx3⟩)
   ·gi_wp2
    go_roundw
    case rel=>exact⟨k+1,by omega,by simp,by rw[Qkm hlt];exact hJ3,hnx.trans hk3⟩
    case measure=>simp [RowKit.intOf];omega
   ·gi_wp2
    refine bodyPost_ret (results_none rfl _ _ _) rfl ?_
    exact⟨⟨_,rfl⟩,.inr ⟨_,by rw[←Qkm hlt];exact List.take_prefix _ _,hJx3⟩⟩
  ·obtain rfl:k=zs.length:=by omega
   gi_wp2
   go_end0
   exact⟨⟨_,rfl⟩,.inl ⟨_,rfl,by rwa [List.take_length] at hJs⟩⟩
set_option maxHeartbeats 1000000 in
theorem QsF(F:Fence)(n:Nat)(h7:F.fn 424)(hro:F.round=none)(l Bs bo:Nat)(p:Option Addr)(J:List Int→World→Prop)(W:World)(hBs:W.cell? ⟨Bs,bo,none⟩=some (.slice p 0 0))(h0:J [] W):
  CallsIn F n Tryz.prog 424 #[.func (.yield l) #[] #[],.pointer (some ⟨Bs,bo,none⟩)] W fun e W'=>(∃v,e=.returned v)∧J [] W':=by
 refine callsIn_of_wp Tryz.func424 rfl h7 ?_ hro
 simp only[Tryz.ntmps424,List.size_toArray,List.length_cons,List.length_nil,Nat.reduceAdd,Nat.reduceSub,Array.replicate_succ,Array.replicate_zero,List.push_toArray,List.append_toArray,List.nil_append,List.cons_append]
 gi_wp2
 gi_loopw [7] (fun i wr=>i=.int .i64 0∧J [] wr) (fun _ _=>0)
 case atStart=>exact⟨rfl,h0⟩
 case round=>
  obtain⟨rfl,hJs⟩:=hrel
  gi_wp2
  go_end0
  exact⟨⟨_,rfl⟩,hJs⟩
def QdO(n₀:Nat)(W:World)(sv:Value)(zs:List Int):Prop:=
 ((∃p,sv=.slice p 0 0)∧zs=[])∨∃b off cap,sv=.slice (some ⟨b,off,none⟩) zs.length cap∧b<n₀∧∀j,j<zs.length→W.cell? ⟨b,off+j,none⟩=some (.int .i64 (atI zs j))
theorem QsG(F:Fence)(n:Nat)(h7:F.fn 424)(hro:F.round=none)(hn:1≤n)(Bs bo n₀:Nat)(sv:Value)(zs:List Int)(hreach:zs.length*8≤140737488351232)(w:World)(hBs:Bs<w.heap.size)(hn₀:n₀≤w.heap.size)
  (hc:w.cell? ⟨Bs,bo,none⟩=some sv) (hI:QdO n₀ w sv zs):
  SeqStopsK F n Tryz.prog 424 #[.pointer (some ⟨Bs,bo,none⟩)] (fun x:Int=>#[Value.int .i64 x]) (Below n₀) (fun ys=>ys=zs) (fun pre=>pre<+:zs) zs.length w:=fun l J Jx W hW _ _ hY h0=>by
 have hc':=(hW.cell (p:=⟨Bs,bo,none⟩) hBs).trans hc
 rcases hI with⟨⟨p,rfl⟩,rfl⟩|⟨b,off,cap,rfl,hb,hcs⟩
 ·exact (QsF F n h7 hro l Bs bo p J W hc' h0).mono fun e W' ⟨he,hj⟩=>⟨he,.inl ⟨_,rfl,hj⟩⟩
 ·exact QsE F n h7 hro hn l Bs bo n₀ b off cap zs hreach hb J Jx hY W hc' (fun j hj=>(hW.cell (p:=⟨b,off+j,none⟩) (QI hb hn₀)).trans (hcs j hj)) h0
theorem QsH:(Tryz.prog.info? 3).map (fun i=>(i.zero,i.size,i.bytes))=some (some (.int .i64 0),1,8):=by kernel_rfl
set_option maxHeartbeats 2000000 in
theorem QsI(F:Fence)(n:Nat)(h3:F.fn 452)(h5:F.fn 424)(hro:F.round=none)(hn:3≤n)(Bs bo:Nat)(sv:Value)(zs:List Int)(hlen:zs.length≤1000)(w:World)(hBs:Bs<w.heap.size)(hc:w.cell? ⟨Bs,bo,none⟩=some sv)(hI:QdO w.heap.size w sv zs):
  CallsIn F n Tryz.prog 452 #[.slice none 0 0,.func (.func 424) #[] #[.pointer (some ⟨Bs,bo,none⟩)]] w fun e W'=>∃v,e=.returned v∧W'.ownsRow w.heap.size 3 1 v zs.length (zs.map (Value.int .i64))∧Below w.heap.size w W':=by
 have h1:1≤n:=by omega
 have hlm:zs.length≤maxLen:=by simp only[maxLen];omega
 have hlb:zs.length*8≤140737488355328:=by omega
 obtain⟨i0,hi,hz0,hz1,hz2⟩:=info_parts QsH
 refine callsIn_of_wp_marks Tryz.func452 rfl h3 ?_ hro
 simp only[Tryz.ntmps452,List.size_toArray,List.length_cons,List.length_nil,Nat.reduceAdd,Nat.reduceSub,Array.replicate_succ,Array.replicate_zero,List.push_toArray,List.append_toArray,List.nil_append,List.cons_append]
 gi_wp2
 have bO:=Boxed.new w 32 (.slice none 0 0)
 have hB0:Below w.heap.size w (w.alloc (.cells #[.slice none 0 0] 32)):=(Below.refl _ w).alloc (Qg _) _
 have hI2:QdO w.heap.size (w.alloc (.cells #[.slice none 0 0] 32)) sv zs:=hI.imp id fun⟨b,off,cap,e,hb,hcs⟩=>⟨b,off,cap,e,hb,fun j hj=>(hB0.cell (p:=⟨b,off+j,none⟩) hb).trans (hcs j hj)⟩
 refine wpIn_rangeFunc_ownG hro h1 (gf:=424) (lb:=#[.pointer (some ⟨Bs,bo,none⟩)]) rfl h5 (enters_of Tryz.func424 (by kernel_rfl) rfl)
  (QsG F (n-1) h5 hro (by omega) Bs bo w.heap.size sv zs (by omega) _ (by simp;omega) (by simp) ((hB0.cell (p:=⟨Bs,bo,none⟩) hBs).trans hc) hI2) belowK_t (belowK_b (by simp)) (Below.refl _ _) (fun _=>rfl)
  (fun pre W=>(∃v,Boxed W w.heap.size 32 v∧W.ownsRow w.heap.size 3 1 v pre.length (pre.map (Value.int .i64))∧True)∧Below w.heap.size w W)
  (fun _ _ _=>False)
  (OwnFrom.and (Own.from (holdsRow_own w.heap.size w.heap.size 32 3 1 (fun pre:List Int=>pre.length) (fun pre=>pre.map (Value.int .i64)) (fun _ _=>True)) _) (ownFrom_below (Qg _) (by simp)))
  (fun _ _ _ _ _ hs _ _=>hs)
  ⟨⟨_,bO,World.ownsRow_nil _ _ _ _,trivial⟩,hB0⟩
  (fun x=>{tmps:=#[.slice none 0 0,.func (.func 424) #[] #[.pointer (some ⟨Bs,bo,none⟩)],.pointer (some ⟨w.heap.size,0,none⟩),undef,.slice none 0 0,.int .i64 x,.func (.func 424) #[] #[.pointer (some ⟨Bs,bo,none⟩)],.int .i64 x,undef,undef,undef,undef,undef],defers:=[]}) ?assign ?body ?done ?stop
 case assign=>
  intro l x W K hK
  gi_wp2
  exact hK
 case body=>
  rintro l pre x W ⟨⟨v,hv,hrow,_⟩,hB⟩ hlt
  have hc:=hv.cell
  gi_wp2_with (gi_at_builtin;refine wpListIn_append_own _ rfl _ _ 32 rfl w.heap.size 3 i0 (.int .i64 0) 1 8 Tryz.underlying32 hi hz0 hz1 hz2 rfl (by decide) _ _ _ rfl (hrow.alloc _) ⟨W.heap.size,0,none⟩ 1 1 [.int .i64 x] rfl rfl (cell_one_new _ _ _) (by simp [Value.oneCell']) (by omega) (by omega) (by have:=hB.size;simp;omega) ?_;intro v' w1 hown' hgrow _;obtain⟨g',cap',rfl⟩:=ownsRow_succ hown';obtain⟨hv1,hv2,hr2,hk2,hb2⟩:=hv.appended (by decide) hrow hB.size (Qg _) hown' hgrow;have hc1:=hv1.cell;have hf1:=hv1.frozen)
  exact⟨hk2.from _,hb2,⟨_,hv2,by simpa using hr2,trivial⟩,hB.trans hb2⟩
 case done=>
  rintro D ys W hD rfl ⟨⟨v,hv,hrow,_⟩,hB⟩ hK
  have hc:=hv.cell
  gi_wp2
  refine⟨by simp,.inl ⟨_,_,rfl,run_takeDeferred hK,?_⟩⟩
  exact⟨_,results_tmp rfl _ _ _,v,rfl,ownsRow_putObj hrow _ hK rfl,hB.trans (belowK_b (w:=w) (Qg _) W D _ _ (by simp at hD;omega) hK rfl rfl)⟩
 case stop=>
  rintro D c pre W _ _ h _
  exact h.elim
theorem QsJ(l:List Int)(hl:l.length≤1000):FC Tryz.prog 452 [.nl 0,.clo 424 [.ref [.lst 1 (QR l)]]] (.arr 1 (QR l)) []:=by
 have hb:(Tryz.f452.body.isSome)=true:=by kernel_rfl
 obtain⟨body,hb⟩:=Option.isSome_iff_exists.1 hb
 refine⟨Qda Tryz.func452 (by kernel_rfl) hb,fun w I vs os hI hnd hos hdr=>?_⟩
 simp only[DRs,DR] at hdr
 obtain⟨v,vs',o,o',rfl,rfl,⟨rfl,rfl⟩,v2,vs2,o2,o2',rfl,rfl,⟨cs,rfl,u,us,p,p',hcs,rfl,⟨rfl,Bs,bo,xs,rfl,hBs,hM,hP⟩,rfl,rfl⟩,rfl,rfl⟩:=hdr
 simp only[PC,DR] at hP
 obtain⟨sv,us',rfl,_,⟨_,hml,hsl⟩,rfl⟩:=hP
 have ecs:cs=#[.pointer (some ⟨Bs,bo,none⟩)]:=by
  rw[←Array.toList_inj];exact hcs
 subst ecs
 have hBl:=(hI Bs hBs).1
 have hc:w.cell? ⟨Bs,bo,none⟩=some sv:=by have:=hM 0 sv rfl;simpa using this
 have hIn:QdO w.heap.size w sv l:=by
  rcases hsl with⟨hp,h0⟩|⟨b,off,cap,us,rfl,_,_,hb,hm,hpe⟩
  ·exact .inl ⟨hp,by simpa [QR] using h0⟩
  ·have hus:=QfR hpe
   subst hus
   refine .inr ⟨b,off,cap,by rw[Ji],(hI b hb).1,fun j hj=>hm j _ ?_⟩
   unfold atI
   rw[List.getElem?_map,Qn hj]
   rfl
 have hx:=QsI Fence.wide 5 trivial trivial rfl (by omega) Bs bo sv l hl w hBl hc hIn
 refine ((callsIn_wide (n:=5)).1 hx).mono ?_
 rintro e w' ⟨v,rfl,hrow,hbel⟩
 have hmx:(QR l).length≤QS:=by rw[Ji];unfold QS;omega
 have hst:Stp (fun x=>x∈([]:List Nat)++([]++[]++[])) w w':=
  ⟨hbel.os,hbel.tape,hbel.output,hbel.size,fun b hb _=>hbel.block b hb,fun b cur e fr hg=>⟨cur,(hbel.block b (QB.1 hg).1).trans hg,rfl⟩⟩
 rcases hrow.2 with⟨rfl,h0⟩|⟨g,cap,cur,rfl,hge,hgb,c1,c2,c3,c4⟩
 ·have hl0:l=[]:=List.length_eq_zero_iff.1 h0
  subst hl0
  refine⟨_,[],rfl,hst,by simp,by simp,?_⟩
  simp only[List.map_nil,DRs,DR]
  exact⟨_,[],[],[],rfl,rfl,⟨by simp [QR,QS],.inl ⟨rfl,rfl,rfl⟩⟩,rfl,rfl⟩
 ·refine⟨_,[g],rfl,hst,by simp,fun b hb=>?_,?_⟩
  ·rw[Qm.1 hb]
   exact⟨.inr hge,(QB.1 hgb).1⟩
  ·simp only[List.map_nil,DRs,DR]
   refine⟨_,[],[g],[],rfl,rfl,⟨hmx,.inr ⟨g,cap,cur,3,l.map (Value.int .i64),by rw[Ji],rfl,hgb,by rw[Ji];exact c1,c2,by omega,?_,QfS _⟩⟩,rfl,rfl⟩
   refine Mem.of_cells hgb fun j u hj=>?_
   rw[←c4] at hj
   rw[Nat.zero_add]
   rw[List.getElem?_take] at hj
   split at hj
   ·simpa using hj
   ·cases hj
theorem Qgf(l:List Int)(hl:l.length≤QS):FC Tryz.prog 253 [.arr 1 (QR l)] (.arr 1 (QR (cpt l))) []:=by
 refine fo [[],[]] ?_
 conv in fnC ..=>reduce
 unfold QS at hl
 simp(disch:=omega)only[go_sem]
 refine QT (fun c=>?_) (fun c=>?_)
 ·have:cpt l=l:=by
   match l,c with
   |[],_=>rfl
   |[x],_=>simp [cpt,kp,kept,List.range_succ,gt]
   |x::y::l,c=>simp at c;omega
  simp(disch:=omega)only[go_sem]
  rw[this]
 ·simp(disch:=omega)only[go_sem]
  refine Xj (fun k:Nat=>⟨[(0,.sl 0 0 l.length),(3,.int .i64 k)],[(0,.arr 1 (QR l))],1⟩) (fun k=>1≤k∧k≤l.length∧kp l k=l.take k) (fun k=>l.length-k) 1 ?_ ?_ ?_
  ·simp(disch:=omega)only[go_sem]
   rfl
  ·refine⟨by omega,by omega,?_⟩
   rw[Qbv,if_pos (by simp [kept]),Xm (by omega)]
   rfl
  ·rintro k ⟨h1,h2,h3⟩
   have hs:=Qbv l k
   simp(disch:=omega)only[go_sem]
   refine QT (fun d=>?_) (fun d=>?_)
   ·simp(disch:=omega)only[go_sem]
    refine QT (fun e=>?_) (fun e=>?_)
    ·rw[if_neg (by simp [kept,e];omega)] at hs
     simp(disch:=omega)only[go_sem]
     refine Xj (fun s:Nat×Nat×List Int=>⟨[(0,.sl 0 0 l.length),(3,.int .i64 s.2.1),(4,.sl 0 k (l.length-k)),(5,.int .i64 s.1)],[(0,.arr 1 (QR s.2.2))],1⟩)
      (fun s=>1≤s.1∧k+s.1≤l.length∧s.2.1+1≤k+s.1∧s.2.2.length=l.length∧s.2.2.take s.2.1=kp l (k+s.1)∧s.2.2.drop (k+s.1-1)=l.drop (k+s.1-1)) (fun s=>l.length-s.1) (1,k,l) ?_ ?_ ?_
     ·simp(disch:=omega)only[go_sem]
      rfl
     ·exact⟨by simp,by simp only;omega,by simp,rfl,by simp only;rw[hs,h3],rfl⟩
     ·rintro⟨j,i,xs⟩ ⟨g1,g2,g3,g4,g5,g6⟩
      simp only at g1 g2 g3 g4 g5 g6
      have hs2:=Qbv l (k+j)
      have gat:∀m:Nat,k+j-1≤m→m<l.length→gt xs m=gt l m:=fun m hm1 hm2=>by
       have:=congrArg (fun l:List Int=>l[m-(k+j-1)]?) g6
       simp only[List.getElem?_drop] at this
       rw[show k+j-1+(m-(k+j-1))=m by omega,Qn (by omega),Qn (by omega)] at this
       rw[QV (by omega),QV (by omega)]
       simpa using this
      simp(disch:=omega)only[go_sem,g4]
      refine QT (fun d=>?_) (fun d=>?_)
      ·have e1:=gat (k+j) (by omega) (by omega)
       have e2:gt xs ((k+((j:Int)-1).toNat:Nat):Int)=gt l (((k+j:Nat):Int)-1):=by
        rw[show k+((j:Int)-1).toNat=k+j-1 by omega,gat (k+j-1) (by omega) (by omega)]
        congr 1
        omega
       have hd:xs.drop (k+j)=l.drop (k+j):=by
        have:=congrArg (fun l:List Int=>l.drop 1) g6
        simp only[List.drop_drop] at this
        rw[show k+j-1+1=k+j by omega] at this
        exact this
       simp(disch:=omega)only[go_sem,g4,e1,e2]
       refine XY (fun f=>?_) (fun f=>?_)
       ·rw[if_pos (by unfold kept;rw[QG];exact .inr (Qe f))] at hs2
        simp(disch:=omega)only[go_sem,g4,e1]
        refine⟨(j+1,i+1,xs.set i (gt l ((k+j:Nat):Int))),by simp,⟨by simp only;omega,by simp only;omega,by simp only;omega,by simp [g4],?_,?_⟩,by simp only;omega⟩
        ·simp only
         rw[←QA,hs2,←g5,List.take_succ_eq_append_getElem (by simp;omega),List.take_set_of_le (Qg _)]
         simp
        ·simp only
         rw[show k+(j+1)-1=k+j by omega,List.drop_set_of_lt (by omega),hd]
       ·rw[if_neg (by unfold kept;simp only[QG,Ql,not_or,ne_eq,QJ];exact⟨by omega,f⟩)] at hs2
        simp(disch:=omega)only[go_sem,g4]
        refine⟨(j+1,i,xs),by simp,⟨by simp only;omega,by simp only;omega,by simp only;omega,g4,?_,?_⟩,by simp only;omega⟩
        ·simp only
         rw[←QA,hs2,←g5]
        ·simp only
         rw[show k+(j+1)-1=k+j by omega,hd]
      ·have hi:(xs.take i).length=i:=by simp;omega
       have hkj:k+j=l.length:=by omega
       simp(disch:=omega)only[go_sem,g4,hi,Nat.sub_zero]
       rw[g5,hkj,cpt]
    ·rw[if_pos (by simp [kept,e])] at hs
     simp(disch:=omega)only[go_sem]
     exact⟨k+1,by simp,⟨by omega,by omega,by rw[hs,h3,Xm (by omega)]⟩,by omega⟩
   ·obtain rfl:k=l.length:=by omega
    simp(disch:=omega)only[go_sem]
    rw[cpt,h3,List.take_length]
theorem Qkn(l:List Int)(hl:l.length≤1000000):FC Tryz.prog 166 [.lst 1 (QR l)] (.int .i64 (YZ l).length) []:=by
 refine fo [] ?_
 conv in fnC ..=>reduce
 have e1:=X6 l
 have e2:=QfW l
 have r1:=Z4 l (by omega)
 have r2:=Qcl l (by unfold QS;omega)
 have r3:=Qgf (srt l) (by unfold QS;omega)
 change FC Tryz.prog _ _ (.arr 1 (QR (YZ l))) _ at r3
 generalize YZ l=m at*
 generalize srt l=q at*
 simp(disch:=omega)only[go_sem]
 refine QQ r1 ?_
 simp(disch:=omega)only[go_sem]
 refine QQ r2 ?_
 simp(disch:=omega)only[go_sem,e1]
 refine QQ r3 ?_
 simp(disch:=omega)only[go_sem]
theorem Qko(a b:G)(m:Mo):FC Tryz.prog 83 [gD a,gD b,mD m] (.bool (ZA a b m)) []:=by
 refine fo [[(8,none,[],true),(10,(some 575),[8],false),(17,none,[],true),(19,(some 294911),[17],false)]] ?_
 conv in fnC ..=>reduce
 have rv:=QdM a b m
 have hl:=@Qjx a b m
 have hd:ZA a b m=(decide (Yc a b m=0)&&(Yy m.n&&Yy m.e)):=rfl
 rw[hd,←Qjz m.n,←Qjz m.e]
 generalize Yc a b m=v at*
 obtain⟨an,ae⟩:=a
 obtain⟨bn,be⟩:=b
 obtain⟨mn,me⟩:=m
 simp only[gD,mD] at rv ⊢
 simp(disch:=omega)only[go_sem]
 refine QQ rv ?_
 simp(disch:=omega)only[go_sem]
 refine QT (fun c=>?_) (fun c=>?_)
 ·subst c
  obtain⟨l1,l2,_⟩:=hl rfl
  simp only at l1 l2
  have r1:=Qkn mn (by omega)
  have r2:=Qkn me (by omega)
  have e1:=QfW mn
  have e2:=QfW me
  generalize YZ mn=pn at*
  generalize YZ me=pe at*
  simp(disch:=omega)only[go_sem]
  refine QQ r1 ?_
  simp(disch:=omega)only[go_sem]
  refine QT (fun d=>?_) (fun d=>?_)
  ·simp(disch:=omega)only[go_sem,d]
   refine QQ r2 ?_
   simp(disch:=omega)only[go_sem,d]
   try simp
  ·simp(disch:=omega)only[go_sem,d]
   try simp
 ·simp(disch:=omega)only[go_sem,c]
  try simp
theorem QsK(l:List Int):FT 373 [.lst 1 (QR l)] (.clb 424 [.box [.lst 1 (QR l)]]):=by
 refine fo [] ?_
 conv in fnC ..=>reduce
 simp(disch:=omega)only[go_sem]
theorem QsL(l:List Int)(hl:l.length≤1000):FT 423 [.clo 424 [.ref [.lst 1 (QR l)]]] (.arr 1 (QR l)):=by
 have r:=QsJ l hl
 refine fo [] ?_
 conv in fnC ..=>reduce
 simp(disch:=omega)only[go_sem]
 refine QQ r ?_
 simp(disch:=omega)only[go_sem]
theorem QsM(l:List Int)(hl:l.length≤1000):FT 372 [.clo 424 [.ref [.lst 1 (QR l)]]] (.arr 1 (QR (srt l))):=by
 have r:=QsL l hl
 have r2:=Qcl l (by unfold QS;omega)
 have hs:(srt l).length=l.length:=(ZO l).length_eq
 refine fo [] ?_
 conv in fnC ..=>reduce
 simp(disch:=omega)only[go_sem]
 refine QQ r ?_
 simp(disch:=omega)only[go_sem]
 refine QQ r2 ?_
 simp(disch:=omega)only[go_sem,hs]
theorem Qkp(l:List Int)(hl:l.length≤1000)(hn:l.Nodup):FT 318 [.lst 1 (QR l)] (.bool false):=by
 have r:=QsK l
 have r2:=QsM l hl
 have hs:(srt l).length=l.length:=(ZO l).length_eq
 have r3:=Qgf (srt l) (by unfold QS;omega)
 have hq:(cpt (srt l)).length=l.length:=imgs_inj.2 hn
 refine fo [] ?_
 conv in fnC ..=>reduce
 simp(disch:=omega)only[go_sem]
 refine QQ r ?_
 have o1:okA (D.clb 424 [.box [.lst 1 (QR l)]])=true:=rfl
 have o2:∀n,XP n (D.clb 424 [.box [.lst 1 (QR l)]])=(.clo 424 [.pt n 0],[(n,.box [.lst 1 (QR l)])],n+1):=fun n=>rfl
 simp(disch:=omega)only[go_sem,o1,o2]
 refine QQ r2 ?_
 simp(disch:=omega)only[go_sem]
 refine QQ r3 ?_
 simp(disch:=omega)only[go_sem,hq]
 rw[Qf (by omega)]
end Go.Am
