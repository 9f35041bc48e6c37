/- slices.Compact at []int; injective and surjective morphisms. -/
import Derived.Test.YtgllpjliaepbdaaGreatSpPa
namespace Go.Am
open Go
set_option linter.unusedVariables false
set_option linter.unusedSimpArgs false
def QsG:LL:=[qn 2 1]
def QsH:LL:=[qm 6 0,qz 7 6,qk .lss 8 7 2]
def QsI:LL:=[qm 9 0,qm 2 9]
def QsJ:LL:=[qi 3 1]
def QsK:LL:=[qm 10 3,qm 11 0,qz 12 11,qo .lss 13 10 12]
def QsL:LL:=[qm 16 0,qm 17 3,qd 18 1 16 17,ql 19 1 18,qm 20 0,qm 21 3,qk .sub 22 21 1,qd 23 1 20 22,ql 24 1 23,qo .eql 25 19 24]
def QsM:LL:=[qm 26 0,qm 27 3,qQp 28 (.slc 1 (.t 26) (some (.t 27)) none),qm 4 28]
def QsN:LL:=[qi 5 1]
def QsO:LL:=[qm 29 5,qm 30 4,qz 31 30,qo .lss 32 29 31]
def QsP:LL:=[qm 35 4,qm 36 5,qd 37 1 35 36,ql 38 1 37,qm 39 4,qm 40 5,qk .sub 41 40 1,qd 42 1 39 41,ql 43 1 42,qo .neq 44 38 43]
def QsQ:LL:=[qm 45 0,qm 46 3,qm 47 4,qm 48 5,qd 49 1 47 48,ql 50 1 49,qd 51 1 45 46,qs 1 51 50]
def QsR:LL:=[qm 52 3,qk .add 53 52 1,qm 3 53]
def QsS:LL:=[qm 33 5,qk .add 34 33 1,qm 5 34]
def QsT:LC:=QQ [QQ [.reg QsO [0,3,4,5,32],.cond (.t 32) .skip (.exit 2)],.block 3 (QQ [.dreg [] QsP [0,3,4,5,44],.cond (.t 44) (QQ [.reg QsQ [0,3,4,5],.reg QsR [0,3,4,5]]) .skip]),.reg QsS [0,3,4,5]]
def QsU:LL:=[qm 54 0,qm 55 3,qQp 56 (.slc 1 (.t 54) (some (.t 55)) none),qQn (.clr 1 (.t 56))]
def QsV:LL:=[qm 57 0,qm 58 3,qQp 59 (.slc 1 (.t 57) none (some (.t 58))),qm 2 59]
def QsW:LL:=[qm 14 3,qk .add 15 14 1,qm 3 15]
def QsX:LC:=QQ [QQ [.reg QsK [0,3,13],.cond (.t 13) .skip (.exit 0)],.block 1 (QQ [.dreg [] QsL [0,3,25],.cond (.t 25) (QQ [.reg QsM [0,3,4],QQ [.reg QsN [0,3,4,5],.block 2 (.loop [0,3,4,5] QsT)],.reg QsU [0,3],.reg QsV [2],.ret]) .skip]),.reg QsW [0,3]]
def QsY:LL:=[qm 60 0,qm 2 60]
def QhJ(F:Fn):LC:=QQ [.reg QsG [0],QQ [.reg QsH [0,8],.cond (.t 8) (QQ [.reg QsI [2],.ret]) .skip],QQ [.reg QsJ [0,3],.block 0 (.loop [0,3] QsX)],.reg QsY [2],.ret]
def QWc:Hints:=hn [] [(0,[0]),(1,[0,8]),(2,[2]),(3,[0,3]),(4,[0,3,13]),(5,[0,3]),(6,[0,3,25]),(7,[0,3,4]),(8,[0,3,4,5]),(9,[0,3,4,5,32]),(10,[0,3,4,5]),(11,[0,3,4,5,44]),(12,[0,3,4,5]),(13,[0,3,4,5]),(14,[0,3]),(15,[2]),(16,[2])] [(4,[0,3]),(9,[0,3,4,5])]
def QsZ:LL:=[qi 2 0]
def Qs0(F:Fn):LL:=[qm 4 0,qc 5 (F "a") [.t 4],qm 3 5]
def Qs1(F:Fn):LL:=[qm 6 3,qQp 7 (.call (F "aD") [.t 6] [.mu])]
def Qs2(F:Fn):LL:=[qm 8 3,qQp 9 (.call (F "bf") [.t 8] [.ow]),qz 10 9,qm 2 10]
def QhK(F:Fn):LC:=QQ [.reg QsZ [0],.reg (Qs0 F) [3],.reg (Qs1 F) [3],.reg (Qs2 F) [2],.ret]
def Qs3:LL:=[qB 3 0,qB 4 1,qB 5 2,qb 6 false]
def Qs4(F:Fn):LL:=[qL 7 2 3,qL 8 2 4,qL 9 2 5,qc 10 (F "e") [.t 7,.t 8,.t 9],qk .eql 11 10 0,qm 12 11,qg 12 true (qf 13 0 5),qg 12 true (ql 14 1 13),qg 12 true (qc 15 (F "az") [.t 14]),
 qg 12 true (qf 16 0 5),qg 12 true (ql 17 1 16),qg 12 true (qz 18 17),qg 12 true (qo .eql 19 15 18),qP 20 12 19,qm 21 20,qg 21 true (qf 22 1 5),qg 21 true (ql 23 1 22),
 qg 21 true (qc 24 (F "az") [.t 23]),qg 21 true (qf 25 1 5),qg 21 true (ql 26 1 25),qg 21 true (qz 27 26),qg 21 true (qo .eql 28 24 27),qP 29 21 28,qm 6 29]
def QhL(F:Fn):LC:=QQ [.reg Qs3 [3,4,5],.dreg [(8,none,[],true),(10,(some 575),[8],false),(17,none,[],true),(19,(some 294911),[17],false)] (Qs4 F) [6],.ret]
def JY(l:List Int)(i:Nat):Bool:=decide (i=0)||decide (gt l i≠gt l ((i:Int)-1))
def kp(l:List Int)(n:Nat):List Int:=((List.range n).filter (JY l)).map fun i:Nat=>gt l i
def cpt(l:List Int):List Int:=kp l l.length
def Zs(l:List Int):List Int:=cpt (srt l)
def QbI(l:List Int)(n:Nat):Bool:=(List.range n).all fun k:Nat=>decide ((k:Int)∈l)
def QdY(a b:G)(m:Mo):Bool:=decide (XE a b m=0)&&(QbI m.n b.n.length&&QbI m.e b.e.length)
attribute [go_sem] QsG QsH QsI QsJ QsK QsL QsM QsN QsO QsP QsQ QsR QsS QsU QsV QsW QsY QhJ QsZ Qs0 Qs1 Qs2 QhK Qs3 Qs4 QhL
section
variable (P:Program) (F:String→Nat)
def QhM:Prop:=∀l:List Int,l.length≤QW→FC P (F "bf") [.arr 1 (QR l)] (.arr 1 (QR (cpt l))) []
def QhN:Prop:=∀l:List Int,l.length≤1000000→FC P (F "az") [.lst 1 (QR l)] (.int .i64 (Zs l).length) []
def QcA:Prop:=∀(a b:G)(m:Mo),FC P (F "W") [gD a,gD b,mD m] (.bool (Zr a b m)) []
end
section
variable {P:Program} {F:String→Nat} {α:Type}
theorem QbJ(l:List Int)(n:Nat):kp l (n+1)=if JY l n=true then kp l n++[gt l n] else kp l n:=by
 simp only[kp,List.range_succ,List.filter_append,List.filter_cons,List.filter_nil,List.map_append]
 split<;>simp
theorem QWd(l:List Int)(n:Nat):(kp l n).length≤n:=by
 simp only[kp,Qv]
 exact Qt (List.length_filter_le _ _) (by simp)
theorem QWe(l:List Int)(hl:l.length≤QW):W P (QhJ F) (Done [.t 2] [] (.arr 1 (QR (cpt l))) []) (init [.arr 1 (QR l)]):=by
 refine QZ ?_
 unfold QW at hl
 simp(disch:=omega)only[go_sem]
 refine Q7 (fun c=>?_) (fun c=>?_)
 ·have:cpt l=l:=by
   match l,c with
   |[],_=>rfl
   |[x],_=>simp [cpt,kp,JY,List.range_succ,gt]
   |x::y::l,c=>simp at c;omega
  simp(disch:=omega)only[go_sem]
  rw[this]
 ·simp(disch:=omega)only[go_sem]
  refine Q5 (fun k:Nat=>⟨[(0,.sl 0 0 l.length),(3,.int .i64 k)],[(0,.arr 1 (QR l))],1⟩) (fun k=>1≤k∧k≤l.length∧kp l k=l.take k) (fun k=>l.length-k) 1 ?_ ?_ ?_
  ·simp(disch:=omega)only[go_sem]
   rfl
  ·refine⟨by omega,by omega,?_⟩
   rw[QbJ,if_pos (by simp [JY]),Yk (by omega)]
   rfl
  ·rintro k ⟨h1,h2,h3⟩
   have hs:=QbJ l k
   simp(disch:=omega)only[go_sem,QsX]
   refine Q7 (fun d=>?_) (fun d=>?_)
   ·simp(disch:=omega)only[go_sem]
    refine Q7 (fun e=>?_) (fun e=>?_)
    ·rw[if_neg (by simp [JY,e];omega)] at hs
     simp(disch:=omega)only[go_sem]
     refine Q5 (fun s:Nat×Nat×List Int=>⟨[(0,.sl 0 0 l.length),(3,.int .i64 s.2.1),(4,.sl 0 k (l.length-k)),(5,.int .i64 s.1)],[(0,.arr 1 (QR s.2.2))],1⟩)
      (fun s=>1≤s.1∧k+s.1≤l.length∧s.2.1+1≤k+s.1∧s.2.2.length=l.length∧s.2.2.take s.2.1=kp l (k+s.1)∧s.2.2.drop (k+s.1-1)=l.drop (k+s.1-1)) (fun s=>l.length-s.1) (1,k,l) ?_ ?_ ?_
     ·simp(disch:=omega)only[go_sem]
      rfl
     ·exact⟨by simp,by simp only;omega,by simp,rfl,by simp only;rw[hs,h3],rfl⟩
     ·rintro⟨j,i,xs⟩ ⟨g1,g2,g3,g4,g5,g6⟩
      simp only at g1 g2 g3 g4 g5 g6
      have hs2:=QbJ l (k+j)
      have gat:∀m:Nat,k+j-1≤m→m<l.length→gt xs m=gt l m:=fun m hm1 hm2=>by
       have:=congrArg (fun l:List Int=>l[m-(k+j-1)]?) g6
       simp only[List.getElem?_drop] at this
       rw[show k+j-1+(m-(k+j-1))=m by omega,Qq (by omega),Qq (by omega)] at this
       rw[Xc (by omega),Xc (by omega)]
       simpa using this
      simp(disch:=omega)only[go_sem,QsT,g4]
      refine Q7 (fun d=>?_) (fun d=>?_)
      ·have e1:=gat (k+j) (by omega) (by omega)
       have e2:gt xs ((k+((j:Int)-1).toNat:Nat):Int)=gt l (((k+j:Nat):Int)-1):=by
        rw[show k+((j:Int)-1).toNat=k+j-1 by omega,gat (k+j-1) (by omega) (by omega)]
        congr 1
        omega
       have hd:xs.drop (k+j)=l.drop (k+j):=by
        have:=congrArg (fun l:List Int=>l.drop 1) g6
        simp only[List.drop_drop] at this
        rw[show k+j-1+1=k+j by omega] at this
        exact this
       simp(disch:=omega)only[go_sem,g4,e1,e2]
       refine XX (fun f=>?_) (fun f=>?_)
       ·rw[if_pos (by unfold JY;rw[Qx];exact .inr (Qd f))] at hs2
        simp(disch:=omega)only[go_sem,g4,e1]
        refine⟨(j+1,i+1,xs.set i (gt l ((k+j:Nat):Int))),by simp,⟨by simp only;omega,by simp only;omega,by simp only;omega,by simp [g4],?_,?_⟩,by simp only;omega⟩
        ·simp only
         rw[←QD,hs2,←g5,List.take_succ_eq_append_getElem (by simp;omega),List.take_set_of_le (Qf _)]
         simp
        ·simp only
         rw[show k+(j+1)-1=k+j by omega,List.drop_set_of_lt (by omega),hd]
       ·rw[if_neg (by unfold JY;simp only[Qx,Qk,not_or,ne_eq,Qo];exact⟨by omega,f⟩)] at hs2
        simp(disch:=omega)only[go_sem,g4]
        refine⟨(j+1,i,xs),by simp,⟨by simp only;omega,by simp only;omega,by simp only;omega,g4,?_,?_⟩,by simp only;omega⟩
        ·simp only
         rw[←QD,hs2,←g5]
        ·simp only
         rw[show k+(j+1)-1=k+j by omega,hd]
      ·have hi:(xs.take i).length=i:=by simp;omega
       have hkj:k+j=l.length:=by omega
       simp(disch:=omega)only[go_sem,g4,hi,Nat.sub_zero]
       rw[g5,hkj,cpt]
    ·rw[if_pos (by simp [JY,e])] at hs
     simp(disch:=omega)only[go_sem]
     exact⟨k+1,by simp,⟨by omega,by omega,by rw[hs,h3,Yk (by omega)]⟩,by omega⟩
   ·obtain rfl:k=l.length:=by omega
    simp(disch:=omega)only[go_sem]
    rw[cpt,h3,List.take_length]
theorem QcB(l:List Int):∀n,n≤l.length→(kp l n).Sublist (l.take n)
 |0,_=>by simp [kp]
 |n+1,h=>by
  rw[QbJ,Yk (by omega)]
  split
  ·exact (QcB l n (by omega)).append (List.Sublist.refl _)
  ·exact (QcB l n (by omega)).trans (List.sublist_append_left _ _)
theorem QdZ(l:List Int):∀n,n≤l.length→∀x∈l.take n,x∈kp l n
 |0,_=>by simp
 |n+1,h=>by
  intro x hx
  rw[Yk (by omega)] at hx
  rw[QbJ]
  rcases Qg.1 hx with hx|hx
  ·split
   ·exact List.mem_append_left _ (QdZ l n (by omega) x hx)
   ·exact QdZ l n (by omega) x hx
  ·simp only[Qn] at hx
   subst hx
   split
   ·simp
   ·rename_i hk
    simp only[JY,Qx,Qk,not_or,ne_eq,Qo] at hk
    refine QdZ l n (by omega) _ ?_
    rw[hk.2,show (n:Int)-1=((n-1:Nat):Int) by omega,Xc (by omega)]
    exact List.mem_take_iff_getElem.2 ⟨n-1,by omega,rfl⟩
theorem QhO{l:List Int}(hs:l.Pairwise (·≤·)):∀n,n≤l.length→(kp l n).Pairwise (·<·)
 |0,_=>by simp [kp]
 |n+1,h=>by
  rw[QbJ]
  split
  ·rename_i hk
   rw[List.pairwise_append]
   refine⟨QhO hs n (by omega),by simp,fun x hx y hy=>?_⟩
   simp only[Qn] at hy
   subst hy
   obtain⟨m,hm,rfl⟩:=List.mem_take_iff_getElem.1 ((QcB l n (by omega)).subset hx)
   simp only[JY,Qx,Qk,ne_eq] at hk
   have hn:n≠0:=by omega
   have hne:gt l n≠gt l ((n:Int)-1):=hk.resolve_left hn
   rw[Xc (by omega),show (n:Int)-1=((n-1:Nat):Int) by omega,Xc (by omega)] at hne
   rw[Xc (by omega)]
   have h1:l[n-1]≤l[n]:=List.pairwise_iff_getElem.1 hs (n-1) n (by omega) (by omega) (by omega)
   have h2:l[m]≤l[n-1]:=by
    by_cases he:m=n-1
    ·subst he;exact Int.le_refl _
    ·exact List.pairwise_iff_getElem.1 hs m (n-1) (by omega) (by omega) (by omega)
   omega
  ·exact QhO hs n (by omega)
theorem QWf{l:List Int}{x:Int}:x∈Zs l↔x∈l:=by
 unfold Zs cpt
 constructor
 ·intro h
  have:=(QcB (srt l) _ (Qf _)).subset h
  rw[List.take_length] at this
  exact (QaB l).mem_iff.1 this
 ·intro h
  exact QdZ (srt l) _ (Qf _) x (by rw[List.take_length];exact (QaB l).mem_iff.2 h)
theorem QWg(l:List Int):(Zs l).Pairwise (·<·):=QhO (QdU l) _ (Qf _)
theorem Qs5(l:List Int):(Zs l).Nodup:=(QWg l).imp (fun h=>by omega)
theorem QhP(l:List Int):(Zs l).length≤l.length:=by
 rw[←Zf l];exact QWd _ _
theorem QWh{l:List Int}:(Zs l).length=l.length↔l.Nodup:=by
 have hsub:(Zs l).Sublist (srt l):=by
  have:=QcB (srt l) _ (Qf _)
  rwa [List.take_length] at this
 constructor
 ·intro h
  have:Zs l=srt l:=hsub.eq_of_length (by rw[h,Zf])
  exact (QaB l).nodup_iff.1 (this▸Qs5 l)
 ·intro h
  have hp:(Zs l).Perm l:=(List.perm_ext_iff_of_nodup (Qs5 l) h).2 fun x=>QWf
  exact hp.length_eq
theorem QWi(hc:Qag P F)(hs:QdV P F)(hp:QhM P F)(l:List Int)(hl:l.length≤1000000):W P (QhK F) (Done [.t 2] [] (.int .i64 (Zs l).length) []) (init [.lst 1 (QR l)]):=by
 refine QZ ?_
 have e1:=Zf l
 have e2:=QhP l
 have r1:=hc l (by omega)
 have r2:=hs l (by unfold QW;omega)
 have r3:=hp (srt l) (by unfold QW;omega)
 change FC P _ _ (.arr 1 (QR (Zs l))) _ at r3
 generalize Zs l=m at*
 generalize srt l=q at*
 simp(disch:=omega)only[go_sem]
 refine QT r1 ?_
 simp(disch:=omega)only[go_sem]
 refine QT r2 ?_
 simp(disch:=omega)only[go_sem,e1]
 refine QT r3 ?_
 simp(disch:=omega)only[go_sem]
theorem Qs6(l:List Int):decide (((Zs l).length:Int)=l.length)=Zg l:=by
 rw[Bool.eq_iff_iff,Zg,Qk,Qk,←QWh]
 omega
theorem QWj(hv:QaA P F)(hi:QhN P F)(a b:G)(m:Mo):W P (QhL F) (Done [.t 6] [] (.bool (Zr a b m)) []) (init [gD a,gD b,mD m]):=by
 refine QZ ?_
 have rv:=hv a b m
 have hl:=@QV8 a b m
 have hd:Zr a b m=(decide (XE a b m=0)&&(Zg m.n&&Zg m.e)):=rfl
 rw[hd,←Qs6 m.n,←Qs6 m.e]
 generalize XE a b m=v at*
 obtain⟨an,ae⟩:=a
 obtain⟨bn,be⟩:=b
 obtain⟨mn,me⟩:=m
 simp only[gD,mD] at rv ⊢
 simp(disch:=omega)only[go_sem]
 refine QT rv ?_
 simp(disch:=omega)only[go_sem]
 refine Q7 (fun c=>?_) (fun c=>?_)
 ·subst c
  obtain⟨l1,l2,_⟩:=hl rfl
  simp only at l1 l2
  have r1:=hi mn (by omega)
  have r2:=hi me (by omega)
  have e1:=QhP mn
  have e2:=QhP me
  generalize Zs mn=pn at*
  generalize Zs me=pe at*
  simp(disch:=omega)only[go_sem]
  refine QT r1 ?_
  simp(disch:=omega)only[go_sem]
  refine Q7 (fun d=>?_) (fun d=>?_)
  ·simp(disch:=omega)only[go_sem,d]
   refine QT r2 ?_
   simp(disch:=omega)only[go_sem,d]
   try simp
  ·simp(disch:=omega)only[go_sem,d]
   try simp
 ·simp(disch:=omega)only[go_sem,c]
  try simp
theorem QhQ{bn:List Int}:∀{ms as:List Int},YJ bn ms as=0→ms.length=as.length→∀i:Nat,i<ms.length→(0≤gt ms i∧gt ms i<bn.length)∧gt bn (gt ms i)=gt as i
 |[],_,_,_,i,hi=>by simp at hi
 |k::ms,[],_,hl,_,_=>by simp at hl
 |k::ms,t::as,h,hl,i,hi=>by
  rw[YJ] at h
  split at h
  ·rename_i h1
   split at h
   ·rename_i h2
    cases i with
    |zero=>exact⟨h1,h2⟩
    |succ i=>
     have:=QhQ h (by simpa using hl) i (by simpa using hi)
     have e1:gt (k::ms) ((i+1:Nat):Int)=gt ms i:=by simp [gt]
     have e2:gt (t::as) ((i+1:Nat):Int)=gt as i:=by simp [gt]
     rw[e1,e2];exact this
   ·simp at h
  ·simp at h
theorem QhR{be:List E}{mn:List Int}:∀{ms:List Int}{as:List E},Ze be mn ms as=0→ms.length=as.length→∀i:Nat,i<ms.length→
  (0≤gt ms i∧gt ms i<be.length)∧(gt as i).t=(gt be (gt ms i)).t∧gt mn (gt as i).f=(gt be (gt ms i)).f∧gt mn (gt as i).o=(gt be (gt ms i)).o
 |[],_,_,_,i,hi=>by simp at hi
 |k::ms,[],_,hl,_,_=>by simp at hl
 |k::ms,x::as,h,hl,i,hi=>by
  rw[Ze] at h
  split at h
  ·rename_i h1
   split at h
   ·rename_i h2
    split at h
    ·rename_i h3
     cases i with
     |zero=>exact⟨h1,h2,h3⟩
     |succ i=>
      have:=QhR h (by simpa using hl) i (by simpa using hi)
      have e1:gt (k::ms) ((i+1:Nat):Int)=gt ms i:=by simp [gt]
      have e2:gt (x::as) ((i+1:Nat):Int)=gt as i:=by simp [gt]
      rw[e1,e2];exact this
    ·simp at h
   ·simp at h
  ·simp at h
theorem X2{α:Type}[Inhabited α]{l:List α}{x:α}(h:x∈l):∃i:Nat,i<l.length∧gt l i=x:=by
 obtain⟨i,hi,rfl⟩:=List.getElem_of_mem h
 exact⟨i,hi,Xc hi⟩
theorem Z6{a b:G}{m:Mo}(h:XE a b m=0):(∀x∈m.n,0≤x∧x<b.n.length)∧∀x∈m.e,0≤x∧x<b.e.length:=by
 obtain⟨_,_,h3,h4,h5,h6⟩:=QhI h
 refine⟨fun x hx=>?_,fun x hx=>?_⟩
 ·obtain⟨i,hi,rfl⟩:=X2 hx
  exact (QhQ h5 h3 i hi).1
 ·obtain⟨i,hi,rfl⟩:=X2 hx
  exact (QhR h6 h4 i hi).1
end
section
variable {α:Type}
theorem Yd[Inhabited α]{a b:List α}(hl:a.length=b.length)(h:∀i:Nat,i<a.length→gt a i=gt b i):a=b:=by
 refine List.ext_getElem hl fun i h1 h2=>?_
 have:=h i h1
 rwa [Xc h1,Xc h2] at this
theorem Xi{l b:List Int}{i:Nat}(h:i<l.length):gt (thr l b) i=gt b (gt l i):=by
 rw[Xc (by rw[Xp];exact h)]
 simp only[thr,List.getElem_map]
 rw[Xc h]
theorem X0{α:Type}[Inhabited α](a:α)(l:List α)(i:Nat):gt (a::l) ((i+1:Nat):Int)=gt l i:=by simp [gt]
theorem Yx{α:Type}[Inhabited α](a:α)(l:List α):gt (a::l) ((0:Nat):Int)=a:=by simp [gt]
theorem Qs7{bn:List Int}:∀{ms as:List Int},ms.length=as.length→(∀i:Nat,i<ms.length→(0≤gt ms i∧gt ms i<bn.length)∧gt bn (gt ms i)=gt as i)→YJ bn ms as=0
 |[],as,_,_=>rfl
 |k::ms,[],hl,_=>by simp at hl
 |k::ms,t::as,hl,h=>by
  have h0:=h 0 (by simp)
  rw[Yx,Yx] at h0
  rw[YJ,if_pos h0.1,if_pos h0.2]
  exact Qs7 (by simpa using hl) fun i hi=>by have:=h (i+1) (by simpa using hi);rwa [X0,X0] at this
theorem Qs8{be:List E}{mn:List Int}:∀{ms:List Int}{as:List E},ms.length=as.length→(∀i:Nat,i<ms.length→
  (0≤gt ms i∧gt ms i<be.length)∧(gt as i).t=(gt be (gt ms i)).t∧gt mn (gt as i).f=(gt be (gt ms i)).f∧gt mn (gt as i).o=(gt be (gt ms i)).o)→Ze be mn ms as=0
 |[],as,_,_=>by cases as<;>rfl
 |k::ms,[],hl,_=>by simp at hl
 |k::ms,x::as,hl,h=>by
  have h0:=h 0 (by simp)
  rw[Yx,Yx] at h0
  rw[Ze,if_pos h0.1,if_pos h0.2.1,if_pos h0.2.2]
  exact Qs8 (by simpa using hl) fun i hi=>by have:=h (i+1) (by simpa using hi);rwa [X0,X0] at this
structure MOk(a b:G)(m:Mo):Prop where
 va:QX a=0
 vb:QX b=0
 ln:m.n.length=a.n.length
 le:m.e.length=a.e.length
 nd:∀i:Nat,i<a.n.length→(0≤gt m.n i∧gt m.n i<b.n.length)∧gt b.n (gt m.n i)=gt a.n i
 ed:∀i:Nat,i<a.e.length→(0≤gt m.e i∧gt m.e i<b.e.length)∧(gt a.e i).t=(gt b.e (gt m.e i)).t∧gt m.n (gt a.e i).f=(gt b.e (gt m.e i)).f∧gt m.n (gt a.e i).o=(gt b.e (gt m.e i)).o
theorem mok{a b:G}{m:Mo}:XE a b m=0↔MOk a b m:=by
 constructor
 ·intro h
  obtain⟨h1,h2,h3,h4,h5,h6⟩:=QhI h
  exact⟨h1,h2,h3,h4,fun i hi=>QhQ h5 h3 i (by omega),fun i hi=>QhR h6 h4 i (by omega)⟩
 ·intro h
  unfold XE
  rw[if_neg (by simp [h.va]),if_neg (by simp [h.vb]),if_neg (by have:=h.ln;have:=h.le;omega),if_neg (by
   rw[Qs7 h.ln fun i hi=>h.nd i (by have:=h.ln;omega)];simp)]
  exact Qs8 h.le fun i hi=>h.ed i (by have:=h.le;omega)
theorem Qa4{g:G}(h1:g.n.length≤40)(h2:g.e.length≤80)(h3:∀x,x∈g.n→okN x=true)(h4:∀x,x∈g.e→XP g.n.length x=true):QX g=0:=by
 unfold QX
 rw[if_neg (by omega),if_pos]
 simp only[Qi,Qr]
 exact⟨h3,h4⟩
theorem Y0{α:Type}[Inhabited α]{l:List α}(hn:l.Nodup){i j:Nat}(hi:i<l.length)(hj:j<l.length)(h:gt l i=gt l j):i=j:=by
 rw[Xc hi,Xc hj] at h
 exact (List.getElem_inj hn).1 h
theorem JZ{α β:Type}[Inhabited α][Inhabited β]{l:List α}{f:α→β}{i:Nat}(h:i<l.length):gt (l.map f) i=f (gt l i):=by
 rw[Xc (by simpa using h),Xc h];simp
theorem gtI{α:Type}[Inhabited α]{l:List α}{y:Int}(h:0≤y∧y<l.length):∃i:Nat,i<l.length∧y=(i:Int):=⟨y.toNat,by omega,by omega⟩
theorem Zt{g:G}(h:QX g=0){i:Int}(hi:0≤i∧i<g.e.length):(0≤(gt g.e i).t∧(gt g.e i).t≤99)∧(0≤(gt g.e i).f∧(gt g.e i).f<g.n.length)∧(0≤(gt g.e i).o∧(gt g.e i).o<g.n.length):=
 YZ ((Q8 h).2.2.2 _ (gt_mem hi.1 hi.2))
theorem XN{n i:Nat}(hi:i<n):gt (Xf 0 n) i=i:=by
 unfold Xf
 rw[Xc (by simp;exact hi)]
 simp
theorem nums_mem{n:Nat}{x:Int}:x∈Xf 0 n↔0≤x∧x<n:=by
 unfold Xf
 simp only[Qu,List.mem_range]
 constructor
 ·rintro⟨k,hk,rfl⟩;omega
 ·rintro⟨h1,h2⟩;exact⟨x.toNat,by omega,by omega⟩
theorem QhS(n:Nat):(Xf 0 n).Nodup:=by
 unfold Xf List.Nodup
 rw[List.pairwise_map]
 exact (List.nodup_range (n:=n)).imp fun h=>by omega
def idM(g:G):Mo:=⟨Xf 0 g.n.length,Xf 0 g.e.length⟩
theorem QhT{g:G}(h:QX g=0):MOk g g (idM g):=by
 refine⟨h,h,by simp [idM,Xh],by simp [idM,Xh],fun i hi=>?_,fun i hi=>?_⟩
 ·simp only[idM]
  rw[XN hi]
  exact⟨by omega,rfl⟩
 ·simp only[idM]
  rw[XN hi]
  obtain⟨_,h1,h2⟩:=Zt h (i:=i) (by omega)
  obtain⟨j,hj,hj2⟩:=gtI h1
  obtain⟨k,hk,hk2⟩:=gtI h2
  refine⟨by omega,rfl,?_,?_⟩
  ·rw[hj2,XN hj]
  ·rw[hk2,XN hk]
end
def YD(l:List Int):List Int:=if l=[] then [0] else l
def Yq(p:List Int)(a b:Int):List Int:=p.map fun k=>if k=max (gt p a) (gt p b) then min (gt p a) (gt p b) else k
def Z7(c:List Int)(i:Nat):Int:=(gt c ((i:Int).tmod c.length)).tmod ((i:Int)+1)
def part(g:G)(c:List Int):Nat→List Int
 |0=>Xf 0 g.n.length
 |k+1=>if Z7 c (k+1)<((k+1:Nat):Int)∧gt g.n (Z7 c (k+1))=gt g.n ((k+1:Nat):Int) then Yq (part g c k) (Z7 c (k+1)) ((k+1:Nat):Int) else part g c k
def quo(p:List Int):Nat→List Int×Nat
 |0=>([],0)
 |i+1=>if gt p i=i then ((quo p i).1++[((quo p i).2:Int)],(quo p i).2+1) else ((quo p i).1++[gt (quo p i).1 (gt p i)],(quo p i).2)
def Zu(g:G)(q:List Int)(n:Nat):Nat→List Int
 |0=>List.replicate n 0
 |i+1=>(Zu g q n i).set (gt q i).toNat (gt g.n i)
def Zh(oe:List E)(x:E)(c:List Int)(i:Nat):Nat→Int
 |0=> -1
 |k+1=>if gt oe k=x∧(gt c (((i:Int)+k).tmod c.length)).tmod 2=0 then k else Zh oe x c i k
def ZW(g:G)(q:List Int)(i:Nat):E:=⟨(gt g.e i).t,gt q (gt g.e i).f,gt q (gt g.e i).o⟩
def XO(g:G)(q c:List Int):Nat→List E×List Int
 |0=>([],[])
 |i+1=>if Zh (XO g q c i).1 (ZW g q i) c i (XO g q c i).1.length<0 then ((XO g q c i).1++[ZW g q i],(XO g q c i).2++[((XO g q c i).1.length:Int)])
   else ((XO g q c i).1,(XO g q c i).2++[Zh (XO g q c i).1 (ZW g q i) c i (XO g q c i).1.length])
def QaC(g:G)(l:List Int):List Int:=part g (YD l) (g.n.length-1)
def YQ(g:G)(l:List Int):List Int:=(quo (QaC g l) g.n.length).1
def J1(g:G)(l:List Int):Nat:=(quo (QaC g l) g.n.length).2
def imG(g:G)(l:List Int):G:=⟨Zu g (YQ g l) (J1 g l) g.n.length,(XO g (YQ g l) (YD l) g.e.length).1⟩
def J2(g:G)(l:List Int):Mo:=⟨YQ g l,(XO g (YQ g l) (YD l) g.e.length).2⟩
section
theorem Y1{α:Type}[Inhabited α]{l:List α}{x:α}{i:Nat}(h:i<l.length):gt (l++[x]) (i:Int)=gt l i:=by
 rw[Xc (by simp;omega),Xc h,List.getElem_append_left h]
theorem Z8{α:Type}[Inhabited α]{l:List α}{x:α}{i:Nat}(h:i=l.length):gt (l++[x]) (i:Int)=x:=by
 subst h
 rw[Xc (by simp)];simp
theorem QbK(l:List Int):0<(YD l).length:=by
 unfold YD
 split
 ·simp
 ·rename_i h;exact List.length_pos_iff.2 h
theorem QbL{l:List Int}(h:∀v∈l,XF v):∀v∈YD l,XF v:=by
 unfold YD
 split
 ·intro v hv;simp at hv;subst hv;unfold XF;omega
 ·exact h
theorem Qs9{c:List Int}(hl:0<c.length)(hc:∀v∈c,XF v)(i:Nat):0≤Z7 c i∧Z7 c i≤i:=by
 unfold Z7
 have h1:=Zq (x:=(i:Int)) (m:=(c.length:Int)) (by omega) (by omega)
 have h2:=hc _ (gt_mem (l:=c) h1.1 h1.2)
 have h3:=Zq (x:=gt c ((i:Int).tmod c.length)) (m:=(i:Int)+1) h2.1 (by omega)
 omega
structure PV(g:G)(p:List Int):Prop where
 l:p.length=g.n.length
 h:∀i:Nat,i<g.n.length→(0≤gt p i∧gt p i≤i)∧gt p (gt p i)=gt p i∧gt g.n (gt p i)=gt g.n i
theorem Qd0(p:List Int)(a b:Int):(Yq p a b).length=p.length:=by simp [Yq]
theorem PV.merge{g:G}{p:List Int}(hp:PV g p){a b:Nat}(ha:a<g.n.length)(hb:b<g.n.length)(he:gt g.n a=gt g.n b):PV g (Yq p a b):=by
 obtain⟨hl,h⟩:=hp
 obtain⟨a1,a2,a3⟩:=h a ha
 obtain⟨b1,b2,b3⟩:=h b hb
 have hg:∀i:Nat,i<g.n.length→gt (Yq p a b) i=if gt p i=max (gt p a) (gt p b) then min (gt p a) (gt p b) else gt p i:=fun i hi=>by
  unfold Yq
  rw[Xc (by simp;omega),Xc (l:=p) (i:=i) (by omega)]
  simp
 have hlo:gt p (min (gt p a) (gt p b))=min (gt p a) (gt p b)∧(0≤min (gt p a) (gt p b)∧min (gt p a) (gt p b)<g.n.length)∧gt g.n (min (gt p a) (gt p b))=gt g.n (max (gt p a) (gt p b)):=by
  by_cases c:gt p a≤gt p b
  ·rw[Int.min_eq_left c,Int.max_eq_right c]
   exact⟨a2,by omega,by rw[a3,b3,he]⟩
  ·rw[Int.min_eq_right (by omega),Int.max_eq_left (by omega)]
   exact⟨b2,by omega,by rw[a3,b3,he]⟩
 have hle:min (gt p a) (gt p b)≤max (gt p a) (gt p b):=by omega
 generalize min (gt p a) (gt p b)=lo at*
 generalize max (gt p a) (gt p b)=hi at*
 obtain⟨l1,l2,l3⟩:=hlo
 obtain⟨k,hk⟩:∃k:Nat,lo=k:=⟨lo.toNat,by omega⟩
 refine⟨by rw[Qd0,hl],fun i hi'=>?_⟩
 obtain⟨c1,c2,c3⟩:=h i hi'
 rw[hg i hi']
 by_cases c:gt p i=hi
 ·rw[if_pos c]
  refine⟨by omega,?_,by rw[l3,←c,c3]⟩
  rw[hk,hg k (by omega),←hk,l1]
  split<;>rfl
 ·rw[if_neg c]
  refine⟨c1,?_,c3⟩
  obtain⟨m,hm⟩:∃m:Nat,gt p i=m:=⟨(gt p i).toNat,by omega⟩
  rw[hm,hg m (by omega),←hm,c2,if_neg c]
theorem QWk(g:G):PV g (Xf 0 g.n.length):=⟨by rw[Xh],fun i hi=>by
 rw[XN hi]
 exact⟨by omega,XN hi,rfl⟩⟩
theorem QcC{g:G}{c:List Int}(hl:0<c.length)(hc:∀v∈c,XF v):∀k:Nat,k≤g.n.length-1→PV g (part g c k)
 |0,_=>QWk g
 |k+1,hk=>by
  have ih:=QcC (g:=g) hl hc k (by omega)
  have hb:=Qs9 hl hc (k+1)
  rw[part]
  split
  ·rename_i h
   obtain⟨m,hm⟩:∃m:Nat,Z7 c (k+1)=m:=⟨(Z7 c (k+1)).toNat,by omega⟩
   rw[hm] at h hb ⊢
   exact ih.merge (by omega) (by omega) h.2
  ·exact ih
structure QV(g:G)(n:Nat)(s:List Int×Nat):Prop where
 l:s.1.length=n
 c:s.2≤n
 b:∀i:Nat,i<n→0≤gt s.1 i∧gt s.1 i<s.2
 e:∀i j:Nat,i<n→j<n→gt s.1 i=gt s.1 j→gt g.n i=gt g.n j
theorem Qd1{g:G}{p:List Int}(hp:PV g p):∀n:Nat,n≤g.n.length→QV g n (quo p n)
 |0,_=>⟨rfl,Qf _,fun i hi=>by omega,fun i j hi=>by omega⟩
 |n+1,hn=>by
  obtain⟨h1,h2,h3,h4⟩:=Qd1 hp n (by omega)
  obtain⟨p1,p2,p3⟩:=hp.h n (by omega)
  rw[quo]
  generalize quo p n=s at*
  obtain⟨q,c⟩:=s
  simp only at h1 h2 h3 h4 ⊢
  split
  ·refine⟨by simp [h1],by omega,fun i hi=>?_,fun i j hi hj he=>?_⟩
   ·by_cases x:i=n
    ·subst x
     simp only
     rw[Z8 h1.symm];omega
    ·simp only
     rw[Y1 (by omega)]
     have:=h3 i (by omega)
     omega
   ·simp only at he
    by_cases x:i=n
    ·by_cases y:j=n
     ·rw[x,y]
     ·rw[x,Z8 h1.symm,Y1 (by omega)] at he
      have:=h3 j (by omega)
      omega
    ·by_cases y:j=n
     ·rw[y,Z8 h1.symm,Y1 (by omega)] at he
      have:=h3 i (by omega)
      omega
     ·rw[Y1 (by omega),Y1 (by omega)] at he
      exact h4 i j (by omega) (by omega) he
  ·rename_i hne
   obtain⟨m,hm⟩:∃m:Nat,gt p n=m:=⟨(gt p n).toNat,by omega⟩
   rw[hm] at p1 p3 hne ⊢
   have hmn:m<n:=by omega
   refine⟨by simp [h1],by simp only;omega,fun i hi=>?_,fun i j hi hj he=>?_⟩
   ·by_cases x:i=n
    ·subst x
     simp only
     rw[Z8 h1.symm];exact h3 m hmn
    ·simp only
     rw[Y1 (by omega)]
     exact h3 i (by omega)
   ·simp only at he
    by_cases x:i=n
    ·by_cases y:j=n
     ·rw[x,y]
     ·rw[x,Z8 h1.symm,Y1 (by omega)] at he
      rw[x,←p3]
      exact h4 m j hmn (by omega) he
    ·by_cases y:j=n
     ·rw[y,Z8 h1.symm,Y1 (by omega)] at he
      rw[y,←p3]
      exact h4 i m (by omega) hmn he
     ·rw[Y1 (by omega),Y1 (by omega)] at he
      exact h4 i j (by omega) (by omega) he
theorem QcD(g:G)(q:List Int)(n:Nat):∀i,(Zu g q n i).length=n
 |0=>by simp [Zu]
 |i+1=>by rw[Zu,QJ,QcD g q n i]
theorem QhU{l:List Int}{k i:Nat}{v:Int}(hi:i<l.length):gt (l.set k v) i=if k=i then v else gt l i:=by
 rw[Xc (by simpa using hi),Xc hi,List.getElem_set]
theorem Qta{g:G}{s:List Int×Nat}{n:Nat}(hs:QV g n s):∀m:Nat,m≤n→∀i:Nat,i<m→gt (Zu g s.1 s.2 m) (gt s.1 i)=gt g.n i
 |0,_,i,hi=>by omega
 |m+1,hm,i,hi=>by
  obtain⟨b1,b2⟩:=hs.b i (by omega)
  obtain⟨b3,b4⟩:=hs.b m (by omega)
  have hl:=QcD g s.1 s.2 m
  obtain⟨k,hk⟩:∃k:Nat,gt s.1 i=k:=⟨(gt s.1 i).toNat,by omega⟩
  rw[Zu,hk,QhU (by omega)]
  by_cases x:(gt s.1 m).toNat=k
  ·rw[if_pos x]
   exact hs.e m i (by omega) (by omega) (by omega)
  ·rw[if_neg x,←hk]
   refine Qta hs m (by omega) i ?_
   by_cases y:i=m
   ·subst y;omega
   ·omega
theorem Qtb{g:G}{q:List Int}{n:Nat}(h:∀x∈g.n,okN x=true):∀m:Nat,m≤g.n.length→∀x∈Zu g q n m,okN x=true
 |0,_,x,hx=>by
  simp only[Zu,List.mem_replicate] at hx
  rw[hx.2]
  decide
 |m+1,hm,x,hx=>by
  rw[Zu] at hx
  rcases List.mem_or_eq_of_mem_set hx with hx|hx
  ·exact Qtb h m (by omega) x hx
  ·rw[hx];exact h _ (gt_mem (by omega) (by omega))
theorem QhV{oe:List E}{x:E}{c:List Int}{i:Nat}:∀k:Nat,k≤oe.length→Zh oe x c i k<0∨((0≤Zh oe x c i k∧Zh oe x c i k<oe.length)∧gt oe (Zh oe x c i k)=x)
 |0,_=>.inl (by simp [Zh])
 |k+1,hk=>by
  rw[Zh]
  split
  ·rename_i h
   exact .inr ⟨by omega,h.1⟩
  ·exact QhV k (by omega)
structure EV(g:G)(q:List Int)(c:Nat)(n:Nat)(s:List E×List Int):Prop where
 l:s.2.length=n
 m:s.1.length≤n
 f:∀x∈s.1,XP c x=true
 b:∀i:Nat,i<n→(0≤gt s.2 i∧gt s.2 i<s.1.length)∧gt s.1 (gt s.2 i)=ZW g q i
theorem Qd2{g:G}{q c:List Int}{k:Nat}(hv:QX g=0)(hq:∀i:Nat,i<g.n.length→0≤gt q i∧gt q i<k):∀n:Nat,n≤g.e.length→EV g q k n (XO g q c n)
 |0,_=>⟨rfl,Qf _,fun x hx=>by simp [XO] at hx,fun i hi=>by omega⟩
 |n+1,hn=>by
  obtain⟨h1,h2,h3,h4⟩:=Qd2 (c:=c) hv hq n (by omega)
  have hf:=QhV (oe:=(XO g q c n).1) (x:=ZW g q n) (c:=c) (i:=n) (XO g q c n).1.length (Qf _)
  obtain⟨t1,t2,t3⟩:=Zt hv (i:=n) (by omega)
  have hx:XP k (ZW g q n)=true:=by
   obtain⟨a,ha,ha2⟩:=gtI t2
   obtain⟨b,hb,hb2⟩:=gtI t3
   unfold ZW
   rw[ha2,hb2]
   exact Jr t1 (hq a ha) (hq b hb)
  rw[XO]
  generalize XO g q c n=s at*
  generalize Zh s.1 (ZW g q n) c n s.1.length=y at*
  generalize hxx:ZW g q n=x at*
  obtain⟨oe,me⟩:=s
  simp only at h1 h2 h3 h4 hf ⊢
  split
  ·refine⟨by simp [h1],by simp;omega,fun z hz=>?_,fun i hi=>?_⟩
   ·simp only[Qg,Qn] at hz
    rcases hz with hz|rfl
    ·exact h3 z hz
    ·exact hx
   ·simp only[Ql,List.length_singleton]
    by_cases c:i=n
    ·rw[Z8 (show i=me.length by omega),Z8 rfl]
     refine⟨by omega,?_⟩
     rw[c];exact hxx.symm
    ·obtain⟨h5,h6⟩:=h4 i (by omega)
     rw[Y1 (show i<me.length by omega)]
     obtain⟨a,ha,ha2⟩:=gtI h5
     rw[ha2,Y1 ha,←ha2]
     exact⟨by omega,h6⟩
  ·rename_i hy
   rcases hf with hf|⟨hf,hf2⟩
   ·exact absurd hf hy
   ·refine⟨by simp [h1],by simp only;omega,h3,fun i hi=>?_⟩
    simp only
    by_cases c:i=n
    ·rw[Z8 (show i=me.length by omega)]
     refine⟨hf,?_⟩
     rw[hf2]
     rw[c];exact hxx.symm
    ·rw[Y1 (show i<me.length by omega)]
     exact h4 i (by omega)
theorem QWl{g:G}{l:List Int}(hv:QX g=0)(hl:∀v∈l,XF v):MOk g (imG g l) (J2 g l):=by
 have vs:=Q8 hv
 have hp:PV g (QaC g l):=QcC (QbK l) (QbL hl) _ (Qf _)
 have hq:QV g g.n.length (quo (QaC g l) g.n.length):=Qd1 hp _ (Qf _)
 have he:EV g (YQ g l) (J1 g l) g.e.length (XO g (YQ g l) (YD l) g.e.length):=Qd2 hv hq.b _ (Qf _)
 have ho:=Qta hq _ (Qf _)
 have hlo:=QcD g (YQ g l) (J1 g l) g.n.length
 have hc:J1 g l≤g.n.length:=hq.c
 have hm:=he.m
 refine⟨hv,Qa4 ?_ ?_ (fun y hy=>?_) (fun y hy=>?_),?_,?_,fun i hi=>?_,fun i hi=>?_⟩
 ·simp only[imG];omega
 ·simp only[imG];omega
 ·exact Qtb vs.2.2.1 _ (Qf _) y hy
 ·have:=he.f y hy
  simp only[imG]
  rw[hlo]
  exact this
 ·exact hq.l
 ·exact he.l
 ·simp only[imG,J2]
  rw[hlo]
  exact⟨hq.b i hi,ho i hi⟩
 ·simp only[imG,J2]
  obtain⟨h1,h2⟩:=he.b i hi
  refine⟨h1,?_⟩
  rw[h2]
  exact⟨rfl,rfl,rfl⟩
theorem QWm{g:G}{l:List Int}(hl:∀v∈l,XF v)(hv:QX g=0):(YQ g l).length=g.n.length∧(imG g l).n.length≤g.n.length∧(imG g l).e.length≤g.e.length:=by
 have hp:PV g (QaC g l):=QcC (QbK l) (QbL hl) _ (Qf _)
 have hq:QV g g.n.length (quo (QaC g l) g.n.length):=Qd1 hp _ (Qf _)
 have he:EV g (YQ g l) (J1 g l) g.e.length (XO g (YQ g l) (YD l) g.e.length):=Qd2 hv hq.b _ (Qf _)
 refine⟨hq.l,?_,he.m⟩
 simp only[imG]
 rw[QcD]
 exact hq.c
end
attribute [local irreducible] W
def Qtc:LL:=[qn 2 1]
def Qtd:LL:=[qQp 5 (.buildSl 1 8 (.int .i64 (0)) 0 []),qm 3 5]
def Qte:LL:=[qi 4 0]
def Qtf:LL:=[qm 6 4,qm 7 0,qz 8 7,qo .lss 9 6 8]
def Qtg:LL:=[qm 12 3,qm 13 0,qm 14 4,qd 15 1 13 14,ql 16 1 15,qQp 17 (.conv .i64 (.t 16)),qQp 18 (.buildSl 1 8 (.int .i64 (0)) 1 [(0,.t 17)]),qp 19 1 8 12 18,qm 3 19]
def Qth:LL:=[qm 10 4,qk .add 11 10 1,qm 4 11]
def Qti:LC:=QQ [QQ [.reg Qtf [0,3,4,9],.cond (.t 9) .skip (.exit 0)],.block 1 (.reg Qtg [0,3,4]),.reg Qth [0,3,4]]
def Qtj:LL:=[qm 20 3,qz 21 20,qk .eql 22 21 0]
def Qtk:LL:=[qQp 23 (.buildSl 1 8 (.int .i64 (0)) 1 [(0,.k (.int .i64 (0)))]),qm 3 23]
def Qtl:LL:=[qm 24 3,qm 2 24]
def QhW(F:Fn):LC:=QQ [.reg Qtc [0],.reg Qtd [0,3],QQ [.reg Qte [0,3,4],.block 0 (.loop [0,3,4] Qti)],QQ [.reg Qtj [3,22],.cond (.t 22) (.reg Qtk [3]) .skip],.reg Qtl [2],.ret]
def Qtm:LL:=[qn 6 1]
def Qtn:LL:=[qm 12 0,qm 13 1,qd 14 1 12 13,ql 15 1 14,qm 16 0,qm 17 2,qd 18 1 16 17,ql 19 1 18,qQp 20 (.mn [.t 15,.t 19]),qm 21 0,qm 22 1,qd 23 1 21 22,ql 24 1 23,qm 25 0,qm 26 2,
 qd 27 1 25 26,ql 28 1 27,qQp 29 (.mx [.t 24,.t 28]),qm 7 20,qm 8 29]
def Qto:LL:=[qn 9 1]
def Qtp:LL:=[qi 10 0]
def Qtq:LL:=[qm 30 10,qm 31 0,qz 32 31,qo .lss 33 30 32]
def Qtr:LL:=[qm 36 0,qm 37 10,qd 38 1 36 37,ql 39 1 38,qm 11 39]
def Qts:LL:=[qm 40 11,qm 41 8,qo .eql 42 40 41]
def Qtt:LL:=[qm 43 7,qm 11 43]
def Qtu:LL:=[qm 44 9,qm 45 11,qQp 46 (.buildSl 1 8 (.int .i64 (0)) 1 [(0,.t 45)]),qp 47 1 8 44 46,qm 9 47]
def Qtv:LL:=[qm 34 10,qk .add 35 34 1,qm 10 35]
def Qtw:LC:=QQ [QQ [.reg Qtq [0,7,8,9,10,33],.cond (.t 33) .skip (.exit 0)],.block 1 (QQ [.reg Qtr [0,7,8,9,10,11],QQ [.reg Qts [0,7,8,9,10,11,42],.cond (.t 42) (.reg Qtt [0,7,8,9,10,11]) .skip],.reg Qtu [0,7,8,9,10]]),.reg Qtv [0,7,8,9,10]]
def Qtx:LL:=[qm 48 9,qm 6 48]
def QhX(F:Fn):LC:=QQ [.reg Qtm [0,1,2],.dreg [] Qtn [0,7,8],.reg Qto [0,7,8,9],QQ [.reg Qtp [0,7,8,9,10],.block 0 (.loop [0,7,8,9,10] Qtw)],.reg Qtx [6],.ret]
def QWn:Hints:=hn [] [(0,[0,1,2]),(1,[0,7,8]),(2,[0,7,8,9]),(3,[0,7,8,9,10]),(4,[0,7,8,9,10,33]),(5,[0,7,8,9,10]),(6,[0,7,8,9,10,11]),(7,[0,7,8,9,10,11,42]),(8,[0,7,8,9,10,11]),(9,[0,7,8,9,10]),(10,[6])] [(4,[0,7,8,9,10])]
def Qty:LL:=[qb 2 false]
def Qtz:LL:=[qm 4 0,qz 5 4,qk .gtr 6 5 80]
def QtA:LL:=[qb 2 false]
def QtB:LL:=[qi 3 0]
def QtC:LL:=[qm 7 3,qm 8 0,qz 9 8,qo .lss 10 7 9]
def QtD:LL:=[qm 13 0,qm 14 3,qd 15 1 13 14,ql 16 1 15,qk .lss 17 16 0,qm 18 17,qg 18 false (qm 19 0),qg 18 false (qm 20 3),qg 18 false (qd 21 1 19 20),qg 18 false (ql 22 1 21),
 qg 18 false (qm 23 3),qg 18 false (qo .gtr 24 22 23),qQ 25 18 24,qm 26 25,qg 26 false (qm 27 0),qg 26 false (qm 28 0),qg 26 false (qm 29 3),qg 26 false (qd 30 1 28 29),
 qg 26 false (ql 31 1 30),qg 26 false (qd 32 1 27 31),qg 26 false (ql 33 1 32),qg 26 false (qm 34 0),qg 26 false (qm 35 3),qg 26 false (qd 36 1 34 35),qg 26 false (ql 37 1 36),
 qg 26 false (qo .neq 38 33 37),qQ 39 26 38]
def QtE:LL:=[qb 2 false]
def QtF:LL:=[qm 11 3,qk .add 12 11 1,qm 3 12]
def QhY:LC:=QQ [QQ [.reg QtC [0,3,10],.cond (.t 10) .skip (.exit 0)],.block 1 (QQ [.dreg [] QtD [0,3,39],.cond (.t 39) (QQ [.reg QtE [2],.ret]) .skip]),.reg QtF [0,3]]
def QtG:LL:=[qb 2 true]
def QhZ(F:Fn):LC:=QQ [.reg Qty [0],QQ [.reg Qtz [0,6],.cond (.t 6) (QQ [.reg QtA [2],.ret]) .skip],QQ [.reg QtB [0,3],.block 0 (.loop [0,3] QhY)],.reg QtG [2],.ret]
def QWo:Hints:=hn [] [(0,[0]),(1,[0,6]),(2,[2]),(3,[0,3]),(4,[0,3,10]),(5,[0,3]),(6,[0,3,39]),(7,[2]),(8,[2])] [(4,[0,3])]
def QtH:LL:=[qi 2 0]
def QtI:LL:=[qm 3 0,qz 4 3,qk .gtr 5 4 80]
def QtJ:LL:=[qi 2 3]
def QtK(F:Fn):LL:=[qm 6 0,qc 7 (F "bD") [.t 6],qv 8 7]
def QtL:LL:=[qi 2 1]
def QtM:LL:=[qi 2 0]
def Qh0(F:Fn):LC:=QQ [.reg QtH [0],QQ [.reg QtI [0,5],.cond (.t 5) (QQ [.reg QtJ [2],.ret]) .skip],QQ [.reg (QtK F) [8],.cond (.t 8) (QQ [.reg QtL [2],.ret]) .skip],.reg QtM [2],.ret]
def QtN:LL:=[qn 2 1,qi 3 0,qi 4 0]
def QtO(F:Fn):LL:=[qm 9 0,qc 10 (F "be") [.t 9],qm 5 10]
def QtP:LL:=[qm 11 5,qk .neq 12 11 0]
def QtQ:LL:=[qm 13 5,qn 2 1,qi 3 0,qm 4 13]
def QtR:LL:=[qn 6 1]
def QtS:LL:=[qi 7 0]
def QtT:LL:=[qi 8 0]
def QtU:LL:=[qm 14 8,qm 15 0,qz 16 15,qo .lss 17 14 16]
def QtV:LL:=[qm 20 0,qm 21 8,qd 22 1 20 21,ql 23 1 22,qm 24 8,qo .eql 25 23 24]
def QtW:LL:=[qm 26 6,qm 27 7,qQp 28 (.buildSl 1 8 (.int .i64 (0)) 1 [(0,.t 27)]),qp 29 1 8 26 28,qm 6 29]
def QtX:LL:=[qm 30 7,qk .add 31 30 1,qm 7 31]
def QtY:LL:=[qm 32 6,qm 33 6,qm 34 0,qm 35 8,qd 36 1 34 35,ql 37 1 36,qd 38 1 33 37,ql 39 1 38,qQp 40 (.buildSl 1 8 (.int .i64 (0)) 1 [(0,.t 39)]),qp 41 1 8 32 40,qm 6 41]
def QtZ:LL:=[qm 18 8,qk .add 19 18 1,qm 8 19]
def Qt0:LC:=QQ [QQ [.reg QtU [0,6,7,8,17],.cond (.t 17) .skip (.exit 0)],.block 1 (QQ [.reg QtV [0,6,7,8,25],.cond (.t 25) (QQ [.reg QtW [0,6,7,8],.reg QtX [0,6,7,8]]) (.reg QtY [0,6,7,8])]),.reg QtZ [0,6,7,8]]
def Qt1:LL:=[qm 42 6,qm 43 7,qm 2 42,qm 3 43,qi 4 0]
def Qh1(F:Fn):LC:=QQ [.reg QtN [0],QQ [.reg (QtO F) [0,5],.reg QtP [0,5,12],.cond (.t 12) (QQ [.reg QtQ [2,3,4],.ret]) .skip],.reg QtR [0,6],.reg QtS [0,6,7],QQ [.reg QtT [0,6,7,8],.block 0 (.loop [0,6,7,8] Qt0)],.reg Qt1 [2,3,4],.ret]
def QWp:Hints:=hn [] [(0,[0]),(1,[0,5]),(2,[0,5,12]),(3,[2,3,4]),(4,[0,6]),(5,[0,6,7]),(6,[0,6,7,8]),(7,[0,6,7,8,17]),(8,[0,6,7,8]),(9,[0,6,7,8,25]),(10,[0,6,7,8]),(11,[0,6,7,8]),(12,[0,6,7,8]),(13,[2,3,4])] [(7,[0,6,7,8])]
structure Pv(p:List Int):Prop where
 l:p.length≤80
 h:∀i:Nat,i<p.length→(0≤gt p i∧gt p i≤i)∧gt p (gt p i)=gt p i
attribute [go_sem] Qtc Qtd Qte Qtf Qtg Qth Qtj Qtk Qtl QhW Qtm Qtn Qto Qtp Qtq Qtr Qts Qtt Qtu Qtv Qtx QhX Qty Qtz QtA QtB QtC QtD QtE QtF QtG QhZ QtH QtI QtJ QtK QtL QtM Qh0 QtN QtO QtP QtQ QtR QtS QtT QtU QtV QtW QtX QtY QtZ Qt1 Qh1
section
variable (P:Program) (F:String→Nat)
def Qh2:Prop:=∀l:List Int,l.length≤2000000→(∀v∈l,XF v)→FC P (F "bm") [.lst 1 (u8s l)] (.arr 1 (QR (YD l))) []
def Qd3:Prop:=∀(p:List Int)(a b:Nat),p.length≤1000→a<p.length→b<p.length→FC P (F "aJ") [.lst 1 (QR p),.int .i64 a,.int .i64 b] (.arr 1 (QR (Yq p a b))) []
def Qh3:Prop:=∀p:List Int,Pv p→FC P (F "bD") [.lst 1 (QR p)] (.bool true) []
def Qh4:Prop:=∀p:List Int,Pv p→FC P (F "be") [.lst 1 (QR p)] (.int .i64 0) []
def Qd4:Prop:=∀p:List Int,Pv p→FC P (F "P") [.lst 1 (QR p)] (.tup [.arr 1 (QR (quo p p.length).1),.int .i64 (quo p p.length).2,.int .i64 0]) []
end
section
variable {P:Program} {F:String→Nat} {α:Type}
theorem QWq(l:List Int)(hl:l.length≤2000000)(hb:∀v∈l,XF v):W P (QhW F) (Done [.t 2] [] (.arr 1 (QR (YD l))) []) (init [.lst 1 (u8s l)]):=by
 refine QZ ?_
 simp(disch:=omega)only[go_sem]
 refine Q5 (fun i:Nat=>⟨[(0,.lst 1 (u8s l)),(3,.sl 0 0 i),(4,.int .i64 i)],[(0,.arr 1 (QR (l.take i)))],1⟩) (fun i=>i≤l.length) (fun i=>l.length-i) 0 ?_ ?_ ?_
 ·simp(disch:=omega)only[go_sem,Zc]
  rfl
 ·simp
 ·intro i hi
  have e1:(l.take i).length=i:=by simp;omega
  simp(disch:=omega)only[go_sem,Qti]
  refine Q7 (fun c=>?_) (fun c=>?_)
  ·have hv:=hb _ (gt_mem (l:=l) (j:=i) (by omega) (by omega))
   have w1:IntKind.i64.wrap (gt l i)=gt l i:=wrap_i64 (by have:=hv.1;omega) (by have:=hv.2;omega)
   simp(disch:=omega)only[go_sem,e1,w1]
   exact⟨i+1,by rw[Yk (by omega)];simp,by omega,by omega⟩
  ·obtain rfl:i=l.length:=by omega
   unfold YD
   by_cases h0:l=[]
   ·subst h0
    simp(disch:=omega)only[go_sem]
    refine Q7 (fun _=>?_) (fun h=>absurd rfl h)
    simp(disch:=omega)only[go_sem]
    rfl
   ·have h1:=List.length_pos_iff.2 h0
    rw[if_neg h0]
    have g0:decide ((l.length:Int)=0)=false:=Qc (by omega)
    simp(disch:=omega)only[go_sem,e1,g0]
    try simp
theorem QWr(p:List Int)(a b:Nat)(hl:p.length≤1000)(ha:a<p.length)(hb:b<p.length):W P (QhX F) (Done [.t 6] [] (.arr 1 (QR (Yq p a b))) []) (init [.lst 1 (QR p),.int .i64 a,.int .i64 b]):=by
 refine QZ ?_
 have ht:∀i:Nat,i<p.length→Yq (p.take (i+1)) (0:Int) 0=Yq (p.take (i+1)) 0 0:=fun i hi=>rfl
 have hE:Yq p a b=p.map fun k=>if k=max (gt p a) (gt p b) then min (gt p a) (gt p b) else k:=rfl
 have hlo:min (gt p a) (gt p b)=if gt p b<gt p a then gt p b else gt p a:=by rw[Int.min_def];split<;>split<;>omega
 have hhi:max (gt p a) (gt p b)=if gt p a<gt p b then gt p b else gt p a:=by rw[Int.max_def];split<;>split<;>omega
 rw[hE,hlo,hhi]
 clear hE ht hlo hhi
 simp(disch:=omega)only[go_sem]
 generalize (if gt p (b:Int)<gt p (a:Int) then gt p (b:Int) else gt p (a:Int))=lo
 generalize (if gt p (a:Int)<gt p (b:Int) then gt p (b:Int) else gt p (a:Int))=hi
 refine Q5 (fun i:Nat=>⟨[(0,.lst 1 (QR p)),(7,.int .i64 lo),(8,.int .i64 hi),(9,.sl 0 0 i),(10,.int .i64 i)],[(0,.arr 1 (QR ((p.take i).map fun k=>if k=hi then lo else k)))],1⟩) (fun i=>i≤p.length) (fun i=>p.length-i) 0 ?_ ?_ ?_
 ·simp(disch:=omega)only[go_sem,Zc]
  rfl
 ·simp
 ·intro i hi'
  have e1:((p.take i).map fun k=>if k=hi then lo else k).length=i:=by simp;omega
  simp(disch:=omega)only[go_sem,Qtw]
  refine Q7 (fun c=>?_) (fun c=>?_)
  ·simp(disch:=omega)only[go_sem]
   refine Q7 (fun d=>?_) (fun d=>?_)
   ·simp(disch:=omega)only[go_sem,e1]
    exact⟨i+1,by rw[Yk (by omega)];simp [d],by omega,by omega⟩
   ·simp(disch:=omega)only[go_sem,e1]
    exact⟨i+1,by rw[Yk (by omega)];simp [d],by omega,by omega⟩
  ·obtain rfl:i=p.length:=by omega
   rw[List.take_length] at e1
   simp(disch:=omega)only[go_sem,e1]
theorem QWs(p:List Int)(hp:Pv p):W P (QhZ F) (Done [.t 2] [] (.bool true) []) (init [.lst 1 (QR p)]):=by
 refine QZ ?_
 obtain⟨hl,h⟩:=hp
 have g0:decide ((80:Int)<p.length)=false:=Qc (by omega)
 simp(disch:=omega)only[go_sem,g0]
 refine Q5 (fun i:Nat=>⟨[(0,.lst 1 (QR p)),(3,.int .i64 i)],[],0⟩) (fun i=>i≤p.length) (fun i=>p.length-i) 0 ?_ ?_ ?_
 ·simp(disch:=omega)only[go_sem]
  rfl
 ·simp
 ·intro i hi
  by_cases c:i<p.length
  ·obtain⟨⟨h1,h2⟩,h3⟩:=h i c
   have g1:decide ((i:Int)<p.length)=true:=Qd (by omega)
   have g2:decide (gt p i<0)=false:=Qc (by omega)
   have g3:decide ((i:Int)<gt p i)=false:=Qc (by omega)
   have g4:decide (gt p (gt p i)=gt p i)=true:=Qd h3
   simp(disch:=omega)only[go_sem,QhY,g1,g2,g3,g4]
   exact⟨i+1,by simp,by omega,by omega⟩
  ·have g1:decide ((i:Int)<p.length)=false:=Qc (by omega)
   simp(disch:=omega)only[go_sem,QhY,g1]
theorem QWt(hv:Qh3 P F)(p:List Int)(hp:Pv p):W P (Qh0 F) (Done [.t 2] [] (.int .i64 0) []) (init [.lst 1 (QR p)]):=by
 refine QZ ?_
 have r:=hv p hp
 obtain⟨hl,h⟩:=hp
 have g0:decide ((80:Int)<p.length)=false:=Qc (by omega)
 simp(disch:=omega)only[go_sem,g0]
 refine QT r ?_
 simp(disch:=omega)only[go_sem]
theorem QWu(ho:Qh4 P F)(p:List Int)(hp:Pv p):W P (Qh1 F) (Done [.t 2,.t 3,.t 4] [] (.tup [.arr 1 (QR (quo p p.length).1),.int .i64 (quo p p.length).2,.int .i64 0]) []) (init [.lst 1 (QR p)]):=by
 refine QZ ?_
 have r:=ho p hp
 obtain⟨hl,h⟩:=hp
 have ql:∀i:Nat,(quo p i).1.length=i∧(quo p i).2≤i:=fun i=>by
  induction i with
  |zero=>simp [quo]
  |succ i ih=>
   rw[quo]
   split<;>simp [ih.1]<;>omega
 simp(disch:=omega)only[go_sem]
 refine QT r ?_
 simp(disch:=omega)only[go_sem]
 refine Q5 (fun i:Nat=>⟨[(0,.lst 1 (QR p)),(6,.sl 0 0 i),(7,.int .i64 (quo p i).2),(8,.int .i64 i)],[(0,.arr 1 (QR (quo p i).1))],1⟩) (fun i=>i≤p.length) (fun i=>p.length-i) 0 ?_ ?_ ?_
 ·simp(disch:=omega)only[go_sem,Zc,quo]
  rfl
 ·simp
 ·intro i hi
  obtain⟨e1,e2⟩:=ql i
  have hs:quo p (i+1)=if gt p i=i then ((quo p i).1++[((quo p i).2:Int)],(quo p i).2+1) else ((quo p i).1++[gt (quo p i).1 (gt p i)],(quo p i).2):=rfl
  simp(disch:=omega)only[go_sem,Qt0]
  refine Q7 (fun c=>?_) (fun c=>?_)
  ·obtain⟨⟨h1,h2⟩,h3⟩:=h i (by omega)
   simp(disch:=omega)only[go_sem]
   refine Q7 (fun d=>?_) (fun d=>?_)
   ·rw[if_pos d] at hs
    simp(disch:=omega)only[go_sem,e1]
    exact⟨i+1,by simp [hs],by omega,by omega⟩
   ·rw[if_neg d] at hs
    simp(disch:=omega)only[go_sem,e1]
    exact⟨i+1,by simp [hs],by omega,by omega⟩
  ·obtain rfl:i=p.length:=by omega
   simp(disch:=omega)only[go_sem,e1]
end
def Qt2:LL:=[qn 2 1]
def Qt3:LL:=[qm 5 0,qQp 6 (.makeSl 1 8 (.int .i64 (0)) (.t 5)),qm 3 6]
def Qt4:LL:=[qm 7 3,qz 8 7,qi 9 0]
def Qt5:LL:=[qo .lss 10 9 8]
def Qt6:LL:=[qm 11 9,qm 4 11]
def Qt7:LL:=[qm 12 3,qm 13 4,qm 14 4,qd 15 1 12 13,qs 1 15 14]
def Qt8:LL:=[qk .add 16 9 1,qm 9 16]
def Qt9:LC:=QQ [.reg Qt5 [3,8,9,10],.cond (.t 10) .skip (.exit 0),.block 1 (QQ [.reg Qt6 [3,4,8,9],.reg Qt7 [3,8,9]]),.reg Qt8 [3,8,9]]
def Qua:LL:=[qm 17 3,qm 2 17]
def Qh5(F:Fn):LC:=QQ [.reg Qt2 [0],.reg Qt3 [3],QQ [.reg Qt4 [3,8,9],.block 0 (.loop [3,8,9] Qt9)],.reg Qua [2],.ret]
def Qub:LL:=[qB 1 0,qa 2 [.nl 1,.nl 1],qi 3 0]
def Quc(F:Fn):LL:=[qL 5 2 1,qc 6 (F "c") [.t 5],qm 4 6]
def Qud:LL:=[qm 7 4,qk .neq 8 7 0]
def Que:LL:=[qu 9 [.nl 1,.nl 1] [],qm 10 4,qs 2 2 9,qm 3 10]
def Quf(F:Fn):LL:=[qf 11 0 1,ql 12 1 11,qz 13 12,qc 14 (F "ag") [.t 13],qf 15 1 1,ql 16 1 15,qz 17 16,qc 18 (F "ag") [.t 17],qu 19 [.nl 1,.nl 1] [(0,1,.t 14),(1,1,.t 18)],qs 2 2 19,qi 3 0]
def Qh6(F:Fn):LC:=QQ [.reg Qub [1,2],QQ [.reg (Quc F) [1,2,4],.reg Qud [1,2,4,8],.cond (.t 8) (QQ [.reg Que [2,3],.ret]) .skip],.dreg [(3,none,[],true),(5,(some 16),[3],false)] (Quf F) [2,3],.ret]
def Qug:LL:=[qn 2 1]
def Quh:LL:=[qn 3 1]
def Qui:LL:=[qi 4 0]
def Quj:LL:=[qm 5 4,qm 6 0,qo .lss 7 5 6]
def Quk:LL:=[qm 10 3,qm 11 4,qQp 12 (.buildSl 1 8 (.int .i64 (0)) 1 [(0,.t 11)]),qp 13 1 8 10 12,qm 3 13]
def Qul:LL:=[qm 8 4,qk .add 9 8 1,qm 4 9]
def Qum:LC:=QQ [QQ [.reg Quj [0,3,4,7],.cond (.t 7) .skip (.exit 0)],.block 1 (.reg Quk [0,3,4]),.reg Qul [0,3,4]]
def Qun:LL:=[qm 14 3,qm 2 14]
def Qh7(F:Fn):LC:=QQ [.reg Qug [0],.reg Quh [0,3],QQ [.reg Qui [0,3,4],.block 0 (.loop [0,3,4] Qum)],.reg Qun [2],.ret]
def Quo:LL:=[qB 1 0,qa 2 [.nl 1,.nl 1]]
def Qup(F:Fn):LL:=[qf 3 0 1,ql 4 1 3,qz 5 4,qc 6 (F "F") [.t 5],qf 7 1 1,ql 8 1 7,qz 9 8,qc 10 (F "F") [.t 9],qu 11 [.nl 1,.nl 1] [(0,1,.t 6),(1,1,.t 10)],qs 2 2 11]
def Qh8(F:Fn):LC:=QQ [.reg Quo [1,2],.dreg [(3,none,[],true),(5,(some 16),[3],false)] (Qup F) [2],.ret]
def idE(g:G):Mo×Int:=if QX g≠0 then (m0,QX g) else (idM g,0)
attribute [go_sem] Qt2 Qt3 Qt4 Qt5 Qt6 Qt7 Qt8 Qua Qh5 Qub Quc Qud Que Quf Qh6 Qug Quh Qui Quj Quk Qul Qun Qh7 Quo Qup Qh8
section
variable (P:Program) (F:String→Nat)
def Qh9:Prop:=∀n:Nat,n≤1000000→FC P (F "ag") [.int .i64 n] (.arr 1 (QR (Xf 0 n))) []
def Qia:Prop:=∀g:G,FC P (F "bE") [gD g] (.tup [mA (idE g).1,.int .i64 (idE g).2]) []
def QcE:Prop:=∀n:Nat,n≤1000000→FC P (F "F") [.int .i64 n] (.arr 1 (QR (Xf 0 n))) []
def Qd5:Prop:=∀g:G,g.n.length≤1000000→g.e.length≤1000000→FC P (F "K") [gD g] (mA (idM g)) []
end
section
variable {P:Program} {F:String→Nat} {α:Type}
theorem Qib{α:Type}(l:List α)(x z:α)(m:Nat):(l++List.replicate (m+1) z).set l.length x=(l++[x])++List.replicate m z:=by
 rw[List.set_append_right _ _ (Qf _)]
 simp [List.replicate_succ]
theorem QWv(n:Nat)(hn:n≤1000000):W P (Qh5 F) (Done [.t 2] [] (.arr 1 (QR (Xf 0 n))) []) (init [.int .i64 n]):=by
 refine QZ ?_
 simp(config:={maxSteps:=1000000}) (disch:=first|omega|(simp only[go_sem];omega))only[go_sem]
 refine Q5 (fun i:Nat=>⟨[(3,.sl 0 0 n),(8,.int .i64 n),(9,.int .i64 i)],[(0,.arr 1 (QR (Xf 0 i++List.replicate (n-i) 0)))],1⟩) (fun i=>i≤n) (fun i=>n-i) 0 ?_ ?_ ?_
 ·simp(config:={maxSteps:=1000000}) (disch:=first|omega|(simp only[go_sem];omega))only[go_sem,Qcx]
  rfl
 ·omega
 ·intro i hi
  have hl:=Xh 0 i
  simp(config:={maxSteps:=1000000}) (disch:=first|omega|(simp only[go_sem];omega))only[go_sem,Qt9]
  refine Q7 (fun c=>?_) (fun c=>?_)
  ·have hf:(Xf 0 i++List.replicate (n-i) 0).set i (i:Int)=Xf 0 (i+1)++List.replicate (n-(i+1)) 0:=by
    have:=Qib (Xf 0 i) (i:Int) 0 (n-(i+1))
    rw[hl,show n-(i+1)+1=n-i by omega] at this
    rw[this,Qcw]
    simp
   simp(config:={maxSteps:=1000000}) (disch:=first|omega|(simp only[go_sem];omega))only[go_sem,hl,hf]
   exact⟨i+1,by simp,by omega,by omega⟩
  ·obtain rfl:i=n:=by omega
   simp(config:={maxSteps:=1000000}) (disch:=first|omega|(simp only[go_sem];omega))only[go_sem,hl]
   simp
theorem QWw(n:Nat)(h2:n≤1000000):W P (Qh7 F) (Done [.t 2] [] (.arr 1 (QR (Xf 0 n))) []) (init [.int .i64 n]):=by
 refine QZ ?_
 simp(disch:=omega)only[go_sem]
 refine Q5 (fun i:Nat=>⟨[(0,.int .i64 n),(3,.sl 0 0 i),(4,.int .i64 i)],[(0,.arr 1 (QR (Xf 0 i)))],1⟩) (fun i=>i≤n) (fun i=>n-i) 0 ?_ ?_ ?_
 ·simp(disch:=omega)only[go_sem,Qcx,Zc]
  rfl
 ·omega
 ·intro i hi
  have e1:=Xh 0 i
  simp(disch:=omega)only[go_sem,Qum]
  refine Q7 (fun a=>?_) (fun a=>?_)
  ·simp(disch:=omega)only[go_sem,e1]
   exact⟨i+1,by simp [Qcw],by omega,by omega⟩
  ·obtain rfl:i=n:=by omega
   simp(disch:=omega)only[go_sem,e1]
theorem QWx(hv:Qad P F)(hn:Qh9 P F)(g:G):W P (Qh6 F) (Done [.c 2 true 2,.t 3] [] (.tup [mA (idE g).1,.int .i64 (idE g).2]) []) (init [gD g]):=by
 refine QZ ?_
 have rv:=hv g
 have hs:=@Q8 g
 have hE:idE g=if QX g≠0 then (m0,QX g) else (idM g,0):=rfl
 generalize idE g=q at*
 generalize QX g=v at*
 obtain⟨gn,ge⟩:=g
 simp only[gD] at*
 simp(disch:=omega)only[go_sem]
 refine QT rv ?_
 simp(disch:=omega)only[go_sem]
 refine XX (fun c=>?_) (fun c=>?_)
 ·rw[if_pos c] at hE
  subst hE
  simp(disch:=omega)only[go_sem]
  first|rfl|done|simp [m0,mA,QR]
 ·subst c
  rw[if_neg (by simp)] at hE
  subst hE
  obtain⟨l1,l2,_⟩:=hs rfl
  have r1:=hn gn.length (by omega)
  have r2:=hn ge.length (by omega)
  simp(disch:=omega)only[go_sem]
  refine QT r1 ?_
  simp(disch:=omega)only[go_sem]
  refine QT r2 ?_
  simp(disch:=omega)only[go_sem]
  try simp [idM,mA]
theorem QWy(hn:QcE P F)(g:G)(h1:g.n.length≤1000000)(h2:g.e.length≤1000000):W P (Qh8 F) (Done [.c 2 true 2] [] (mA (idM g)) []) (init [gD g]):=by
 refine QZ ?_
 obtain⟨gn,ge⟩:=g
 simp only at h1 h2
 have r1:=hn gn.length (by omega)
 have r2:=hn ge.length (by omega)
 simp only[gD]
 simp(disch:=omega)only[go_sem]
 refine QT r1 ?_
 simp(disch:=omega)only[go_sem]
 refine QT r2 ?_
 simp(disch:=omega)only[go_sem]
 simp [idM,mA]
end
def X3(n:Nat)(l:List Pr):Nat→List Int
 |0=>Xf 0 n
 |i+1=>Yq (X3 n l i) (gt l i).a (gt l i).b
def X6(n:Nat)(l:List Pr):List Int:=X3 n l l.length
def Zv(n:Nat)(l:List Pr):Prop:=∀i:Nat,i<l.length→(0≤(gt l i).a∧(gt l i).a<n)∧(0≤(gt l i).b∧(gt l i).b<n)
structure Fo(p r:List Int):Prop where
 l:p.length=r.length
 b:∀i:Nat,i<p.length→0≤gt p i∧gt p i≤i
 s:∀i:Nat,i<p.length→gt r (gt p i)=gt r i
 t:∀i:Nat,i<p.length→gt p i=i→gt r i=i
 c:∀i:Nat,i<p.length→(0≤gt r i∧gt r i≤i)∧gt p (gt r i)=gt r i
def YR(p:List Int):Prop:=∀i:Nat,i<p.length→(0≤gt p i∧gt p i≤i)∧gt p (gt p i)=gt p i
def qN{α:Type}[Inhabited α](l:List α)(p:List Int):Nat→List α
 |0=>[]
 |i+1=>if gt p i=i then qN l p i++[gt l i] else qN l p i
def XR{α:Type}[Inhabited α](l:List α)(q:List Int)(z:List α):Nat→List α
 |0=>z
 |i+1=>(XR l q z i).set (gt q i).toNat (gt l i)
section
theorem Ye{x:Int}(h:0≤x):∃k:Nat,x=(k:Int):=⟨x.toNat,by omega⟩
theorem QbM{p:List Int}{a b:Int}{i:Nat}(hi:i<p.length):gt (Yq p a b) i=if gt p i=max (gt p a) (gt p b) then min (gt p a) (gt p b) else gt p i:=by
 unfold Yq
 rw[Xc (by simpa using hi),Xc hi]
 simp
theorem Fo.idem{p r:List Int}(h:Fo p r):YR r:=fun i hi=>by
 obtain⟨h1,h3⟩:=h.c i (by have:=h.l;omega)
 refine⟨h1,?_⟩
 obtain⟨k,hk⟩:=Ye h1.1
 rw[hk] at h1 h3 ⊢
 exact h.t k (by have:=h.l;omega) h3
theorem Quq(n:Nat):Fo (Xf 0 n) (Xf 0 n):=by
 refine⟨rfl,fun i hi=>?_,fun i hi=>?_,fun i hi _=>?_,fun i hi=>?_⟩<;>rw[Xh] at hi
 ·rw[XN hi];omega
 ·rw[XN hi];exact XN hi
 ·exact XN hi
 ·rw[XN hi];exact⟨by omega,XN hi⟩
theorem Fo.unite{p r:List Int}(h:Fo p r){a b:Nat}(ha:a<p.length)(hb:b<p.length):
  Fo (p.set (max (gt r a) (gt r b)).toNat (min (gt r a) (gt r b))) (Yq r a b):=by
 have hl:=h.l
 obtain⟨⟨a1,a2⟩,a3⟩:=h.c a ha
 obtain⟨⟨b1,b2⟩,b3⟩:=h.c b hb
 have ia:=(h.idem a (by omega)).2
 have ib:=(h.idem b (by omega)).2
 have hg:∀i:Nat,i<p.length→gt (Yq r a b) i=if gt r i=max (gt r a) (gt r b) then min (gt r a) (gt r b) else gt r i:=fun i hi=>QbM (by omega)
 have hm:(Yq r a b).length=p.length:=by rw[Qd0,hl]
 have l1:gt r (min (gt r a) (gt r b))=min (gt r a) (gt r b)∧gt p (min (gt r a) (gt r b))=min (gt r a) (gt r b):=by
  by_cases c:gt r a≤gt r b
  ·rw[Int.min_eq_left c];exact⟨ia,a3⟩
  ·rw[Int.min_eq_right (by omega)];exact⟨ib,b3⟩
 have h1:gt r (max (gt r a) (gt r b))=max (gt r a) (gt r b)∧gt p (max (gt r a) (gt r b))=max (gt r a) (gt r b):=by
  by_cases c:gt r a≤gt r b
  ·rw[Int.max_eq_right c];exact⟨ib,b3⟩
  ·rw[Int.max_eq_left (by omega)];exact⟨ia,a3⟩
 obtain⟨lo,hlo⟩:=Ye (x:=min (gt r a) (gt r b)) (by omega)
 obtain⟨hi,hhi⟩:=Ye (x:=max (gt r a) (gt r b)) (by omega)
 have hle:lo≤hi:=by omega
 have hlt:hi<p.length:=by omega
 rw[hlo] at l1
 rw[hhi] at h1
 rw[hlo,hhi,Int.toNat_natCast]
 simp only[hlo,hhi] at hg
 generalize Yq r a b=r' at*
 have hp:∀i:Nat,i<p.length→gt (p.set hi (lo:Int)) i=if hi=i then (lo:Int) else gt p i:=fun i hi'=>QhU hi'
 refine⟨by simp [hm],fun i hi'=>?_,fun i hi'=>?_,fun i hi'=>?_,fun i hi'=>?_⟩<;>rw[QJ] at hi'
 ·rw[hp i hi']
  split
  ·omega
  ·exact h.b i hi'
 ·rw[hp i hi']
  split
  ·rename_i e;subst e
   rw[hg lo (by omega),hg hi hlt,l1.1,h1.1,if_pos rfl]
   split<;>rfl
  ·have hb':=h.b i hi'
   have hs:=h.s i hi'
   obtain⟨k,hk⟩:=Ye hb'.1
   rw[hk] at hs hb' ⊢
   rw[hg k (by omega),hg i hi',hs]
 ·rw[hp i hi',hg i hi']
  split
  ·rename_i e;subst e
   intro e
   rw[h1.1,if_pos rfl];exact e
  ·rename_i e
   intro e2
   rw[h.t i hi' e2,if_neg (by omega)]
 ·obtain⟨⟨c1,c2⟩,c3⟩:=h.c i hi'
  rw[hg i hi']
  split
  ·refine⟨by omega,?_⟩
   rw[hp lo (by omega),l1.2]
   split<;>rfl
  ·rename_i e
   refine⟨⟨c1,c2⟩,?_⟩
   obtain⟨k,hk⟩:=Ye c1
   rw[hk] at c2 c3 e ⊢
   rw[hp k (by omega),if_neg (by omega)]
   exact c3
theorem Fo.flat{p r:List Int}(h:Fo p r){i:Nat}(hi:i<p.length):Fo (p.set i (gt r i)) r:=by
 obtain⟨⟨c1,c2⟩,c3⟩:=h.c i hi
 have hid:=(h.idem i (by have:=h.l;omega)).2
 have hp:∀k:Nat,k<p.length→gt (p.set i (gt r i)) k=if i=k then gt r i else gt p k:=fun k hk=>QhU hk
 refine⟨by simp [h.l],fun k hk=>?_,fun k hk=>?_,fun k hk=>?_,fun k hk=>?_⟩<;>rw[QJ] at hk
 ·rw[hp k hk]
  split
  ·omega
  ·exact h.b k hk
 ·rw[hp k hk]
  split
  ·rename_i e;subst e;exact hid
  ·exact h.s k hk
 ·rw[hp k hk]
  split
  ·rename_i e;subst e;exact id
  ·exact h.t k hk
 ·obtain⟨⟨d1,d2⟩,d3⟩:=h.c k hk
  refine⟨⟨d1,d2⟩,?_⟩
  have he:=(h.idem k (by have:=h.l;omega)).2
  obtain⟨m,hm⟩:=Ye d1
  rw[hm] at d2 d3 he ⊢
  rw[hp m (by omega)]
  split
  ·rename_i e;subst e;exact he
  ·exact d3
theorem Qur{n:Nat}{l:List Pr}(hl:Zv n l):∀i:Nat,i≤l.length→∃p,Fo p (X3 n l i)∧p.length=n
 |0,_=>⟨_,Quq n,Xh 0 n⟩
 |i+1,hi=>by
  obtain⟨p,h1,h2⟩:=Qur hl i (by omega)
  obtain⟨⟨a1,a2⟩,b1,b2⟩:=hl i (by omega)
  obtain⟨a,ha⟩:=Ye a1
  obtain⟨b,hb⟩:=Ye b1
  rw[X3,ha,hb]
  exact⟨_,h1.unite (a:=a) (b:=b) (by omega) (by omega),by rw[QJ,h2]⟩
theorem Qah{n:Nat}{l:List Pr}:∀i:Nat,(X3 n l i).length=n
 |0=>Xh 0 n
 |i+1=>by rw[X3,Qd0,Qah i]
theorem Qd6{n:Nat}{l:List Pr}(hl:Zv n l){i:Nat}(hi:i≤l.length):YR (X3 n l i):=
 let ⟨_,h,_⟩:=Qur hl i hi;h.idem
theorem QWz{p:List Int}{a b:Int}{x y:Nat}(hx:x<p.length)(hy:y<p.length)(h:gt p x=gt p y):gt (Yq p a b) x=gt (Yq p a b) y:=by
 rw[QbM hx,QbM hy,h]
theorem QWA{p:List Int}{a b:Nat}(ha:a<p.length)(hb:b<p.length):gt (Yq p a b) a=gt (Yq p a b) b:=by
 rw[QbM ha,QbM hb]
 by_cases c:gt p a≤gt p b
 ·rw[Int.max_eq_right c,Int.min_eq_left c,if_pos rfl]
  split<;>rfl
 ·rw[Int.max_eq_left (by omega),Int.min_eq_right (by omega),if_pos rfl]
  split<;>rfl
theorem Qic{n:Nat}{l:List Pr}(hl:Zv n l):∀i:Nat,i≤l.length→∀k:Nat,k<i→gt (X3 n l i) (gt l k).a=gt (X3 n l i) (gt l k).b
 |0,_,k,hk=>by omega
 |i+1,hi,k,hk=>by
  have gl:=Qah (n:=n) (l:=l) i
  obtain⟨⟨a1,a2⟩,b1,b2⟩:=hl k (by omega)
  rw[X3]
  by_cases c:k=i
  ·subst c
   obtain⟨a,ha⟩:=Ye a1
   obtain⟨b,hb⟩:=Ye b1
   rw[ha,hb]
   exact QWA (by omega) (by omega)
  ·have ih:=Qic hl i (by omega) k (by omega)
   obtain⟨a,ha⟩:=Ye a1
   obtain⟨b,hb⟩:=Ye b1
   rw[ha,hb] at ih ⊢
   exact QWz (by omega) (by omega) ih
theorem QcF{β:Type}{φ:Int→β}{n:Nat}{l:List Pr}(hl:Zv n l)(hf:∀i:Nat,i<l.length→φ (gt l i).a=φ (gt l i).b):∀i:Nat,i≤l.length→∀k:Nat,k<n→φ (gt (X3 n l i) k)=φ k
 |0,_,k,hk=>by rw[X3,XN hk]
 |i+1,hi,k,hk=>by
  have gl:=Qah (n:=n) (l:=l) i
  obtain⟨⟨a1,a2⟩,b1,b2⟩:=hl i (by omega)
  have ih:=QcF hl hf i (by omega)
  have he:=hf i (by omega)
  obtain⟨a,ha⟩:=Ye a1
  obtain⟨b,hb⟩:=Ye b1
  rw[X3,ha,hb,QbM (by omega)]
  rw[ha,hb] at he
  have ea:=ih a (by omega)
  have eb:=ih b (by omega)
  have ek:=ih k hk
  by_cases c:gt (X3 n l i) a≤gt (X3 n l i) b
  ·rw[Int.max_eq_right c,Int.min_eq_left c]
   split
   ·rename_i e
    rw[ea,he,←eb,←e,ek]
   ·exact ek
  ·rw[Int.max_eq_left (by omega),Int.min_eq_right (by omega)]
   split
   ·rename_i e
    rw[eb,←he,←ea,←e,ek]
   ·exact ek
structure QS(p:List Int)(n:Nat)(s:List Int×Nat):Prop where
 l:s.1.length=n
 c:s.2≤n
 b:∀i:Nat,i<n→0≤gt s.1 i∧gt s.1 i<s.2
 r:∀i:Nat,i<n→gt s.1 (gt p i)=gt s.1 i
 j:∀i k:Nat,i<n→k<n→gt p i=i→gt p k=k→gt s.1 i=gt s.1 k→i=k
 s:∀k:Nat,k<s.2→∃i:Nat,i<n∧gt p i=i∧gt s.1 i=k
theorem Zi{p:List Int}(hp:YR p):∀n:Nat,n≤p.length→QS p n (quo p n)
 |0,_=>⟨rfl,Qf _,fun i hi=>by omega,fun i hi=>by omega,fun i k hi=>by omega,fun k hk=>by simp [quo] at hk⟩
 |n+1,hn=>by
  obtain⟨h1,h2,h3,h4,h5,h6⟩:=Zi hp n (by omega)
  obtain⟨⟨p1,p2⟩,p3⟩:=hp n (by omega)
  rw[quo]
  generalize quo p n=s at*
  obtain⟨q,c⟩:=s
  simp only at h1 h2 h3 h4 h5 h6 ⊢
  split
  ·rename_i e
   have hq:∀i:Nat,i<n→gt (q++[(c:Int)]) i=gt q i:=fun i hi=>Y1 (by omega)
   have hn:gt (q++[(c:Int)]) n=c:=Z8 h1.symm
   refine⟨by simp [h1],by simp only;omega,fun i hi=>?_,fun i hi=>?_,fun i k hi hk ei ek he=>?_,fun k hk=>?_⟩<;>simp only at*
   ·by_cases x:i=n
    ·subst x;rw[hn];omega
    ·rw[hq i (by omega)];have:=h3 i (by omega);omega
   ·by_cases x:i=n
    ·subst x;rw[e]
    ·obtain⟨⟨a1,a2⟩,a3⟩:=hp i (by omega)
     have ih:=h4 i (by omega)
     obtain⟨m,hm⟩:=Ye a1
     rw[hm] at a2 ih ⊢
     rw[hq m (by omega),hq i (by omega),ih]
   ·by_cases x:i=n
    ·by_cases y:k=n
     ·omega
     ·subst x;rw[hn,hq k (by omega)] at he
      have:=h3 k (by omega);omega
    ·by_cases y:k=n
     ·subst y;rw[hn,hq i (by omega)] at he
      have:=h3 i (by omega);omega
     ·rw[hq i (by omega),hq k (by omega)] at he
      exact h5 i k (by omega) (by omega) ei ek he
   ·by_cases x:k=c
    ·subst x;exact⟨n,by omega,e,hn⟩
    ·obtain⟨i,i1,i2,i3⟩:=h6 k (by omega)
     exact⟨i,by omega,i2,by rw[hq i i1,i3]⟩
  ·rename_i e
   obtain⟨m,hm⟩:=Ye p1
   rw[hm] at p2 p3 e ⊢
   have hq:∀i:Nat,i<n→gt (q++[gt q m]) i=gt q i:=fun i hi=>Y1 (by omega)
   have hn:gt (q++[gt q m]) n=gt q m:=Z8 h1.symm
   refine⟨by simp [h1],by simp only;omega,fun i hi=>?_,fun i hi=>?_,fun i k hi hk ei ek he=>?_,fun k hk=>?_⟩<;>simp only at*
   ·by_cases x:i=n
    ·subst x;rw[hn];exact h3 m (by omega)
    ·rw[hq i (by omega)];exact h3 i (by omega)
   ·by_cases x:i=n
    ·subst x;rw[hm,hn,hq m (by omega)]
    ·obtain⟨⟨a1,a2⟩,a3⟩:=hp i (by omega)
     have ih:=h4 i (by omega)
     obtain⟨m',hm'⟩:=Ye a1
     rw[hm'] at a2 ih ⊢
     rw[hq m' (by omega),hq i (by omega),ih]
   ·have x:i≠n:=fun x=>by subst x;omega
    have y:k≠n:=fun x=>by subst x;omega
    rw[hq i (by omega),hq k (by omega)] at he
    exact h5 i k (by omega) (by omega) ei ek he
   ·obtain⟨i,i1,i2,i3⟩:=h6 k hk
    exact⟨i,by omega,i2,by rw[hq i i1,i3]⟩
theorem QS.iff{p:List Int}{n:Nat}{s:List Int×Nat}(hp:YR p)(hn:n≤p.length)(h:QS p n s){i k:Nat}(hi:i<n)(hk:k<n):gt s.1 i=gt s.1 k↔gt p i=gt p k:=by
 obtain⟨⟨a1,a2⟩,a3⟩:=hp i (by omega)
 obtain⟨⟨b1,b2⟩,b3⟩:=hp k (by omega)
 have hi':=h.r i hi
 have hk':=h.r k hk
 obtain⟨x,hx⟩:=Ye a1
 obtain⟨y,hy⟩:=Ye b1
 rw[hx] at a2 a3 hi' ⊢
 rw[hy] at b2 b3 hk' ⊢
 constructor
 ·intro e
  have:=h.j x y (by omega) (by omega) a3 b3 (by rw[hi',hk',e])
  rw[this]
 ·intro e
  rw[←hi',←hk',e]
theorem ZI{α:Type}[Inhabited α](l:List α)(p:List Int):∀n:Nat,(qN l p n).length=(quo p n).2
 |0=>rfl
 |n+1=>by
  rw[qN,quo]
  split
  ·rw[Ql,ZI l p n];rfl
  ·exact ZI l p n
theorem Qid{α:Type}[Inhabited α](l:List α){p:List Int}(hp:YR p):∀n:Nat,n≤p.length→∀i:Nat,i<n→gt p i=i→gt (qN l p n) (gt (quo p n).1 i)=gt l i
 |0,_,i,hi,_=>by omega
 |n+1,hn,i,hi,e=>by
  have hs:=Zi hp n (by omega)
  have hl:=ZI l p n
  rw[qN,quo]
  by_cases c:gt p n=n
  ·rw[if_pos c,if_pos c]
   simp only
   by_cases x:i=n
   ·subst x
    rw[Z8 hs.l.symm,←hl,Z8 rfl]
   ·rw[Y1 (by have:=hs.l;omega)]
    obtain⟨b1,b2⟩:=hs.b i (by omega)
    have ih:=Qid l hp n (by omega) i (by omega) e
    obtain⟨m,hm⟩:=Ye b1
    rw[hm] at b2 ih ⊢
    rw[Y1 (by omega),ih]
  ·rw[if_neg c,if_neg c]
   simp only
   have x:i≠n:=fun x=>by subst x;exact c e
   rw[Y1 (by have:=hs.l;omega)]
   exact Qid l hp n (by omega) i (by omega) e
theorem QbN{α:Type}[Inhabited α]{l:List α}{p:List Int}(hp:YR p){n:Nat}(hn:n≤p.length)(hl:∀i:Nat,i<n→gt l (gt p i)=gt l i){i:Nat}(hi:i<n):gt (qN l p n) (gt (quo p n).1 i)=gt l i:=by
 have hs:=Zi hp n hn
 obtain⟨⟨a1,a2⟩,a3⟩:=hp i (by omega)
 have h1:=hs.r i hi
 have h2:=hl i hi
 obtain⟨k,hk⟩:=Ye a1
 rw[hk] at a2 a3 h1 h2
 rw[←h1,Qid l hp n hn k (by omega) a3,h2]
theorem Qie{α:Type}[Inhabited α]{l:List α}{p:List Int}:∀{n:Nat},n≤l.length→∀x∈qN l p n,x∈l
 |0,_,x,hx=>by simp [qN] at hx
 |n+1,hn,x,hx=>by
  rw[qN] at hx
  split at hx
  ·rcases Qg.1 hx with hx|hx
   ·exact Qie (by omega) x hx
   ·rw[Qn] at hx
    rw[hx];exact gt_mem (by omega) (by omega)
  ·exact Qie (by omega) x hx
theorem Z9{α:Type}[Inhabited α](l:List α)(q:List Int)(z:List α):∀i:Nat,(XR l q z i).length=z.length
 |0=>rfl
 |i+1=>by rw[XR,QJ,Z9 l q z i]
theorem Y2{α:Type}[Inhabited α]{l:List α}{k i:Nat}{v:α}(hi:i<l.length):gt (l.set k v) i=if k=i then v else gt l i:=by
 rw[Xc (by simpa using hi),Xc hi,List.getElem_set]
theorem Qd7{α:Type}[Inhabited α]{l:List α}{q:List Int}{z w:List α}:∀{n:Nat},(∀i:Nat,i<n→0≤gt q i∧gt w (gt q i)=gt l i)→∀k:Nat,k<z.length→
  gt (XR l q z n) k=gt w k∨(gt (XR l q z n) k=gt z k∧∀i:Nat,i<n→gt q i≠k)
 |0,_,k,hk=>.inr ⟨rfl,fun i hi=>by omega⟩
 |n+1,h,k,hk=>by
  have ih:=Qd7 (z:=z) (n:=n) (fun i hi=>h i (by omega)) k hk
  obtain⟨h1,h2⟩:=h n (by omega)
  rw[XR,Y2 (by rw[Z9];exact hk)]
  by_cases c:(gt q n).toNat=k
  ·rw[if_pos c]
   refine .inl ?_
   rw[←h2,show gt q n=(k:Int) by omega]
  ·rw[if_neg c]
   refine ih.imp id fun⟨i1,i2⟩=>⟨i1,fun i hi=>?_⟩
   by_cases x:i=n
   ·subst x;omega
   ·exact i2 i (by omega)
theorem Qus{α:Type}[Inhabited α]{l:List α}{q:List Int}{z w:List α}{n:Nat}(hz:z.length=w.length)(h:∀i:Nat,i<n→0≤gt q i∧gt w (gt q i)=gt l i)(hc:∀k:Nat,k<w.length→∃i:Nat,i<n∧gt q i=k):XR l q z n=w:=by
 refine Yd (by rw[Z9,hz]) fun k hk=>?_
 rw[Z9] at hk
 rcases Qd7 h k hk with e|⟨_,e⟩
 ·exact e
 ·obtain⟨i,hi,hi2⟩:=hc k (by omega)
  exact absurd hi2 (e i hi)
end
def reE(q:List Int)(es:List E):List E:=es.map fun x=>⟨x.t,gt q x.f,gt q x.o⟩
def Yl(g:G)(p r:List Int):G:=⟨qN g.n p p.length,qN (reE (quo p p.length).1 g.e) r r.length⟩
def XU(p r:List Int):Mo:=⟨(quo p p.length).1,(quo r r.length).1⟩
structure Cong(g:G)(p r:List Int):Prop where
 pl:p.length=g.n.length
 rl:r.length=g.e.length
 ph:YR p
 rh:YR r
 pt:∀i:Nat,i<p.length→gt g.n (gt p i)=gt g.n i
 rt:∀i:Nat,i<r.length→gt (reE (quo p p.length).1 g.e) (gt r i)=gt (reE (quo p p.length).1 g.e) i
def prL(f h:List Int)(n:Nat):List Pr:=(List.range n).map fun i:Nat=>⟨gt f i,gt h i⟩
def YS(g:G)(f h:Mo):List Int:=X6 g.n.length (prL f.n h.n f.n.length)
def Ja(g:G)(f h:Mo):List Int:=X6 g.e.length (prL f.e h.e f.e.length)
def Js(g:G)(f h:Mo):G:=Yl g (YS g f h) (Ja g f h)
def ZX(g:G)(f h:Mo):Mo:=XU (YS g f h) (Ja g f h)
section
theorem QWB(q:List Int)(es:List E):(reE q es).length=es.length:=by simp [reE]
theorem QcG{q:List Int}{es:List E}{i:Nat}(h:i<es.length):gt (reE q es) i=⟨(gt es i).t,gt q (gt es i).f,gt q (gt es i).o⟩:=by
 unfold reE
 rw[JZ h]
theorem ZY(f h:List Int)(n:Nat):(prL f h n).length=n:=by simp [prL]
theorem Qut(f h:List Int)(n:Nat):prL f h (n+1)=prL f h n++[⟨gt f n,gt h n⟩]:=by simp [prL,List.range_succ]
theorem QbO{f h:List Int}{n i:Nat}(hi:i<n):gt (prL f h n) i=⟨gt f i,gt h i⟩:=by
 unfold prL
 rw[Xc (by simp;exact hi)]
 simp
theorem Qd8{p:List Int}(hp:YR p):(quo p p.length).1.length=p.length:=(Zi hp _ (Qf _)).l
theorem Cong.node{g:G}{p r:List Int}(h:Cong g p r){i:Nat}(hi:i<g.n.length):(0≤gt (XU p r).n i∧gt (XU p r).n i<(Yl g p r).n.length)∧gt (Yl g p r).n (gt (XU p r).n i)=gt g.n i:=by
 have hs:=Zi h.ph _ (Qf _)
 have hpl:=h.pl
 refine⟨?_,?_⟩
 ·simp only[XU,Yl,ZI]
  exact hs.b i (by omega)
 ·exact QbN h.ph (Qf _) h.pt (by omega)
theorem Cong.edge{g:G}{p r:List Int}(h:Cong g p r){i:Nat}(hi:i<g.e.length):(0≤gt (XU p r).e i∧gt (XU p r).e i<(Yl g p r).e.length)∧gt (Yl g p r).e (gt (XU p r).e i)=⟨(gt g.e i).t,gt (XU p r).n (gt g.e i).f,gt (XU p r).n (gt g.e i).o⟩:=by
 have hs:=Zi h.rh _ (Qf _)
 have hrl:=h.rl
 refine⟨?_,?_⟩
 ·simp only[XU,Yl,ZI]
  exact hs.b i (by omega)
 ·have:=QbN h.rh (Qf _) h.rt (show i<r.length by omega)
  simp only[XU,Yl]
  rw[this,QcG hi]
theorem Cong.surN{g:G}{p r:List Int}(h:Cong g p r){k:Nat}(hk:k<(Yl g p r).n.length):∃i:Nat,i<g.n.length∧gt p i=i∧gt (XU p r).n i=k:=by
 have hs:=Zi h.ph _ (Qf _)
 simp only[Yl,ZI] at hk
 obtain⟨i,h1,h2,h3⟩:=hs.s k hk
 exact⟨i,by rw[←h.pl];exact h1,h2,h3⟩
theorem Cong.surE{g:G}{p r:List Int}(h:Cong g p r){k:Nat}(hk:k<(Yl g p r).e.length):∃i:Nat,i<g.e.length∧gt r i=i∧gt (XU p r).e i=k:=by
 have hs:=Zi h.rh _ (Qf _)
 simp only[Yl,ZI] at hk
 obtain⟨i,h1,h2,h3⟩:=hs.s k hk
 exact⟨i,by rw[←h.rl];exact h1,h2,h3⟩
theorem Cong.ok{g:G}{p r:List Int}(hv:QX g=0)(h:Cong g p r):MOk g (Yl g p r) (XU p r):=by
 have vs:=Q8 hv
 have h1:=Zi h.ph _ (Qf _)
 have h2:=Zi h.rh _ (Qf _)
 have hpl:=h.pl
 have hrl:=h.rl
 refine⟨hv,Qa4 ?_ ?_ (fun y hy=>?_) (fun y hy=>?_),?_,?_,fun i hi=>h.node hi,fun i hi=>?_⟩
 ·simp only[Yl,ZI];have:=h1.c;omega
 ·simp only[Yl,ZI];have:=h2.c;omega
 ·exact vs.2.2.1 y (Qie (by omega) y hy)
 ·obtain⟨k,hk,hk2⟩:=X2 hy
  obtain⟨i,hi,_,hi2⟩:=h.surE hk
  have he:=(h.edge hi).2
  rw[hi2,hk2] at he
  rw[he]
  obtain⟨t1,t2,t3⟩:=Zt hv (i:=i) (by omega)
  obtain⟨a,ha,ha2⟩:=gtI t2
  obtain⟨b,hb,hb2⟩:=gtI t3
  rw[ha2,hb2]
  exact Jr t1 (h.node ha).1 (h.node hb).1
 ·simp only[XU];rw[h1.l,hpl]
 ·simp only[XU];rw[h2.l,hrl]
 ·obtain⟨e1,e2⟩:=h.edge hi
  refine⟨e1,?_⟩
  rw[e2]
  exact⟨rfl,rfl,rfl⟩
theorem Cong.iffN{g:G}{p r:List Int}(h:Cong g p r){i k:Nat}(hi:i<g.n.length)(hk:k<g.n.length):gt (XU p r).n i=gt (XU p r).n k↔gt p i=gt p k:=
 (Zi h.ph _ (Qf _)).iff h.ph (Qf _) (by rw[h.pl];exact hi) (by rw[h.pl];exact hk)
theorem Cong.iffE{g:G}{p r:List Int}(h:Cong g p r){i k:Nat}(hi:i<g.e.length)(hk:k<g.e.length):gt (XU p r).e i=gt (XU p r).e k↔gt r i=gt r k:=
 (Zi h.rh _ (Qf _)).iff h.rh (Qf _) (by rw[h.rl];exact hi) (by rw[h.rl];exact hk)
theorem Cong.univ{g x:G}{p r:List Int}{k:Mo}(h:Cong g p r)(hk:MOk g x k)(h1:∀i:Nat,i<g.n.length→gt k.n (gt p i)=gt k.n i)(h2:∀i:Nat,i<g.e.length→gt k.e (gt r i)=gt k.e i):
  ∃u,MOk (Yl g p r) x u∧QY (XU p r) u=k:=by
 have hq:=h.ok hk.va
 have hpl:=h.pl
 have hrl:=h.rl
 have ln:=hk.ln
 have le:=hk.le
 have un:∀i:Nat,i<g.n.length→gt (qN k.n p p.length) (gt (XU p r).n i)=gt k.n i:=fun i hi=>QbN h.ph (Qf _) (fun i hi=>h1 i (by omega)) (by omega)
 have ue:∀i:Nat,i<g.e.length→gt (qN k.e r r.length) (gt (XU p r).e i)=gt k.e i:=fun i hi=>QbN h.rh (Qf _) (fun i hi=>h2 i (by omega)) (by omega)
 refine⟨⟨qN k.n p p.length,qN k.e r r.length⟩,⟨hq.vb,hk.vb,by simp only[Yl,ZI],by simp only[Yl,ZI],fun j hj=>?_,fun j hj=>?_⟩,?_⟩
 ·obtain⟨i,hi,_,hi2⟩:=h.surN hj
  have e1:=un i hi
  have e2:=(h.node hi).2
  rw[hi2] at e1 e2
  simp only
  rw[e1,e2]
  exact hk.nd i hi
 ·obtain⟨i,hi,_,hi2⟩:=h.surE hj
  have e1:=ue i hi
  have e2:=(h.edge hi).2
  rw[hi2] at e1 e2
  simp only
  rw[e1,e2]
  obtain⟨_,t2,t3⟩:=Zt hk.va (i:=i) (by omega)
  obtain⟨a,ha,ha2⟩:=gtI t2
  obtain⟨b,hb,hb2⟩:=gtI t3
  obtain⟨k1,k2,k3,k4⟩:=hk.ed i hi
  refine⟨k1,k2,?_,?_⟩
  ·simp only;rw[ha2,un a ha,←ha2];exact k3
  ·simp only;rw[hb2,un b hb,←hb2];exact k4
 ·have e:∀a b c d:List Int,a=c→b=d→(⟨a,b⟩:Mo)=⟨c,d⟩:=fun _ _ _ _ h1 h2=>by rw[h1,h2]
  refine e _ _ _ _ (Yd ?_ fun i hi=>?_) (Yd ?_ fun i hi=>?_)
  ·rw[Xp];simp only[XU];rw[Qd8 h.ph];omega
  ·rw[Xp] at hi
   rw[Xi hi]
   refine un i ?_
   simp only[XU] at hi;rw[Qd8 h.ph] at hi;omega
  ·rw[Xp];simp only[XU];rw[Qd8 h.rh];omega
  ·rw[Xp] at hi
   rw[Xi hi]
   refine ue i ?_
   simp only[XU] at hi;rw[Qd8 h.rh] at hi;omega
theorem Quu{f h:List Int}{m:Nat}(hl:h.length=f.length)(h1:∀x∈f,0≤x∧x<m)(h2:∀x∈h,0≤x∧x<m):Zv m (prL f h f.length):=fun i hi=>by
 rw[ZY] at hi
 rw[QbO hi]
 exact⟨h1 _ (gt_mem (by omega) (by omega)),h2 _ (gt_mem (by omega) (by omega))⟩
section
variable {a g:G} {f h:Mo}
theorem QbP(hf:MOk a g f)(hh:MOk a g h):Zv g.n.length (prL f.n h.n f.n.length):=by
 have bf:=(Z6 (mok.2 hf)).1
 have bh:=(Z6 (mok.2 hh)).1
 exact Quu (by rw[hf.ln,hh.ln]) bf bh
theorem QbQ(hf:MOk a g f)(hh:MOk a g h):Zv g.e.length (prL f.e h.e f.e.length):=by
 have bf:=(Z6 (mok.2 hf)).2
 have bh:=(Z6 (mok.2 hh)).2
 exact Quu (by rw[hf.le,hh.le]) bf bh
theorem QcH:(YS g f h).length=g.n.length:=Qah _
theorem Qif:(Ja g f h).length=g.e.length:=Qah _
theorem Qd9{β:Type}{φ:Int→β}(hf:MOk a g f)(hh:MOk a g h)(e:∀i:Nat,i<a.n.length→φ (gt f.n i)=φ (gt h.n i)){k:Nat}(hk:k<g.n.length):φ (gt (YS g f h) k)=φ k:=by
 refine QcF (QbP hf hh) (fun i hi=>?_) _ (Qf _) k hk
 rw[ZY] at hi
 rw[QbO hi]
 exact e i (by rw[←hf.ln];exact hi)
theorem Qea{β:Type}{φ:Int→β}(hf:MOk a g f)(hh:MOk a g h)(e:∀i:Nat,i<a.e.length→φ (gt f.e i)=φ (gt h.e i)){k:Nat}(hk:k<g.e.length):φ (gt (Ja g f h) k)=φ k:=by
 refine QcF (QbQ hf hh) (fun i hi=>?_) _ (Qf _) k hk
 rw[ZY] at hi
 rw[QbO hi]
 exact e i (by rw[←hf.le];exact hi)
theorem Quv(hf:MOk a g f)(hh:MOk a g h){i:Nat}(hi:i<a.n.length):gt (YS g f h) (gt f.n i)=gt (YS g f h) (gt h.n i):=by
 have ln:=hf.ln
 have:=Qic (QbP hf hh) _ (Qf _) i (by rw[ZY];omega)
 rw[QbO (by omega)] at this
 exact this
theorem QWC(hf:MOk a g f)(hh:MOk a g h){i:Nat}(hi:i<a.e.length):gt (Ja g f h) (gt f.e i)=gt (Ja g f h) (gt h.e i):=by
 have ln:=hf.le
 have:=Qic (QbQ hf hh) _ (Qf _) i (by rw[ZY];omega)
 rw[QbO (by omega)] at this
 exact this
theorem J3(hf:MOk a g f)(hh:MOk a g h):Cong g (YS g f h) (Ja g f h):=by
 have ip:YR (YS g f h):=Qd6 (QbP hf hh) (Qf _)
 have ir:YR (Ja g f h):=Qd6 (QbQ hf hh) (Qf _)
 refine⟨QcH,Qif,ip,ir,fun i hi=>?_,fun i hi=>?_⟩
 ·rw[QcH] at hi
  exact Qd9 (φ:=gt g.n) hf hh (fun i hi=>by rw[(hf.nd i hi).2,(hh.nd i hi).2]) hi
 ·rw[Qif] at hi
  refine Qea (φ:=gt (reE (quo (YS g f h) (YS g f h).length).1 g.e)) hf hh (fun i hi=>?_) hi
  obtain⟨f1,f2,f3,f4⟩:=hf.ed i hi
  obtain⟨h1,h2,h3,h4⟩:=hh.ed i hi
  obtain⟨x,hx,hx2⟩:=gtI f1
  obtain⟨y,hy,hy2⟩:=gtI h1
  rw[hx2] at f2 f3 f4
  rw[hy2] at h2 h3 h4
  rw[hx2,hy2,QcG hx,QcG hy,←f2,←f3,←f4,←h2,←h3,←h4]
  have hs:=Zi ip _ (Qf _)
  obtain⟨_,t2,t3⟩:=Zt hf.va (i:=i) (by omega)
  have ends:∀v:Int,0≤v∧v<a.n.length→gt (quo (YS g f h) (YS g f h).length).1 (gt f.n v)=gt (quo (YS g f h) (YS g f h).length).1 (gt h.n v):=fun v hv=>by
   obtain⟨j,hj,hj2⟩:=gtI hv
   subst hj2
   have hp:=Quv hf hh hj
   obtain⟨u,hu,hu2⟩:=gtI (hf.nd j hj).1
   obtain⟨w,hw,hw2⟩:=gtI (hh.nd j hj).1
   rw[hu2,hw2] at hp ⊢
   exact (hs.iff ip (Qf _) (by rw[QcH];exact hu) (by rw[QcH];exact hw)).2 hp
  rw[ends _ t2,ends _ t3]
theorem Quw(hf:MOk a g f)(hh:MOk a g h):MOk g (Js g f h) (ZX g f h):=(J3 hf hh).ok hf.vb
theorem JF{x y:Mo}(h1:x.n=y.n)(h2:x.e=y.e):x=y:=by cases x;cases y;simp only at h1 h2;rw[h1,h2]
theorem Qux{l b m c:List Int}(hl:l.length=m.length)(h:∀i:Nat,i<l.length→gt b (gt l i)=gt c (gt m i)):thr l b=thr m c:=
 Yd (by rw[Xp,Xp,hl]) fun i hi=>by rw[Xp] at hi;rw[Xi hi,Xi (by omega),h i hi]
theorem QWD(hf:MOk a g f)(hh:MOk a g h):QY f (ZX g f h)=QY h (ZX g f h):=by
 have hc:=J3 hf hh
 refine JF (Qux (by rw[hf.ln,hh.ln]) fun i hi=>?_) (Qux (by rw[hf.le,hh.le]) fun i hi=>?_)
 ·rw[hf.ln] at hi
  have hp:=Quv hf hh hi
  obtain⟨u,hu,hu2⟩:=gtI (hf.nd i hi).1
  obtain⟨w,hw,hw2⟩:=gtI (hh.nd i hi).1
  rw[hu2,hw2] at hp ⊢
  exact (hc.iffN hu hw).2 hp
 ·rw[hf.le] at hi
  have hp:=QWC hf hh hi
  obtain⟨u,hu,hu2⟩:=gtI (hf.ed i hi).1
  obtain⟨w,hw,hw2⟩:=gtI (hh.ed i hi).1
  rw[hu2,hw2] at hp ⊢
  exact (hc.iffE hu hw).2 hp
theorem QbR{m n x y:Mo}(h:QY m n=QY x y){i:Nat}(h1:i<m.n.length)(h2:i<x.n.length):gt n.n (gt m.n i)=gt y.n (gt x.n i):=by
 have:=congrArg (fun z:Mo=>gt z.n i) h
 simp only[QY] at this
 rwa [Xi h1,Xi h2] at this
theorem QbS{m n x y:Mo}(h:QY m n=QY x y){i:Nat}(h1:i<m.e.length)(h2:i<x.e.length):gt n.e (gt m.e i)=gt y.e (gt x.e i):=by
 have:=congrArg (fun z:Mo=>gt z.e i) h
 simp only[QY] at this
 rwa [Xi h1,Xi h2] at this
theorem QWE{x:G}{k:Mo}(hf:MOk a g f)(hh:MOk a g h)(hk:MOk g x k)(e:QY f k=QY h k):∃u,MOk (Js g f h) x u∧QY (ZX g f h) u=k:=by
 have l1:=hf.ln
 have l2:=hh.ln
 have l3:=hf.le
 have l4:=hh.le
 refine (J3 hf hh).univ hk (fun i hi=>?_) (fun i hi=>?_)
 ·exact Qd9 (φ:=gt k.n) hf hh (fun i hi=>QbR e (by omega) (by omega)) hi
 ·exact Qea (φ:=gt k.e) hf hh (fun i hi=>QbS e (by omega) (by omega)) hi
theorem Quy(hf:MOk a g f)(hh:MOk a g h){k:Nat}(hk:k<(Js g f h).n.length):∃i:Nat,i<g.n.length∧gt (ZX g f h).n i=k:=
 let ⟨i,h1,_,h3⟩:=(J3 hf hh).surN hk;⟨i,h1,h3⟩
theorem Quz(hf:MOk a g f)(hh:MOk a g h){k:Nat}(hk:k<(Js g f h).e.length):∃i:Nat,i<g.e.length∧gt (ZX g f h).e i=k:=
 let ⟨i,h1,_,h3⟩:=(J3 hf hh).surE hk;⟨i,h1,h3⟩
theorem QWF{x:G}{u v:Mo}(hf:MOk a g f)(hh:MOk a g h)(hu:MOk (Js g f h) x u)(hv:MOk (Js g f h) x v)(e:QY (ZX g f h) u=QY (ZX g f h) v):u=v:=by
 have hq:=Quw hf hh
 have l1:=hq.ln
 have l2:=hq.le
 refine JF (Yd (by rw[hu.ln,hv.ln]) fun k hk=>?_) (Yd (by rw[hu.le,hv.le]) fun k hk=>?_)
 ·rw[hu.ln] at hk
  obtain⟨i,hi,hi2⟩:=Quy hf hh hk
  have:=QbR e (i:=i) (by omega) (by omega)
  rwa [hi2] at this
 ·rw[hu.le] at hk
  obtain⟨i,hi,hi2⟩:=Quz hf hh hk
  have:=QbS e (i:=i) (by omega) (by omega)
  rwa [hi2] at this
end
end
end Go.Am
