/- The graph package: searches. -/
import Derived.Test.YtgllpjliaepbdaaGreatAmPh
import Derived.Sort.Grow
namespace Go.Am
open Go
set_option linter.unusedVariables false
set_option linter.unusedSimpArgs false
def Qph:LL:=[qb 4 false]
def Qpi:LL:=[qm 5 0,qk .geq 6 5 0,qm 7 6,qg 7 true (qm 8 0),qg 7 true (qm 9 1),qg 7 true (qo .leq 10 8 9),qP 11 7 10,qm 4 11]
def Qg2(F:Fn):LC:=QQ [.reg Qph [0,1],.reg Qpi [4],.ret]
def Qpj:LL:=[qB 2 0,qb 4 false]
def Qpk(F:Fn):LL:=[qf 5 0 2,ql 6 1 5,qc 7 (F "I") [.t 6,.k (.int .i64 (99))],qm 8 7,qg 8 true (qf 9 1 2),qg 8 true (ql 10 1 9),qg 8 true (qm 11 1),qg 8 true (qk .sub 12 11 1),
 qg 8 true (qc 13 (F "I") [.t 10,.t 12]),qP 14 8 13,qm 15 14,qg 15 true (qf 16 2 2),qg 15 true (ql 17 1 16),qg 15 true (qm 18 1),qg 15 true (qk .sub 19 18 1),
 qg 15 true (qc 20 (F "I") [.t 17,.t 19]),qP 21 15 20,qm 4 21]
def Qg3(F:Fn):LC:=QQ [.reg Qpj [1,2],.reg (Qpk F) [4],.ret]
def Qpl:LL:=[qB 1 0,qi 2 0]
def Qpm:LL:=[qf 3 0 1,ql 4 1 3,qz 5 4,qk .gtr 6 5 40,qm 7 6,qg 7 false (qf 8 1 1),qg 7 false (ql 9 1 8),qg 7 false (qz 10 9),qg 7 false (qk .gtr 11 10 80),qQ 12 7 11]
def Qpn:LL:=[qi 2 3]
def Qpo(F:Fn):LL:=[qf 13 0 1,ql 14 1 13,qQp 15 (.call (F "bU") [.t 14,.k (.clo (F "bQ") [])] [])]
def Qpp:LL:=[qi 2 6]
def Qpq(F:Fn):LL:=[qf 16 1 1,ql 17 1 16,qQp 18 (.mkf (F "bk") [.t 1]),qc 19 (F "bn") [.t 17,.t 18]]
def Qpr:LL:=[qi 2 6]
def Qps:LL:=[qi 2 0]
def Qg4(F:Fn):LC:=QQ [.reg Qpl [1],QQ [.reg Qpm [1,12],.cond (.t 12) (QQ [.reg Qpn [2],.ret]) .skip],QQ [.reg (Qpo F) [1,15],.cond (.t 15) (QQ [.reg Qpp [2],.ret]) .skip],QQ [.reg (Qpq F) [19],.cond (.t 19) (QQ [.reg Qpr [2],.ret]) .skip],.reg Qps [2],.ret]
def Qpt:LL:=[qb 2 false]
def Qpu(F:Fn):LL:=[qm 3 0,qc 4 (F "I") [.t 3,.k (.int .i64 (99))],qv 5 4,qm 2 5]
def Qg5(F:Fn):LC:=QQ [.reg Qpt [0],.reg (Qpu F) [2],.ret]
def Qpv:LL:=[qB 2 0,qb 3 false]
def Qpw(F:Fn):LL:=[qL 4 3 2,qf 5 0 1,ql 6 1 5,qz 7 6,qc 8 (F "bR") [.t 4,.t 7],qv 9 8,qm 3 9]
def Qg6(F:Fn):LC:=QQ [.reg Qpv [1,2],.reg (Qpw F) [3],.ret]
def Qpx:LL:=[qi 4 0]
def Qpy:LL:=[qm 6 0,qz 7 6,qi 8 0]
def Qpz:LL:=[qo .lss 9 8 7]
def QpA:LL:=[qm 10 8,qm 5 10]
def QpB:LL:=[qm 11 1,qm 12 0,qm 13 5,qd 14 1 12 13,ql 15 1 14,qo .eql 16 11 15]
def QpC:LL:=[qm 17 5,qm 4 17]
def QpD:LL:=[qk .add 18 8 1,qm 8 18]
def QpE:LC:=QQ [.reg Qpz [0,1,7,8,9],.cond (.t 9) .skip (.exit 0),.block 1 (QQ [.reg QpA [0,1,5,7,8],.reg QpB [0,1,5,7,8,16],.cond (.t 16) (QQ [.reg QpC [4],.ret]) .skip]),.reg QpD [0,1,7,8]]
def QpF:LL:=[qi 4 (-1)]
def Qg7(F:Fn):LC:=QQ [.reg Qpx [0,1],QQ [.reg Qpy [0,1,7,8],.block 0 (.loop [0,1,7,8] QpE)],.reg QpF [4],.ret]
def QpG:LL:=[qb 4 false]
def QpH(F:Fn):LL:=[qm 5 0,qm 6 1,qc 7 (F "p") [.t 5,.t 6],qk .geq 8 7 0,qm 4 8]
def Qg8(F:Fn):LC:=QQ [.reg QpG [0,1],.reg (QpH F) [4],.ret]
def QpI:LL:=[qi 4 0]
def QpJ:LL:=[qm 6 0,qz 7 6,qi 8 0]
def QpK:LL:=[qo .lss 9 8 7]
def QpL:LL:=[qm 10 8,qm 5 10]
def QpM:LL:=[qm 11 1,qm 12 0,qm 13 5,qd 14 1 12 13,ql 15 1 14,qQp 16 (.callv (.t 11) [.t 15])]
def QpN:LL:=[qm 17 5,qm 4 17]
def QpO:LL:=[qk .add 18 8 1,qm 8 18]
def QpP:LC:=QQ [.reg QpK [0,1,7,8,9],.cond (.t 9) .skip (.exit 0),.block 1 (QQ [.reg QpL [0,1,5,7,8],.reg QpM [0,1,5,7,8,16],.cond (.t 16) (QQ [.reg QpN [4],.ret]) .skip]),.reg QpO [0,1,7,8]]
def QpQ:LL:=[qi 4 (-1)]
def Qg9(F:Fn):LC:=QQ [.reg QpI [0,1],QQ [.reg QpJ [0,1,7,8],.block 0 (.loop [0,1,7,8] QpP)],.reg QpQ [4],.ret]
def QpR:LL:=[qb 4 false]
def QpS(F:Fn):LL:=[qm 5 0,qm 6 1,qc 7 (F "bS") [.t 5,.t 6],qk .geq 8 7 0,qm 4 8]
def Qha(F:Fn):LC:=QQ [.reg QpR [0,1],.reg (QpS F) [4],.ret]
def QpT:LL:=[qi 4 0]
def QpU:LL:=[qm 6 0,qz 7 6,qi 8 0]
def QpV:LL:=[qo .lss 9 8 7]
def QpW:LL:=[qm 10 8,qm 5 10]
def QpX:LL:=[qm 11 1,qm 12 0,qm 13 5,qd 14 3 12 13,qL 15 3 14,qQp 16 (.callv (.t 11) [.t 15])]
def QpY:LL:=[qm 17 5,qm 4 17]
def QpZ:LL:=[qk .add 18 8 1,qm 8 18]
def Qp0:LC:=QQ [.reg QpV [0,1,7,8,9],.cond (.t 9) .skip (.exit 0),.block 1 (QQ [.reg QpW [0,1,5,7,8],.reg QpX [0,1,5,7,8,16],.cond (.t 16) (QQ [.reg QpY [4],.ret]) .skip]),.reg QpZ [0,1,7,8]]
def Qp1:LL:=[qi 4 (-1)]
def Qhb(F:Fn):LC:=QQ [.reg QpT [0,1],QQ [.reg QpU [0,1,7,8],.block 0 (.loop [0,1,7,8] Qp0)],.reg Qp1 [4],.ret]
def Qp2:LL:=[qb 4 false]
def Qp3(F:Fn):LL:=[qm 5 0,qm 6 1,qc 7 (F "bJ") [.t 5,.t 6],qk .geq 8 7 0,qm 4 8]
def Qhc(F:Fn):LC:=QQ [.reg Qp2 [0,1],.reg (Qp3 F) [4],.ret]
attribute [go_sem] Qph Qpi Qg2 Qpj Qpk Qg3 Qpl Qpm Qpn Qpo Qpp Qpq Qpr Qps Qg4 Qpt Qpu Qg5 Qpv Qpw Qg6 Qpx Qpy Qpz QpA QpB QpC QpD QpF Qg7 QpG QpH Qg8 QpI QpJ QpK QpL QpM QpN QpO QpQ Qg9 QpR QpS Qha QpT QpU QpV QpW QpX QpY QpZ Qp1 Qhb Qp2 Qp3 Qhc
section
variable (P:Program) (F:String→Nat)
def XP(n:Int)(x:E):Bool:=decide (0≤x.t∧x.t≤99)&&decide (0≤x.f∧x.f≤n-1)&&decide (0≤x.o∧x.o≤n-1)
def idx{α:Type}(p:α→Bool):List α→Int→Int
 |[],_=> -1
 |a::l,i=>if p a then i else idx p l (i+1)
def QdQ:Prop:=∀n m:Int,FC P (F "I") [.int .i64 n,.int .i64 m] (.bool (decide (0≤n∧n≤m))) []
def Qhd:Prop:=∀(x:E)(n:Int),0≤n∧n≤1000000→FC P (F "bR") [edD x,.int .i64 n] (.bool (XP n x)) []
def QbB:Prop:=∀(l:List Int)(x:Int),l.length≤QW→FC P (F "p") [.lst 1 (QR l),.int .i64 x] (.int .i64 (idx (fun y=>decide (x=y)) l 0)) []
structure _root_.Go.Am.G where
 n:List Int
 e:List E
 deriving DecidableEq,Inhabited
def gD(g:G):D:=.agg [.lst 1 (QR g.n),.lst 3 (eds g.e)]
def gA(g:G):D:=.agg [.arr 1 (QR g.n),.arr 3 (eds g.e)]
def okN(x:Int):Bool:=decide (0≤x∧x≤99)
def QX(g:G):Int:=if 40<g.n.length∨80<g.e.length then 3 else if g.n.all okN&&g.e.all (XP g.n.length) then 0 else 6
def Qhe:Prop:=∀(l:List Int),l.length≤QW→∀(g:Nat)(cs:List D),cs.all Yp=true→∀p:Int→Bool,(∀x,x∈l→FC P g (.int .i64 x::cs) (.bool (p x)) [])→FC P (F "bS") [.lst 1 (QR l),.clo g cs] (.int .i64 (idx p l 0)) []
def Qhf:Prop:=∀(l:List E),l.length≤QW→∀(g:Nat)(cs:List D),cs.all Yp=true→∀p:E→Bool,(∀x,x∈l→FC P g (edD x::cs) (.bool (p x)) [])→FC P (F "bJ") [.lst 3 (eds l),.clo g cs] (.int .i64 (idx p l 0)) []
def Qhg:Prop:=∀(l:List Int),l.length≤QW→∀(g:Nat)(cs:List D),cs.all Yp=true→∀p:Int→Bool,(∀x,x∈l→FC P g (.int .i64 x::cs) (.bool (p x)) [])→FC P (F "bU") [.lst 1 (QR l),.clo g cs] (.bool (l.any p)) []
def Qhh:Prop:=∀(l:List E),l.length≤QW→∀(g:Nat)(cs:List D),cs.all Yp=true→∀p:E→Bool,(∀x,x∈l→FC P g (edD x::cs) (.bool (p x)) [])→FC P (F "bn") [.lst 3 (eds l),.clo g cs] (.bool (l.any p)) []
def Qhi:Prop:=∀x:Int,FC P (F "bQ") [.int .i64 x] (.bool (!decide (0≤x∧x≤99))) []
def Qhj:Prop:=∀(x:E)(ns:List Int)(es:List E),ns.length≤1000000→FC P (F "bk") [edD x,.ref [.lst 1 (QR ns),.lst 3 (eds es)]] (.bool (!XP ns.length x)) []
def Qad:Prop:=∀g:G,FC P (F "c") [gD g] (.int .i64 (QX g)) []
theorem _root_.Go.Am.gt_mem{α:Type}[Inhabited α]{l:List α}{j:Int}(h0:0≤j)(h:j<l.length):gt l j∈l:=List.mem_of_getElem? (Qcm h0 h)
def JX:Prop:=∀(l:List Int)(x:Int),l.length≤QW→FC P (F "b") [.lst 1 (QR l),.int .i64 x] (.bool (decide (x∈l))) []
end
section
variable {P:Program} {F:String→Nat} {α:Type}
theorem Qcu[Inhabited α](p:α→Bool)(l:List α)(i:Nat)(h:i<l.length):idx p (l.drop i) i=if p (gt l i) then (i:Int) else idx p (l.drop (i+1)) ((i+1:Nat):Int):=by
 rw[List.drop_eq_getElem_cons h,Xc h];rfl
theorem QbC(p:α→Bool):∀(l:List α)(i:Int),0≤i→(decide (0≤idx p l i))=l.any p
 |[],i,h=>by simp [idx]
 |a::l,i,h=>by
  simp only[idx,List.any_cons]
  split
  ·rename_i ha;simp [ha,h]
  ·rename_i ha;rw[QbC p l (i+1) (by omega)];simp [ha]
theorem QVp(n m:Int):W P (Qg2 F) (Done [.t 4] [] (.bool (decide (0≤n∧n≤m))) []) (init [.int .i64 n,.int .i64 m]):=by
 refine QZ ?_
 simp(disch:=omega)only[go_sem]
 refine Q7 (fun h=>?_) (fun h=>?_)
 ·simp(disch:=omega)only[go_sem,h]
 ·simp(disch:=omega)only[go_sem,h]
theorem QVq(h:QdQ P F)(x:E)(n:Int)(hn:0≤n∧n≤1000000):W P (Qg3 F) (Done [.t 4] [] (.bool (XP n x)) []) (init [edD x,.int .i64 n]):=by
 refine QZ ?_
 simp(disch:=omega)only[go_sem,edD]
 refine QT (h _ _) ?_
 simp(disch:=omega)only[go_sem]
 refine Q7 (fun h1=>?_) (fun h1=>?_)
 ·simp(disch:=omega)only[go_sem,h1]
  refine QT (h _ _) ?_
  simp(disch:=omega)only[go_sem,h1]
  refine Q7 (fun h2=>?_) (fun h2=>?_)
  ·simp(disch:=omega)only[go_sem,h2]
   refine QT (h _ _) ?_
   simp(disch:=omega)only[go_sem,h2]
   simp [XP,h1,h2]
  ·simp(disch:=omega)only[go_sem,h2]
   simp [XP,h1,h2]
 ·simp(disch:=omega)only[go_sem,h1]
  simp [XP,h1]
theorem QVr(l:List Int)(x:Int)(hl:l.length≤QW):W P (Qg7 F) (Done [.t 4] [] (.int .i64 (idx (fun y=>decide (x=y)) l 0)) []) (init [.lst 1 (QR l),.int .i64 x]):=by
 refine QZ ?_
 unfold QW at hl
 simp(disch:=omega)only[go_sem]
 refine Q5 (fun i:Nat=>⟨[(0,.lst 1 (QR l)),(1,.int .i64 x),(7,.int .i64 l.length),(8,.int .i64 i)],[],0⟩) (fun i=>i≤l.length∧idx (fun y=>decide (x=y)) l 0=idx (fun y=>decide (x=y)) (l.drop i) i) (fun i=>l.length-i) 0 ?_ ?_ ?_
 ·simp(disch:=omega)only[go_sem]
  rfl
 ·simp
 ·intro i hi
  simp(disch:=omega)only[go_sem,QpE]
  refine Q7 (fun h=>?_) (fun h=>?_)
  ·have hd:=Qcu (fun y=>decide (x=y)) l i (by omega)
   simp(disch:=omega)only[go_sem]
   refine Q7 (fun h2=>?_) (fun h2=>?_)
   ·simp(disch:=omega)only[go_sem]
    rw[hi.2,hd,if_pos (by simpa using h2)]
   ·simp(disch:=omega)only[go_sem]
    exact⟨i+1,by simp,⟨by omega,by rw[hi.2,hd,if_neg (by simpa using h2)]⟩,by omega⟩
  ·simp(disch:=omega)only[go_sem]
   rw[hi.2,QB (by omega)]
   rfl
theorem QVs(hi:QbB P F)(l:List Int)(x:Int)(hl:l.length≤QW):W P (Qg8 F) (Done [.t 4] [] (.bool (decide (x∈l))) []) (init [.lst 1 (QR l),.int .i64 x]):=by
 refine QZ ?_
 simp(disch:=omega)only[go_sem]
 refine QT (hi l x hl) ?_
 simp(disch:=omega)only[go_sem]
 rw[QbC _ _ _ (by omega)]
 simp [List.any_eq]
theorem QVt(l:List Int)(hl:l.length≤QW)(g:Nat)(cs:List D)(hcs:cs.all Yp=true)(p:Int→Bool)(hg:∀x,x∈l→FC P g (.int .i64 x::cs) (.bool (p x)) []):W P (Qg9 F) (Done [.t 4] [] (.int .i64 (idx p l 0)) []) (init [.lst 1 (QR l),.clo g cs]):=by
 refine QZ ?_
 unfold QW at hl
 have e1:=Qgo hcs
 have e2:=Qgp hcs
 simp(disch:=omega)only[go_sem]
 refine Q5 (fun i:Nat=>⟨[(0,.lst 1 (QR l)),(1,.clo g cs),(7,.int .i64 l.length),(8,.int .i64 i)],[],0⟩) (fun i=>i≤l.length∧idx p l 0=idx p (l.drop i) i) (fun i=>l.length-i) 0 ?_ ?_ ?_
 ·simp(disch:=omega)only[go_sem,e2]
  rfl
 ·simp
 ·intro i hi
  simp(disch:=omega)only[go_sem,QpP]
  refine Q7 (fun h=>?_) (fun h=>?_)
  ·have hd:=Qcu p l i (by omega)
   simp(disch:=omega)only[go_sem,e1]
   refine QT (hg _ (gt_mem (by omega) h)) ?_
   simp(disch:=omega)only[go_sem]
   refine Qac (fun h2=>?_) (fun h2=>?_)
   ·simp(disch:=omega)only[go_sem]
    rw[hi.2,hd,if_pos h2]
   ·simp(disch:=omega)only[go_sem,e2]
    exact⟨i+1,by simp,⟨by omega,by rw[hi.2,hd,if_neg (by simp [h2])]⟩,by omega⟩
  ·simp(disch:=omega)only[go_sem]
   rw[hi.2,QB (by omega)]
   rfl
theorem QVu(l:List E)(hl:l.length≤QW)(g:Nat)(cs:List D)(hcs:cs.all Yp=true)(p:E→Bool)(hg:∀x,x∈l→FC P g (edD x::cs) (.bool (p x)) []):W P (Qhb F) (Done [.t 4] [] (.int .i64 (idx p l 0)) []) (init [.lst 3 (eds l),.clo g cs]):=by
 refine QZ ?_
 unfold QW at hl
 have e1:=Qgo hcs
 have e2:=Qgp hcs
 simp(disch:=omega)only[go_sem]
 refine Q5 (fun i:Nat=>⟨[(0,.lst 3 (eds l)),(1,.clo g cs),(7,.int .i64 l.length),(8,.int .i64 i)],[],0⟩) (fun i=>i≤l.length∧idx p l 0=idx p (l.drop i) i) (fun i=>l.length-i) 0 ?_ ?_ ?_
 ·simp(disch:=omega)only[go_sem,e2]
  rfl
 ·simp
 ·intro i hi
  simp(disch:=omega)only[go_sem,Qp0]
  refine Q7 (fun h=>?_) (fun h=>?_)
  ·have hd:=Qcu p l i (by omega)
   simp(disch:=omega)only[go_sem,e1]
   refine QT (hg _ (gt_mem (by omega) h)) ?_
   simp(disch:=omega)only[go_sem]
   refine Qac (fun h2=>?_) (fun h2=>?_)
   ·simp(disch:=omega)only[go_sem]
    rw[hi.2,hd,if_pos h2]
   ·simp(disch:=omega)only[go_sem,e2]
    exact⟨i+1,by simp,⟨by omega,by rw[hi.2,hd,if_neg (by simp [h2])]⟩,by omega⟩
  ·simp(disch:=omega)only[go_sem]
   rw[hi.2,QB (by omega)]
   rfl
theorem QVv(hi:Qhe P F)(l:List Int)(hl:l.length≤QW)(g:Nat)(cs:List D)(hcs:cs.all Yp=true)(p:Int→Bool)(hg:∀x,x∈l→FC P g (.int .i64 x::cs) (.bool (p x)) []):W P (Qha F) (Done [.t 4] [] (.bool (l.any p)) []) (init [.lst 1 (QR l),.clo g cs]):=by
 refine QZ ?_
 simp(disch:=omega)only[go_sem,Qgn hcs]
 refine QT (hi l hl g cs hcs p hg) ?_
 simp(disch:=omega)only[go_sem]
 rw[QbC _ _ _ (by omega)]
theorem QVw(hi:Qhf P F)(l:List E)(hl:l.length≤QW)(g:Nat)(cs:List D)(hcs:cs.all Yp=true)(p:E→Bool)(hg:∀x,x∈l→FC P g (edD x::cs) (.bool (p x)) []):W P (Qhc F) (Done [.t 4] [] (.bool (l.any p)) []) (init [.lst 3 (eds l),.clo g cs]):=by
 refine QZ ?_
 simp(disch:=omega)only[go_sem,Qgn hcs]
 refine QT (hi l hl g cs hcs p hg) ?_
 simp(disch:=omega)only[go_sem]
 rw[QbC _ _ _ (by omega)]
theorem QVx(h:QdQ P F)(x:Int):W P (Qg5 F) (Done [.t 2] [] (.bool (!decide (0≤x∧x≤99))) []) (init [.int .i64 x]):=by
 refine QZ ?_
 simp(disch:=omega)only[go_sem]
 refine QT (h _ _) ?_
 simp(disch:=omega)only[go_sem]
theorem QVy(h:Qhd P F)(x:E)(ns:List Int)(es:List E)(hn:ns.length≤1000000):W P (Qg6 F) (Done [.t 3] [] (.bool (!XP ns.length x)) []) (init [edD x,.ref [.lst 1 (QR ns),.lst 3 (eds es)]]):=by
 refine QZ ?_
 simp(disch:=omega)only[go_sem,edD]
 refine QT (h _ _ (by omega)) ?_
 simp(disch:=omega)only[go_sem]
theorem QVz(h1:Qhg P F)(h2:Qhh P F)(hv1:Qhi P F)(hv2:Qhj P F)(g:G):W P (Qg4 F) (Done [.t 2] [] (.int .i64 (QX g)) []) (init [gD g]):=by
 refine QZ ?_
 obtain⟨ns,es⟩:=g
 simp(disch:=omega)only[go_sem,gD]
 refine Q7 (fun a1=>?_) (fun a1=>?_)
 ·simp(disch:=omega)only[go_sem,a1]
  simp [QX]
  omega
 ·simp(disch:=omega)only[go_sem,a1]
  refine Q7 (fun a2=>?_) (fun a2=>?_)
  ·simp(disch:=omega)only[go_sem]
   simp [QX]
   omega
  ·simp(disch:=omega)only[go_sem]
   refine QT (h1 ns (by unfold QW;omega) _ [] rfl _ (fun x _=>hv1 x)) ?_
   simp(disch:=omega)only[go_sem]
   refine Qac (fun a3=>?_) (fun a3=>?_)
   ·simp(disch:=omega)only[go_sem]
    have e:ns.all okN=false:=by
     rw[←Bool.not_eq_true,Qr]
     rw[List.any_eq_true] at a3
     obtain⟨x,hx,hp⟩:=a3
     exact fun h=>by have:=h x hx;simp [okN] at this hp;omega
    simp [QX,a1,a2,e];omega
   ·have e:ns.all okN=true:=by
     rw[Qr]
     rw[List.any_eq_false] at a3
     exact fun x hx=>by have:=a3 x hx;simpa [okN] using this
    simp(disch:=omega)only[go_sem]
    refine QT (h2 es (by unfold QW;omega) _ _ rfl _ (fun x _=>hv2 x ns es (by omega))) ?_
    simp(disch:=omega)only[go_sem]
    refine Qac (fun a4=>?_) (fun a4=>?_)
    ·simp(disch:=omega)only[go_sem]
     have e2:es.all (XP ns.length)=false:=by
      rw[←Bool.not_eq_true,Qr]
      rw[List.any_eq_true] at a4
      obtain⟨x,hx,hp⟩:=a4
      exact fun h=>by have:=h x hx;simp [this] at hp
     simp [QX,a1,a2,e,e2];omega
    ·simp(disch:=omega)only[go_sem]
     have e2:es.all (XP ns.length)=true:=by
      rw[Qr]
      rw[List.any_eq_false] at a4
      exact fun x hx=>by have:=a4 x hx;simpa using this
     simp [QX,a1,a2,e,e2];omega
end
def Qp4:LL:=[qn 4 1]
def Qp5:LL:=[qn 5 1]
def Qp6:LL:=[qm 7 1,qi 8 0]
def Qp7:LL:=[qo .lss 9 8 7]
def Qp8:LL:=[qm 10 8,qm 6 10]
def Qp9:LL:=[qm 11 5,qm 12 0,qm 13 6,qo .add 14 12 13,qQp 15 (.buildSl 1 8 (.int .i64 (0)) 1 [(0,.t 14)]),qp 16 1 8 11 15,qm 5 16]
def Qqa:LL:=[qk .add 17 8 1,qm 8 17]
def Qqb:LC:=QQ [.reg Qp7 [0,5,7,8,9],.cond (.t 9) .skip (.exit 0),.block 1 (QQ [.reg Qp8 [0,5,6,7,8],.reg Qp9 [0,5,7,8]]),.reg Qqa [0,5,7,8]]
def Qqc:LL:=[qm 18 5,qm 4 18]
def Qhk(F:Fn):LC:=QQ [.reg Qp4 [0,1],.reg Qp5 [0,1,5],QQ [.reg Qp6 [0,5,7,8],.block 0 (.loop [0,5,7,8] Qqb)],.reg Qqc [4],.ret]
def Qqd:LL:=[qb 2 false]
def Qqe:LL:=[qm 3 0,qk .geq 4 3 0,qm 5 4,qg 5 true (qm 6 0),qg 5 true (qk .leq 7 6 99),qP 8 5 7,qm 2 8]
def Qhl(F:Fn):LC:=QQ [.reg Qqd [0],.reg Qqe [2],.ret]
def Qqf:LL:=[qB 2 0,qb 4 false]
def Qqg(F:Fn):LL:=[qf 5 0 2,ql 6 1 5,qc 7 (F "aE") [.t 6],qm 8 7,qg 8 true (qf 9 1 2),qg 8 true (ql 10 1 9),qg 8 true (qk .geq 11 10 0),qP 12 8 11,qm 13 12,qg 13 true (qf 14 1 2),qg 13 true (ql 15 1 14),
 qg 13 true (qm 16 1),qg 13 true (qo .lss 17 15 16),qP 18 13 17,qm 19 18,qg 19 true (qf 20 2 2),qg 19 true (ql 21 1 20),qg 19 true (qk .geq 22 21 0),qP 23 19 22,qm 24 23,
 qg 24 true (qf 25 2 2),qg 24 true (ql 26 1 25),qg 24 true (qm 27 1),qg 24 true (qo .lss 28 26 27),qP 29 24 28,qm 4 29]
def Qhm(F:Fn):LC:=QQ [.reg Qqf [1,2],.reg (Qqg F) [4],.ret]
def Qqh:LL:=[qB 1 0,qa 2 [.nl 1,.nl 3]]
def Qqi:LL:=[qQp 3 (.buildSl 1 8 (.int .i64 (0)) 0 []),qf 4 0 1,ql 5 1 4,qp 6 1 8 3 5,qQp 7 (.buildSl 3 24 (.agg [.int .i64 (0),.int .i64 (0),.int .i64 (0)]) 0 []),qf 8 1 1,
 ql 9 1 8,qp 10 3 24 7 9,qu 11 [.nl 1,.nl 3] [(0,1,.t 6),(1,1,.t 10)],qs 2 2 11]
def Qhn(F:Fn):LC:=QQ [.reg Qqh [1,2],.dreg [(2,(some 2),[],false),(3,none,[],true),(6,(some 32),[3],false)] Qqi [2],.ret]
def Qqj:LL:=[qB 1 0,qb 2 false]
def Qqk:LL:=[qf 3 0 1,ql 4 1 3,qz 5 4,qk .leq 6 5 45,qm 7 6,qg 7 true (qf 8 1 1),qg 7 true (ql 9 1 8),qg 7 true (qz 10 9),qg 7 true (qk .leq 11 10 90),qP 12 7 11,qm 2 12]
def Qho(F:Fn):LC:=QQ [.reg Qqj [1],.reg Qqk [2],.ret]
def Qql:LL:=[qn 4 1]
def Qqm:LL:=[qn 5 1]
def Qqn:LL:=[qi 6 0]
def Qqo:LL:=[qm 7 6,qm 8 1,qo .lss 9 7 8]
def Qqp:LL:=[qm 12 5,qm 13 0,qm 14 6,qo .add 15 13 14,qQp 16 (.buildSl 1 8 (.int .i64 (0)) 1 [(0,.t 15)]),qp 17 1 8 12 16,qm 5 17]
def Qqq:LL:=[qm 10 6,qk .add 11 10 1,qm 6 11]
def Qqr:LC:=QQ [QQ [.reg Qqo [0,1,5,6,9],.cond (.t 9) .skip (.exit 0)],.block 1 (.reg Qqp [0,1,5,6]),.reg Qqq [0,1,5,6]]
def Qqs:LL:=[qm 18 5,qm 4 18]
def Qhp(F:Fn):LC:=QQ [.reg Qql [0,1],.reg Qqm [0,1,5],QQ [.reg Qqn [0,1,5,6],.block 0 (.loop [0,1,5,6] Qqr)],.reg Qqs [4],.ret]
def leO(x:Int):Option Int→Bool
 |some q=>decide (x≤q)
 |none=>false
def XQ(n:Int):Option Int→List Int→Int
 |_,[]=>0
 |p,x::l=>if 0≤x∧x≤n-1 then (if leO x p=true then 12 else XQ n (some x) l) else 6
def Xf(f:Int)(n:Nat):List Int:=(List.range n).map fun i:Nat=>f+(i:Int)
structure Mo where
 n:List Int
 e:List Int
 deriving DecidableEq,Inhabited
def mD(m:Mo):D:=.agg [.lst 1 (QR m.n),.lst 1 (QR m.e)]
def mA(m:Mo):D:=.agg [.arr 1 (QR m.n),.arr 1 (QR m.e)]
def few(g:G):Bool:=decide (g.n.length≤45)&&decide (g.e.length≤90)
attribute [go_sem] Qp4 Qp5 Qp6 Qp7 Qp8 Qp9 Qqa Qqc Qhk Qqd Qqe Qhl Qqf Qqg Qhm Qqh Qqi Qhn Qqj Qqk Qho Qql Qqm Qqn Qqo Qqp Qqq Qqs Qhp
section
variable (P:Program) (F:String→Nat)
def Qhq:Prop:=∀(f:Int)(n:Nat),0≤f→f≤1000000→n≤1000000→FC P (F "u") [.int .i64 f,.int .i64 n] (.arr 1 (QR (Xf f n))) []
def Qhr:Prop:=∀(f:Int)(n:Nat),0≤f→f≤1000000→n≤1000000→FC P (F "B") [.int .i64 f,.int .i64 n] (.arr 1 (QR (Xf f n))) []
def QdR:Prop:=∀n:Int,FC P (F "aE") [.int .i64 n] (.bool (okN n)) []
def Qhs:Prop:=∀(x:E)(n:Int),FC P (F "bc") [edD x,.int .i64 n] (.bool (XP n x)) []
def Qa3:Prop:=∀g:G,FC P (F "d") [gD g] (.int .i64 (QX g)) []
def Qcv:Prop:=∀g:G,g.n.length≤1000000→g.e.length≤1000000→FC P (F "t") [gD g] (gA g) []
def Qht:Prop:=∀g:G,FC P (F "bq") [gD g] (.bool (few g)) []
end
section
variable {P:Program} {F:String→Nat} {α:Type}
theorem Qaz[Inhabited α]{l:List α}{i:Nat}(h:i<l.length):l.drop i=gt l i::l.drop (i+1):=by
 rw[List.drop_eq_getElem_cons h,Xc h]
theorem Yk[Inhabited α]{l:List α}{i:Nat}(h:i<l.length):l.take (i+1)=l.take i++[gt l i]:=by
 rw[List.take_succ_eq_append_getElem h,Xc h]
theorem Qcw(f:Int)(n:Nat):Xf f (n+1)=Xf f n++[f+n]:=by simp [Xf,List.range_succ]
theorem Xh(f:Int)(n:Nat):(Xf f n).length=n:=by simp [Xf]
theorem Qcx(f:Int):Xf f 0=[]:=by simp [Xf]
def Qae(l:List Int)(i:Nat):Option Int:=if i=0 then none else some (gt l ((i:Int)-1))
theorem QVA(l:List Int)(i:Nat):Qae l (i+1)=some (gt l i):=by
 simp only[Qae];rw[if_neg (by omega)];congr 2;omega
theorem Qqt(n:Int)(l:List Int)(i:Nat)(h:i<l.length):XQ n (Qae l i) (l.drop i)=
  if 0≤gt l i∧gt l i≤n-1 then (if 0<i∧gt l i≤gt l ((i:Int)-1) then 12 else XQ n (Qae l (i+1)) (l.drop (i+1))) else 6:=by
 rw[Qaz h,QVA]
 simp only[XQ,Qae]
 by_cases h0:i=0
 ·simp [h0,leO]
 ·simp [h0,leO,Nat.pos_of_ne_zero h0]
theorem QVB(f:Int)(n:Nat)(h0:0≤f)(h1:f≤1000000)(h2:n≤1000000):W P (Qhk F) (Done [.t 4] [] (.arr 1 (QR (Xf f n))) []) (init [.int .i64 f,.int .i64 n]):=by
 refine QZ ?_
 simp(disch:=omega)only[go_sem]
 refine Q5 (fun i:Nat=>⟨[(0,.int .i64 f),(5,.sl 0 0 i),(7,.int .i64 n),(8,.int .i64 i)],[(0,.arr 1 (QR (Xf f i)))],1⟩) (fun i=>i≤n) (fun i=>n-i) 0 ?_ ?_ ?_
 ·simp(disch:=omega)only[go_sem,Qcx,Zc]
  rfl
 ·omega
 ·intro i hi
  have e1:=Xh f i
  simp(disch:=omega)only[go_sem,Qqb]
  refine Q7 (fun a=>?_) (fun a=>?_)
  ·simp(disch:=omega)only[go_sem,e1]
   exact⟨i+1,by simp [Qcw],by omega,by omega⟩
  ·obtain rfl:i=n:=by omega
   simp(disch:=omega)only[go_sem,e1]
theorem QVC(f:Int)(n:Nat)(h0:0≤f)(h1:f≤1000000)(h2:n≤1000000):W P (Qhp F) (Done [.t 4] [] (.arr 1 (QR (Xf f n))) []) (init [.int .i64 f,.int .i64 n]):=by
 refine QZ ?_
 simp(disch:=omega)only[go_sem]
 refine Q5 (fun i:Nat=>⟨[(0,.int .i64 f),(1,.int .i64 n),(5,.sl 0 0 i),(6,.int .i64 i)],[(0,.arr 1 (QR (Xf f i)))],1⟩) (fun i=>i≤n) (fun i=>n-i) 0 ?_ ?_ ?_
 ·simp(disch:=omega)only[go_sem,Qcx,Zc]
  rfl
 ·omega
 ·intro i hi
  have e1:=Xh f i
  simp(disch:=omega)only[go_sem,Qqr]
  refine Q7 (fun a=>?_) (fun a=>?_)
  ·simp(disch:=omega)only[go_sem,e1]
   exact⟨i+1,by simp [Qcw],by omega,by omega⟩
  ·obtain rfl:i=n:=by omega
   simp(disch:=omega)only[go_sem,e1]
theorem QVD(g:G)(h0:g.n.length≤1000000)(h1:g.e.length≤1000000):W P (Qhn F) (Done [.c 2 true 2] [] (gA g) []) (init [gD g]):=by
 refine QZ ?_
 obtain⟨ns,es⟩:=g
 simp only at h0 h1
 simp(disch:=omega)only[go_sem,gD,gA]
theorem QVE(g:G):W P (Qho F) (Done [.t 2] [] (.bool (few g)) []) (init [gD g]):=by
 refine QZ ?_
 obtain⟨ns,es⟩:=g
 simp(disch:=omega)only[go_sem,gD]
 refine Q7 (fun a=>?_) (fun a=>?_)
 ·simp(disch:=omega)only[go_sem,a]
  have:ns.length≤45:=by omega
  simp [few,this]
  omega
 ·simp(disch:=omega)only[go_sem,a]
  have:¬ns.length≤45:=by omega
  simp [few,this]
theorem QVF(n:Int):W P (Qhl F) (Done [.t 2] [] (.bool (okN n)) []) (init [.int .i64 n]):=by
 refine QZ ?_
 simp(disch:=omega)only[go_sem]
 refine Q7 (fun a=>?_) (fun a=>?_)
 ·simp(disch:=omega)only[go_sem,a]
  simp [okN,a]
 ·simp(disch:=omega)only[go_sem,a]
  simp [okN,a]
theorem QVG(h:QdR P F)(x:E)(n:Int):W P (Qhm F) (Done [.t 4] [] (.bool (XP n x)) []) (init [edD x,.int .i64 n]):=by
 refine QZ ?_
 simp(disch:=omega)only[go_sem,edD]
 refine QT (h _) ?_
 simp(disch:=omega)only[go_sem]
 refine Qac (fun a=>?_) (fun a=>?_)
 ·have a':0≤x.t∧x.t≤99:=by simpa [okN] using a
  simp(disch:=omega)only[go_sem,a]
  refine Q7 (fun b=>?_) (fun b=>?_)
  ·simp(disch:=omega)only[go_sem,b]
   refine Q7 (fun c=>?_) (fun c=>?_)
   ·simp(disch:=omega)only[go_sem,c]
    refine Q7 (fun d=>?_) (fun d=>?_)
    ·simp(disch:=omega)only[go_sem,d]
     have e1:decide (x.f≤n-1)=true:=by rw[Qk];omega
     have e2:decide (x.o<n)=decide (x.o≤n-1):=by rw[Bool.eq_iff_iff,Qk,Qk];omega
     simp only[XP,Bool.decide_and,a',b,d,e1,e2,decide_true,Bool.true_and,Bool.and_true]
    ·simp(disch:=omega)only[go_sem,d]
     simp [XP,a',d]
   ·simp(disch:=omega)only[go_sem,c]
    simp [XP,a']
    omega
  ·simp(disch:=omega)only[go_sem,b]
   simp [XP,a']
   omega
 ·have a':¬(0≤x.t∧x.t≤99):=by simpa [okN] using a
  simp(disch:=omega)only[go_sem,a]
  simp [XP,a']
end
def Qqu:LL:=[qB 1 0,qi 2 0]
def Qqv:LL:=[qf 5 0 1,ql 6 1 5,qz 7 6,qk .gtr 8 7 40,qm 9 8,qg 9 false (qf 10 1 1),qg 9 false (ql 11 1 10),qg 9 false (qz 12 11),qg 9 false (qk .gtr 13 12 80),qQ 14 9 13]
def Qqw:LL:=[qi 2 3]
def Qqx:LL:=[qi 3 0]
def Qqy:LL:=[qm 15 3,qf 16 0 1,ql 17 1 16,qz 18 17,qo .lss 19 15 18]
def Qqz(F:Fn):LL:=[qf 22 0 1,ql 23 1 22,qm 24 3,qd 25 1 23 24,ql 26 1 25,qc 27 (F "aE") [.t 26],qv 28 27]
def QqA:LL:=[qi 2 6]
def QqB:LL:=[qm 20 3,qk .add 21 20 1,qm 3 21]
def QqC(F:Fn):LC:=QQ [QQ [.reg Qqy [1,3,19],.cond (.t 19) .skip (.exit 0)],.block 1 (QQ [.reg (Qqz F) [1,3,28],.cond (.t 28) (QQ [.reg QqA [2],.ret]) .skip]),.reg QqB [1,3]]
def QqD:LL:=[qi 4 0]
def QqE:LL:=[qm 29 4,qf 30 1 1,ql 31 1 30,qz 32 31,qo .lss 33 29 32]
def QqF(F:Fn):LL:=[qf 36 1 1,ql 37 1 36,qm 38 4,qd 39 3 37 38,qL 40 3 39,qf 41 0 1,ql 42 1 41,qz 43 42,qc 44 (F "bc") [.t 40,.t 43],qv 45 44]
def QqG:LL:=[qi 2 6]
def QqH:LL:=[qm 34 4,qk .add 35 34 1,qm 4 35]
def QqI(F:Fn):LC:=QQ [QQ [.reg QqE [1,4,33],.cond (.t 33) .skip (.exit 2)],.block 3 (QQ [.dreg [] (QqF F) [1,4,45],.cond (.t 45) (QQ [.reg QqG [2],.ret]) .skip]),.reg QqH [1,4]]
def QqJ:LL:=[qi 2 0]
def Qhu(F:Fn):LC:=QQ [.reg Qqu [1],QQ [.reg Qqv [1,14],.cond (.t 14) (QQ [.reg Qqw [2],.ret]) .skip],QQ [.reg Qqx [1,3],.block 0 (.loop [1,3] (QqC F))],QQ [.reg QqD [1,4],.block 2 (.loop [1,4] (QqI F))],.reg QqJ [2],.ret]
def QVH:Hints:=hn [] [(0,[1]),(1,[1,14]),(2,[2]),(3,[1,3]),(4,[1,3,19]),(5,[1,3]),(6,[1,3,28]),(7,[2]),(8,[1,4]),(9,[1,4,33]),(10,[1,4]),(11,[1,4,45]),(12,[2]),(13,[2])] [(4,[1,3]),(9,[1,4])]
attribute [go_sem] Qqu Qqv Qqw Qqx Qqy Qqz QqA QqB QqD QqE QqF QqG QqH QqJ Qhu
section
variable {P:Program} {F:String→Nat} {α:Type}
def cnt(gs:List Int)(i:Nat):Nat:=(gs.filter fun g=>decide (g<(i:Int))).length
theorem QqK(n:Int):∀(l:List Int)(p:Option Int),XQ n p l=0→(∀x,x∈l→0≤x∧x≤n-1)∧(∀q,p=some q→∀x,x∈l→q<x)∧l.Pairwise (·<·)
 |[],p,_=>by simp
 |x::l,p,h=>by
  simp only[XQ] at h
  split at h
  case isFalse=>simp at h
  rename_i hx
  by_cases hp:leO x p=true
  ·rw[if_pos hp] at h;simp at h
  ·rw[if_neg hp] at h
   obtain⟨h1,h2,h3⟩:=QqK n l (some x) h
   refine⟨by simpa using ⟨hx,h1⟩,?_,?_⟩
   ·rintro q rfl y hy
    simp only[leO,Qk] at hp
    rcases Qh.1 hy with rfl|hy
    ·omega
    ·have:=h2 x rfl y hy;omega
   ·simpa using ⟨fun y hy=>h2 x rfl y hy,h3⟩
theorem QVI(hk:QdR P F)(hr:Qhs P F)(g:G):W P (Qhu F) (Done [.t 2] [] (.int .i64 (QX g)) []) (init [gD g]):=by
 refine QZ ?_
 obtain⟨ns,es⟩:=g
 simp(disch:=omega)only[go_sem,gD]
 refine Q7 (fun a1=>?_) (fun a1=>?_)
 ·simp(disch:=omega)only[go_sem,a1]
  simp [QX]
  omega
 ·simp(disch:=omega)only[go_sem,a1]
  refine Q7 (fun a2=>?_) (fun a2=>?_)
  ·simp(disch:=omega)only[go_sem]
   simp [QX]
   omega
  ·have hv:QX ⟨ns,es⟩=if ns.all okN&&es.all (XP ns.length) then 0 else 6:=by
    simp only[QX];rw[if_neg (by omega)]
   rw[hv]
   simp(disch:=omega)only[go_sem]
   refine Q5 (fun i:Nat=>⟨[(1,.pt 0 0),(3,.int .i64 i)],[(0,.box [.lst 1 (QR ns),.lst 3 (eds es)])],1⟩) (fun i=>i≤ns.length∧ns.all okN=(ns.drop i).all okN) (fun i=>ns.length-i) 0 ?_ ?_ ?_
   ·simp(disch:=omega)only[go_sem]
    rfl
   ·simp
   ·intro i hi
    simp(disch:=omega)only[go_sem,QqC]
    refine Q7 (fun f=>?_) (fun f=>?_)
    ·have hd:=Qaz (l:=ns) (i:=i) (by omega)
     simp(disch:=omega)only[go_sem]
     refine QT (hk _) ?_
     simp(disch:=omega)only[go_sem]
     refine QdE (fun d=>?_) (fun d=>?_)
     ·simp(disch:=omega)only[go_sem]
      rw[hi.2,hd]
      simp [d]
     ·simp(disch:=omega)only[go_sem]
      exact⟨i+1,by simp,⟨by omega,by rw[hi.2,hd];simp [d]⟩,by omega⟩
    ·have hn:ns.all okN=true:=by rw[hi.2,QB (by omega)];rfl
     simp(disch:=omega)only[go_sem]
     refine Q5 (fun i:Nat=>⟨[(1,.pt 0 0),(4,.int .i64 i)],[(0,.box [.lst 1 (QR ns),.lst 3 (eds es)])],1⟩) (fun i=>i≤es.length∧es.all (XP ns.length)=(es.drop i).all (XP ns.length)) (fun i=>es.length-i) 0 ?_ ?_ ?_
     ·simp(disch:=omega)only[go_sem]
      rfl
     ·simp
     ·intro i hi
      simp(disch:=omega)only[go_sem,QqI]
      refine Q7 (fun f=>?_) (fun f=>?_)
      ·have hd:=Qaz (l:=es) (i:=i) (by omega)
       simp(disch:=omega)only[go_sem]
       refine QT (hr _ _) ?_
       simp(disch:=omega)only[go_sem]
       refine QdE (fun d=>?_) (fun d=>?_)
       ·simp(disch:=omega)only[go_sem]
        rw[hi.2,hd]
        simp [d]
       ·simp(disch:=omega)only[go_sem]
        exact⟨i+1,by simp,⟨by omega,by rw[hi.2,hd];simp [d]⟩,by omega⟩
      ·simp(disch:=omega)only[go_sem]
       rw[hi.2,QB (by omega),hn]
       rfl
end
def QqL:LL:=[qB 1 0,qa 2 [.nl 1,.nl 3]]
def QqM:LL:=[qa 3 [.nl 1,.nl 3]]
def QqN:LL:=[qi 4 0]
def QqO:LL:=[qm 7 4,qf 8 0 1,ql 9 1 8,qz 10 9,qo .lss 11 7 10,qm 12 11,qg 12 true (qm 13 4),qg 12 true (qk .lss 14 13 8),qP 15 12 14]
def QqP:LL:=[qf 18 0 3,ql 19 1 18,qf 20 0 1,ql 21 1 20,qm 22 4,qd 23 1 21 22,ql 24 1 23,qQp 25 (.bin .rem (.t 24) (.k (.int .u8 (3)))),qQp 26 (.conv .i64 (.t 25)),
 qQp 27 (.buildSl 1 8 (.int .i64 (0)) 1 [(0,.t 26)]),qp 28 1 8 19 27,qf 29 0 3,qs 1 29 28]
def QqQ:LL:=[qm 16 4,qk .add 17 16 1,qm 4 17]
def QqR:LC:=QQ [QQ [.reg QqO [1,2,3,4,15],.cond (.t 15) .skip (.exit 0)],.block 1 (.dreg [(1,none,[],true),(9,none,[1],false)] QqP [1,2,3,4]),.reg QqQ [1,2,3,4]]
def QqS:LL:=[qf 30 0 3,ql 31 1 30,qz 32 31,qm 5 32]
def QqT:LL:=[qi 6 0]
def QqU:LL:=[qm 33 6,qf 34 1 1,ql 35 1 34,qz 36 35,qo .lss 37 33 36,qm 38 37,qg 38 true (qm 39 6),qg 38 true (qk .lss 40 39 10),qP 41 38 40,qm 42 41,qg 42 true (qm 43 5),
 qg 42 true (qk .gtr 44 43 0),qP 45 42 44]
def QqV:LL:=[qf 48 1 3,ql 49 1 48,qf 50 1 1,ql 51 1 50,qm 52 6,qd 53 3 51 52,qQp 54 (.iaa 3 1 (.t 53) (.k (.int .i64 (0)))),ql 55 1 54,
 qQp 56 (.bin .rem (.t 55) (.k (.int .u8 (2)))),qQp 57 (.conv .i64 (.t 56)),qf 58 1 1,ql 59 1 58,qm 60 6,qd 61 3 59 60,
 qQp 62 (.iaa 3 1 (.t 61) (.k (.int .i64 (1)))),ql 63 1 62,qQp 64 (.conv .i64 (.t 63)),qm 65 5,qo .rem 66 64 65,qf 67 1 1,ql 68 1 67,qm 69 6,qd 70 3 68 69,
 qQp 71 (.iaa 3 1 (.t 70) (.k (.int .i64 (2)))),ql 72 1 71,qQp 73 (.conv .i64 (.t 72)),qm 74 5,qo .rem 75 73 74,
 qu 76 [.int .i64 (0),.int .i64 (0),.int .i64 (0)] [(0,1,.t 57),(1,1,.t 66),(2,1,.t 75)],
 qQp 77 (.buildSl 3 24 (.agg [.int .i64 (0),.int .i64 (0),.int .i64 (0)]) 1 [(0,.t 76)]),qp 78 3 24 49 77,qf 79 1 3,qs 1 79 78]
def QqW:LL:=[qm 46 6,qk .add 47 46 1,qm 6 47]
def QqX:LC:=QQ [QQ [.reg QqU [1,2,3,5,6,45],.cond (.t 45) .skip (.exit 2)],.block 3 (.dreg [(1,none,[],true),(29,none,[1],false)] QqV [1,2,3,5,6]),.reg QqW [1,2,3,5,6]]
def QqY:LL:=[qL 80 2 3,qs 2 2 80]
def Qhv(F:Fn):LC:=QQ [.reg QqL [1,2],.reg QqM [1,2,3],QQ [.reg QqN [1,2,3,4],.block 0 (.loop [1,2,3,4] QqR)],.reg QqS [1,2,3,5],QQ [.reg QqT [1,2,3,5,6],.block 2 (.loop [1,2,3,5,6] QqX)],.reg QqY [2],.ret]
def u8s(l:List Int):List D:=l.map fun x=>.int .u8 x
def trs(l:List E):List D:=l.map fun x=>.agg [.int .u8 x.t,.int .u8 x.f,.int .u8 x.o]
attribute [go_sem] QqL QqM QqN QqO QqP QqQ QqS QqT QqU QqV QqW QqY Qhv
theorem Qaf(l:List Int):(u8s l).length=l.length:=by simp [u8s]
theorem QbD(l:List E):(trs l).length=l.length:=by simp [trs]
theorem QqZ{l:List Int}{i:Nat}(h:i<l.length):(u8s l)[i]?=some (.int .u8 (gt l (i:Int))):=by
 rw[Xc h];simp [u8s,h]
theorem QVJ{l:List E}{i:Nat}(h:i<l.length):(trs l)[i]?=some (.agg [.int .u8 (gt l (i:Int)).t,.int .u8 (gt l (i:Int)).f,.int .u8 (gt l (i:Int)).o]):=by
 rw[Xc h];simp [trs,h]
theorem QVK(l:List Int):(u8s l).all D.flatE=true:=by simp [u8s,D.flatE,D.flat0]
theorem QVL(l:List E):(trs l).all D.flatE=true:=by simp [trs,D.flatE,D.flat0]
attribute [go_sem] Qaf QbD QqZ QVJ QVK QVL
structure Dr where
 n:List Int
 e:List E
 deriving DecidableEq,Inhabited
def drD(x:Dr):D:=.agg [.lst 1 (u8s x.n),.lst 3 (trs x.e)]
def XF(x:Int):Prop:=0≤x∧x≤255
def Dr.ok(x:Dr):Prop:=(∀v∈x.n,XF v)∧∀v∈x.e,XF v.t∧XF v.f∧XF v.o
def JE(x:Dr):List Int:=(x.n.take 8).map fun v=>v.tmod 3
def QbE(x:Dr)(m:Int)(t:E):E:=⟨t.t.tmod 2,t.f.tmod m,t.o.tmod m⟩
def Xt(x:Dr):G:=⟨JE x,if (JE x).length=0 then [] else (x.e.take 10).map (QbE x (JE x).length)⟩
section
variable (P:Program) (F:String→Nat)
def QdS:Prop:=∀x:Dr,x.ok→x.n.length≤QW→x.e.length≤QW→FC P (F "aa") [drD x] (gA (Xt x)) []
end
def gL(g:G):List D:=[.lst 1 (QR g.n),.lst 3 (eds g.e)]
def moL(m:Mo):List D:=[.lst 1 (QR m.n),.lst 1 (QR m.e)]
def Mo.sm(m:Mo):Prop:=m.n.length≤QW∧m.e.length≤QW
section
variable {P:Program} {F:String→Nat} {α:Type}
theorem Zq{x m:Int}(hx:0≤x)(hm:0<m):0≤x.tmod m∧x.tmod m<m:=⟨Int.tmod_nonneg _ hx,Int.tmod_lt_of_pos _ hm⟩
theorem QVM(x:Dr)(hx:x.ok)(h1:x.n.length≤QW)(h2:x.e.length≤QW):W P (Qhv F) (Done [.c 2 true 2] [] (gA (Xt x)) []) (init [drD x]):=by
 refine QZ ?_
 obtain⟨xn,xe⟩:=x
 obtain⟨o1,o2⟩:=hx
 simp only at h1 h2 o1 o2
 unfold QW at h1 h2
 simp(disch:=omega)only[go_sem,drD]
 have ml:∀i,((xn.take i).map fun v=>v.tmod 3).length=min i xn.length:=fun i=>by simp
 refine Q5 (fun i:Nat=>⟨[(1,D.pt 0 0),(2,D.pt 3 0),(3,D.pt 6 0),(4,D.int IntKind.i64 i)],
   [(0,Ent.box [D.lst 1 (u8s xn),D.lst 3 (trs xe)]),(1,Ent.arr 1 []),(2,Ent.arr 3 []),(3,Ent.box [D.sl 1 0 0,D.sl 2 0 0]),(4,Ent.arr 1 (QR ((xn.take i).map fun v=>v.tmod 3))),(5,Ent.arr 3 []),
    (6,Ent.box [D.sl 4 0 i,D.sl 5 0 0])],7⟩) (fun i=>i≤xn.length∧i≤8) (fun i=>8-i) 0 ?_ ?_ ?_
 ·simp(disch:=omega)only[go_sem]
  rfl
 ·simp
 ·rintro i ⟨hi,hi8⟩
  have hml:((xn.take i).map fun v=>v.tmod 3).length=i:=by rw[ml];omega
  simp(disch:=omega)only[go_sem,QqR]
  refine Q7 ?ga ?gb
  case' ga=>
   intro c
   simp(disch:=omega)only[go_sem,c]
   refine Q7 ?gc ?gd
   case' gc=>
    intro c2
    have ho:=o1 _ (gt_mem (l:=xn) (j:=i) (by omega) (by omega))
    have hb:=Zq (m:=3) ho.1 (by omega)
    have hz:¬((3:Int)=0):=by omega
    simp(disch:=omega)only[go_sem,hml,hz]
    exact⟨i+1,by rw[Yk (by omega)];simp,by omega,by omega⟩
   intro c2
   have h8:i=8∨i=xn.length:=by omega
   simp(disch:=omega)only[go_sem]
  case' gb=>
   intro c
   have h8:i=8∨i=xn.length:=by omega
   simp(disch:=omega)only[go_sem,c]
  all_goals
   have hmn:JE ⟨xn,xe⟩=(xn.take i).map fun v=>v.tmod 3:=by
    simp only[JE]
    rw[show xn.take 8=xn.take i from List.take_eq_take_iff.2 (by omega)]
   have fin:∀j:Nat,(0<i→j=10∨j=xe.length)→(i=0→j=0)→j≤10→Xt ⟨xn,xe⟩=⟨(xn.take i).map fun v=>v.tmod 3,(xe.take j).map (QbE ⟨xn,xe⟩ i)⟩:=fun j h1 h2 h3=>by
    simp only[Xt,hmn,hml]
    by_cases h0:i=0
    ·rw[if_pos h0,h2 h0];simp
    ·rw[if_neg h0,show xe.take 10=xe.take j from List.take_eq_take_iff.2 (by have:=h1 (by omega);omega)]
   generalize hns:((xn.take i).map fun v=>v.tmod 3)=ns at hml fin
   clear hmn hns
   refine Q5 (fun j:Nat=>⟨[(1,D.pt 0 0),(2,D.pt 3 0),(3,D.pt 6 0),(5,D.int IntKind.i64 i),(6,D.int IntKind.i64 j)],
    [(0,Ent.box [D.lst 1 (u8s xn),D.lst 3 (trs xe)]),(1,Ent.arr 1 []),(2,Ent.arr 3 []),(3,Ent.box [D.sl 1 0 0,D.sl 2 0 0]),(4,Ent.arr 1 (QR ns)),(5,Ent.arr 3 (eds ((xe.take j).map (QbE ⟨xn,xe⟩ i)))),
     (6,Ent.box [D.sl 4 0 i,D.sl 5 0 j])],7⟩) (fun j=>j≤xe.length∧j≤10∧(i=0→j=0)) (fun j=>10-j) 0 ?_ ?_ ?_
   ·simp(disch:=omega)only[go_sem]
    rfl
   ·simp
   ·rintro j ⟨hj,hj10,hj0⟩
    have hel:((xe.take j).map (QbE ⟨xn,xe⟩ i)).length=j:=by simp;omega
    simp(disch:=omega)only[go_sem,QqX]
    refine Q7 (fun d=>?_) (fun d=>?_)
    ·simp(disch:=omega)only[go_sem,d]
     refine Q7 (fun d2=>?_) (fun d2=>?_)
     ·simp(disch:=omega)only[go_sem,d2]
      refine Q7 (fun d3=>?_) (fun d3=>?_)
      ·obtain⟨ot,of,oo⟩:=o2 _ (gt_mem (l:=xe) (j:=j) (by omega) (by omega))
       have b1:=Zq (x:=(gt xe j).t) (m:=2) ot.1 (by omega)
       have b2:=Zq (x:=(gt xe j).f) (m:=i) of.1 (by omega)
       have b3:=Zq (x:=(gt xe j).o) (m:=i) oo.1 (by omega)
       have w1:IntKind.i64.wrap (gt xe j).f=(gt xe j).f:=wrap_i64 (by have:=of.1;omega) (by have:=of.2;omega)
       have w2:IntKind.i64.wrap (gt xe j).o=(gt xe j).o:=wrap_i64 (by have:=oo.1;omega) (by have:=oo.2;omega)
       have z1:¬((2:Int)=0):=by omega
       have z2:¬((i:Int)=0):=by omega
       simp(disch:=omega)only[go_sem,hel,w1,w2,z1,z2,Int.reduceToNat]
       exact⟨j+1,by rw[Yk (by omega)];simp [QbE],by omega,by omega⟩
      ·simp(disch:=omega)only[go_sem,d3,hel,hml]
       rw[fin j (by omega) hj0 hj10]
       simp [gA]
     ·simp(disch:=omega)only[go_sem,d2,hel,hml]
      rw[fin j (by omega) hj0 hj10]
      simp [gA]
    ·simp(disch:=omega)only[go_sem,d,hel,hml]
     rw[fin j (by omega) hj0 hj10]
     simp [gA]
theorem Q8{g:G}(h:QX g=0):g.n.length≤40∧g.e.length≤80∧(∀x,x∈g.n→okN x=true)∧∀x,x∈g.e→XP g.n.length x=true:=by
 unfold QX at h
 split at h
 ·simp at h
 ·rename_i h1
  split at h
  ·rename_i h2
   simp only[Qi,Qr] at h2
   exact⟨by omega,by omega,h2.1,h2.2⟩
  ·simp at h
theorem YZ{n:Int}{x:E}(h:XP n x=true):(0≤x.t∧x.t≤99)∧(0≤x.f∧x.f<n)∧(0≤x.o∧x.o<n):=by
 simp only[XP,Qi,Qk] at h
 omega
theorem Jr{n:Int}{x:E}(h1:0≤x.t∧x.t≤99)(h2:0≤x.f∧x.f<n)(h3:0≤x.o∧x.o<n):XP n x=true:=by
 simp only[XP,Qi,Qk]
 omega
theorem QVN(x:Dr):(JE x).length≤8:=by simp [JE];omega
theorem QVO(x:Dr):(Xt x).e.length≤10:=by
 simp only[Xt]
 split
 ·simp
 ·simp;omega
theorem Qq0{x:Dr}(hx:x.ok):QX (Xt x)=0:=by
 have h1:=QVN x
 have h2:=QVO x
 unfold QX
 rw[if_neg (show ¬(40<(Xt x).n.length∨80<(Xt x).e.length) by simp only[Xt] at h2 ⊢;omega),if_pos]
 simp only[Qi,Qr]
 refine⟨fun v hv=>?_,fun v hv=>?_⟩
 ·simp only[Xt,JE,Qu] at hv
  obtain⟨u,hu,rfl⟩:=hv
  have:=hx.1 u (QF hu)
  have:=Zq (x:=u) (m:=3) this.1 (by omega)
  simp only[okN,Qk]
  omega
 ·simp only[Xt] at hv
  split at hv
  ·simp at hv
  ·rename_i h0
   simp only[Qu] at hv
   obtain⟨u,hu,rfl⟩:=hv
   obtain⟨o1,o2,o3⟩:=hx.2 u (QF hu)
   have b1:=Zq (x:=u.t) (m:=2) o1.1 (by omega)
   have b2:=Zq (x:=u.f) (m:=(JE x).length) o2.1 (by omega)
   have b3:=Zq (x:=u.o) (m:=(JE x).length) o3.1 (by omega)
   exact Jr (by simp only[QbE];omega) b2 b3
end
def Qq1:LL:=[qB 3 0,qB 4 1,qB 5 2,qi 6 0]
def Qq2(F:Fn):LL:=[qL 15 2 3,qc 16 (F "c") [.t 15],qm 7 16]
def Qq3:LL:=[qm 17 7,qk .neq 18 17 0]
def Qq4:LL:=[qm 19 7,qm 6 19]
def Qq5(F:Fn):LL:=[qL 20 2 4,qc 21 (F "c") [.t 20],qm 8 21]
def Qq6:LL:=[qm 22 8,qk .neq 23 22 0]
def Qq7:LL:=[qm 24 8,qm 6 24]
def Qq8:LL:=[qf 25 0 5,ql 26 1 25,qz 27 26,qf 28 0 3,ql 29 1 28,qz 30 29,qo .neq 31 27 30,qm 32 31,qg 32 false (qf 33 1 5),qg 32 false (ql 34 1 33),qg 32 false (qz 35 34),
 qg 32 false (qf 36 1 3),qg 32 false (ql 37 1 36),qg 32 false (qz 38 37),qg 32 false (qo .neq 39 35 38),qQ 40 32 39]
def Qq9:LL:=[qi 6 20]
def Qra:LL:=[qf 41 0 5,ql 42 1 41,qz 43 42,qi 44 0]
def Qrb:LL:=[qo .lss 45 44 43]
def Qrc:LL:=[qm 46 44,qd 47 1 42 44,ql 48 1 47,qm 9 46,qm 10 48]
def Qrd:LL:=[qm 49 10,qk .lss 50 49 0,qm 51 50,qg 51 false (qm 52 10),qg 51 false (qf 53 0 4),qg 51 false (ql 54 1 53),qg 51 false (qz 55 54),qg 51 false (qo .geq 56 52 55),qQ 57 51 56]
def Qre:LL:=[qi 6 6]
def Qrf:LL:=[qf 58 0 4,ql 59 1 58,qm 60 10,qd 61 1 59 60,ql 62 1 61,qf 63 0 3,ql 64 1 63,qm 65 9,qd 66 1 64 65,ql 67 1 66,qo .neq 68 62 67]
def Qrg:LL:=[qi 6 13]
def Qrh:LL:=[qk .add 69 44 1,qm 44 69]
def Qri:LC:=QQ [.reg Qrb [3,4,5,42,43,44,45],.cond (.t 45) .skip (.exit 0),.block 1 (QQ [.reg Qrc [3,4,5,9,10,42,43,44],QQ [.reg Qrd [3,4,5,9,10,42,43,44,57],.cond (.t 57) (QQ [.reg Qre [6],.ret]) .skip],.dreg [] Qrf [3,4,5,42,43,44,68],.cond (.t 68) (QQ [.reg Qrg [6],.ret]) .skip]),.reg Qrh [3,4,5,42,43,44]]
def Qrj:LL:=[qf 70 1 5,ql 71 1 70,qz 72 71,qi 73 0]
def Qrk:LL:=[qo .lss 74 73 72]
def Qrl:LL:=[qm 75 73,qd 76 1 71 73,ql 77 1 76,qm 11 75,qm 12 77]
def Qrm:LL:=[qm 78 12,qk .lss 79 78 0,qm 80 79,qg 80 false (qm 81 12),qg 80 false (qf 82 1 4),qg 80 false (ql 83 1 82),qg 80 false (qz 84 83),qg 80 false (qo .geq 85 81 84),qQ 86 80 85]
def Qrn:LL:=[qi 6 6]
def Qro:LL:=[qf 87 1 3,ql 88 1 87,qm 89 11,qd 90 3 88 89,qL 91 3 90,qf 92 1 4,ql 93 1 92,qm 94 12,qd 95 3 93 94,qL 96 3 95,qa 13 [.int .i64 (0),.int .i64 (0),.int .i64 (0)],
 qa 14 [.int .i64 (0),.int .i64 (0),.int .i64 (0)],qs 3 13 91,qs 3 14 96]
def Qrp:LL:=[qf 97 0 13,ql 98 1 97,qf 99 0 14,ql 100 1 99,qo .neq 101 98 100]
def Qrq:LL:=[qi 6 13]
def Qrr:LL:=[qf 102 0 5,ql 103 1 102,qf 104 1 13,ql 105 1 104,qd 106 1 103 105,ql 107 1 106,qf 108 1 14,ql 109 1 108,qo .neq 110 107 109,qm 111 110,qg 111 false (qf 112 0 5),
 qg 111 false (ql 113 1 112),qg 111 false (qf 114 2 13),qg 111 false (ql 115 1 114),qg 111 false (qd 116 1 113 115),qg 111 false (ql 117 1 116),qg 111 false (qf 118 2 14),
 qg 111 false (ql 119 1 118),qg 111 false (qo .neq 120 117 119),qQ 121 111 120]
def Qrs:LL:=[qi 6 11]
def Qrt:LL:=[qk .add 122 73 1,qm 73 122]
def Qru:LC:=QQ [.reg Qrk [3,4,5,71,72,73,74],.cond (.t 74) .skip (.exit 2),.block 3 (QQ [.reg Qrl [3,4,5,11,12,71,72,73],QQ [.reg Qrm [3,4,5,11,12,71,72,73,86],.cond (.t 86) (QQ [.reg Qrn [6],.ret]) .skip],.dreg [(6,none,[],true),(8,none,[],true),(9,none,[],true),(12,none,[6,8,9],false)] Qro [3,4,5,13,14,71,72,73],QQ [.reg Qrp [3,4,5,13,14,71,72,73,101],.cond (.t 101) (QQ [.reg Qrq [6],.ret]) .skip],.dreg [] Qrr [3,4,5,71,72,73,121],.cond (.t 121) (QQ [.reg Qrs [6],.ret]) .skip]),.reg Qrt [3,4,5,71,72,73]]
def Qrv:LL:=[qi 6 0]
def Qhw(F:Fn):LC:=QQ [.reg Qq1 [3,4,5],QQ [.reg (Qq2 F) [3,4,5,7],.reg Qq3 [3,4,5,7,18],.cond (.t 18) (QQ [.reg Qq4 [6],.ret]) .skip],QQ [.reg (Qq5 F) [3,4,5,8],.reg Qq6 [3,4,5,8,23],.cond (.t 23) (QQ [.reg Qq7 [6],.ret]) .skip],QQ [.reg Qq8 [3,4,5,40],.cond (.t 40) (QQ [.reg Qq9 [6],.ret]) .skip],QQ [.reg Qra [3,4,5,42,43,44],.block 0 (.loop [3,4,5,42,43,44] Qri)],QQ [.reg Qrj [3,4,5,71,72,73],.block 2 (.loop [3,4,5,71,72,73] Qru)],.reg Qrv [6],.ret]
def Qrw:LL:=[qB 3 0,qB 4 1,qB 5 2,qi 6 0]
def Qrx(F:Fn):LL:=[qL 13 2 3,qc 14 (F "d") [.t 13],qm 7 14]
def Qry:LL:=[qm 15 7,qk .neq 16 15 0]
def Qrz:LL:=[qm 17 7,qm 6 17]
def QrA(F:Fn):LL:=[qL 18 2 4,qc 19 (F "d") [.t 18],qm 8 19]
def QrB:LL:=[qm 20 8,qk .neq 21 20 0]
def QrC:LL:=[qm 22 8,qm 6 22]
def QrD:LL:=[qf 23 0 5,ql 24 1 23,qz 25 24,qf 26 0 3,ql 27 1 26,qz 28 27,qo .neq 29 25 28,qm 30 29,qg 30 false (qf 31 1 5),qg 30 false (ql 32 1 31),qg 30 false (qz 33 32),
 qg 30 false (qf 34 1 3),qg 30 false (ql 35 1 34),qg 30 false (qz 36 35),qg 30 false (qo .neq 37 33 36),qQ 38 30 37]
def QrE:LL:=[qi 6 20]
def QrF:LL:=[qi 9 0]
def QrG:LL:=[qm 39 9,qf 40 0 3,ql 41 1 40,qz 42 41,qo .lss 43 39 42]
def QrH:LL:=[qf 46 0 5,ql 47 1 46,qm 48 9,qd 49 1 47 48,ql 50 1 49,qk .lss 51 50 0,qm 52 51,qg 52 false (qf 53 0 5),qg 52 false (ql 54 1 53),qg 52 false (qm 55 9),qg 52 false (qd 56 1 54 55),
 qg 52 false (ql 57 1 56),qg 52 false (qf 58 0 4),qg 52 false (ql 59 1 58),qg 52 false (qz 60 59),qg 52 false (qo .geq 61 57 60),qQ 62 52 61]
def QrI:LL:=[qi 6 6]
def QrJ:LL:=[qf 63 0 4,ql 64 1 63,qf 65 0 5,ql 66 1 65,qm 67 9,qd 68 1 66 67,ql 69 1 68,qd 70 1 64 69,ql 71 1 70,qf 72 0 3,ql 73 1 72,qm 74 9,qd 75 1 73 74,ql 76 1 75,qo .neq 77 71 76]
def QrK:LL:=[qi 6 13]
def QrL:LL:=[qm 44 9,qk .add 45 44 1,qm 9 45]
def QrM:LC:=QQ [QQ [.reg QrG [3,4,5,9,43],.cond (.t 43) .skip (.exit 0)],.block 1 (QQ [QQ [.dreg [] QrH [3,4,5,9,62],.cond (.t 62) (QQ [.reg QrI [6],.ret]) .skip],.dreg [] QrJ [3,4,5,9,77],.cond (.t 77) (QQ [.reg QrK [6],.ret]) .skip]),.reg QrL [3,4,5,9]]
def QrN:LL:=[qi 10 0]
def QrO:LL:=[qm 78 10,qf 79 1 3,ql 80 1 79,qz 81 80,qo .lss 82 78 81]
def QrP:LL:=[qf 85 1 5,ql 86 1 85,qm 87 10,qd 88 1 86 87,ql 89 1 88,qk .lss 90 89 0,qm 91 90,qg 91 false (qf 92 1 5),qg 91 false (ql 93 1 92),qg 91 false (qm 94 10),qg 91 false (qd 95 1 93 94),
 qg 91 false (ql 96 1 95),qg 91 false (qf 97 1 4),qg 91 false (ql 98 1 97),qg 91 false (qz 99 98),qg 91 false (qo .geq 100 96 99),qQ 101 91 100]
def QrQ:LL:=[qi 6 6]
def QrR:LL:=[qf 102 1 3,ql 103 1 102,qm 104 10,qd 105 3 103 104,qL 106 3 105,qf 107 1 4,ql 108 1 107,qf 109 1 5,ql 110 1 109,qm 111 10,qd 112 1 110 111,ql 113 1 112,qd 114 3 108 113,
 qL 115 3 114,qa 11 [.int .i64 (0),.int .i64 (0),.int .i64 (0)],qa 12 [.int .i64 (0),.int .i64 (0),.int .i64 (0)],qs 3 11 106,qs 3 12 115]
def QrS:LL:=[qf 116 0 11,ql 117 1 116,qf 118 0 12,ql 119 1 118,qo .neq 120 117 119]
def QrT:LL:=[qi 6 13]
def QrU:LL:=[qf 121 0 5,ql 122 1 121,qf 123 1 11,ql 124 1 123,qd 125 1 122 124,ql 126 1 125,qf 127 1 12,ql 128 1 127,qo .neq 129 126 128,qm 130 129,qg 130 false (qf 131 0 5),
 qg 130 false (ql 132 1 131),qg 130 false (qf 133 2 11),qg 130 false (ql 134 1 133),qg 130 false (qd 135 1 132 134),qg 130 false (ql 136 1 135),qg 130 false (qf 137 2 12),
 qg 130 false (ql 138 1 137),qg 130 false (qo .neq 139 136 138),qQ 140 130 139]
def QrV:LL:=[qi 6 11]
def QrW:LL:=[qm 83 10,qk .add 84 83 1,qm 10 84]
def QrX:LC:=QQ [QQ [.reg QrO [3,4,5,10,82],.cond (.t 82) .skip (.exit 2)],.block 3 (QQ [QQ [.dreg [] QrP [3,4,5,10,101],.cond (.t 101) (QQ [.reg QrQ [6],.ret]) .skip],.dreg [(6,none,[],true),(8,none,[],true),(10,none,[],true),(11,none,[],true),(12,none,[],true),(13,none,[],true),(16,none,[6,8,10,11,12,13],false)] QrR [3,4,5,10,11,12],QQ [.reg QrS [3,4,5,10,11,12,120],.cond (.t 120) (QQ [.reg QrT [6],.ret]) .skip],.dreg [] QrU [3,4,5,10,140],.cond (.t 140) (QQ [.reg QrV [6],.ret]) .skip]),.reg QrW [3,4,5,10]]
def QrY:LL:=[qi 6 0]
def Qhx(F:Fn):LC:=QQ [.reg Qrw [3,4,5],QQ [.reg (Qrx F) [3,4,5,7],.reg Qry [3,4,5,7,16],.cond (.t 16) (QQ [.reg Qrz [6],.ret]) .skip],QQ [.reg (QrA F) [3,4,5,8],.reg QrB [3,4,5,8,21],.cond (.t 21) (QQ [.reg QrC [6],.ret]) .skip],QQ [.reg QrD [3,4,5,38],.cond (.t 38) (QQ [.reg QrE [6],.ret]) .skip],QQ [.reg QrF [3,4,5,9],.block 0 (.loop [3,4,5,9] QrM)],QQ [.reg QrN [3,4,5,10],.block 2 (.loop [3,4,5,10] QrX)],.reg QrY [6],.ret]
def QVP:Hints:=hn [] [(0,[3,4,5]),(1,[3,4,5,7]),(2,[3,4,5,7,16]),(3,[6]),(4,[3,4,5,8]),(5,[3,4,5,8,21]),(6,[6]),(7,[3,4,5,38]),(8,[6]),(9,[3,4,5,9]),(10,[3,4,5,9,43]),(11,[3,4,5,9]),(12,[3,4,5,9,62]),(13,[6]),(14,[3,4,5,9,77]),(15,[6]),(16,[3,4,5,10]),(17,[3,4,5,10,82]),(18,[3,4,5,10]),(19,[3,4,5,10,101]),(20,[6]),(21,[3,4,5,10,11,12]),(22,[3,4,5,10,11,12,120]),(23,[6]),(24,[3,4,5,10,140]),(25,[6]),(26,[6])] [(10,[3,4,5,9]),(17,[3,4,5,10])]
def QrZ:LL:=[qn 4 1]
def Qr0:LL:=[qn 5 1]
def Qr1:LL:=[qi 6 0]
def Qr2:LL:=[qm 7 6,qm 8 0,qz 9 8,qo .lss 10 7 9]
def Qr3:LL:=[qm 13 5,qm 14 1,qm 15 0,qm 16 6,qd 17 1 15 16,ql 18 1 17,qd 19 1 14 18,ql 20 1 19,qQp 21 (.buildSl 1 8 (.int .i64 (0)) 1 [(0,.t 20)]),qp 22 1 8 13 21,qm 5 22]
def Qr4:LL:=[qm 11 6,qk .add 12 11 1,qm 6 12]
def Qr5:LC:=QQ [QQ [.reg Qr2 [0,1,5,6,10],.cond (.t 10) .skip (.exit 0)],.block 1 (.reg Qr3 [0,1,5,6]),.reg Qr4 [0,1,5,6]]
def Qr6:LL:=[qm 23 5,qm 4 23]
def Qhy(F:Fn):LC:=QQ [.reg QrZ [0,1],.reg Qr0 [0,1,5],QQ [.reg Qr1 [0,1,5,6],.block 0 (.loop [0,1,5,6] Qr5)],.reg Qr6 [4],.ret]
def Qr7:LL:=[qB 2 0,qB 3 1,qa 4 [.nl 1,.nl 1]]
def Qr8(F:Fn):LL:=[qf 5 0 2,ql 6 1 5,qf 7 0 3,ql 8 1 7,qc 9 (F "ac") [.t 6,.t 8],qf 10 1 2,ql 11 1 10,qf 12 1 3,ql 13 1 12,qc 14 (F "ac") [.t 11,.t 13],qu 15 [.nl 1,.nl 1] [(0,1,.t 9),(1,1,.t 14)],
 qs 2 4 15]
def Qhz(F:Fn):LC:=QQ [.reg Qr7 [2,3,4],.dreg [(4,none,[],true),(6,(some 32),[4],false),(8,(some 128),[4],false)] (Qr8 F) [4],.ret]
def YJ(bn:List Int):List Int→List Int→Int
 |k::ms,t::as=>if 0≤k∧k<bn.length then (if gt bn k=t then YJ bn ms as else 13) else 6
 |_,_=>0
def Ze(be:List E)(mn:List Int):List Int→List E→Int
 |k::ms,x::as=>if 0≤k∧k<be.length then (if x.t=(gt be k).t then (if gt mn x.f=(gt be k).f∧gt mn x.o=(gt be k).o then Ze be mn ms as else 11) else 13) else 6
 |_,_=>0
def XE(a b:G)(m:Mo):Int:=
 if QX a≠0 then QX a else if QX b≠0 then QX b else if m.n.length≠a.n.length∨m.e.length≠a.e.length then 20
 else if YJ b.n m.n a.n≠0 then YJ b.n m.n a.n else Ze b.e m.n m.e a.e
def thr(l by_:List Int):List Int:=l.map fun x=>gt by_ x
def QY(m n:Mo):Mo:=⟨thr m.n n.n,thr m.e n.e⟩
attribute [go_sem] Qq1 Qq2 Qq3 Qq4 Qq5 Qq6 Qq7 Qq8 Qq9 Qra Qrb Qrc Qrd Qre Qrf Qrg Qrh Qrj Qrk Qrl Qrm Qrn Qro Qrp Qrq Qrr Qrs Qrt Qrv Qhw Qrw Qrx Qry Qrz QrA QrB QrC QrD QrE QrF QrG QrH QrI QrJ QrK QrL QrN QrO QrP QrQ QrR QrS QrT QrU QrV QrW QrY Qhx QrZ Qr0 Qr1 Qr2 Qr3 Qr4 Qr6 Qhy Qr7 Qr8 Qhz
section
variable (P:Program) (F:String→Nat)
def QaA:Prop:=∀(a b:G)(m:Mo),FC P (F "e") [gD a,gD b,mD m] (.int .i64 (XE a b m)) []
def QbF:Prop:=∀(a b:G)(m:Mo),FC P (F "s") [gD a,gD b,mD m] (.int .i64 (XE a b m)) []
def QhA:Prop:=∀l b:List Int,l.length≤1000000→(∀x∈l,0≤x∧x<b.length)→FC P (F "ac") [.lst 1 (QR l),.lst 1 (QR b)] (.arr 1 (QR (thr l b))) []
def QdT:Prop:=∀m n:Mo,m.n.length≤1000000→m.e.length≤1000000→(∀x∈m.n,0≤x∧x<n.n.length)→(∀x∈m.e,0≤x∧x<n.e.length)→FC P (F "n") [mD m,mD n] (mA (QY m n)) []
end
section
variable {P:Program} {F:String→Nat} {α:Type}
theorem Qr9{bn ms as:List Int}{i:Nat}(h1:i<ms.length)(h2:i<as.length):YJ bn (ms.drop i) (as.drop i)=
  if 0≤gt ms i∧gt ms i<bn.length then (if gt bn (gt ms i)=gt as i then YJ bn (ms.drop (i+1)) (as.drop (i+1)) else 13) else 6:=by
 rw[Qaz h1,Qaz h2,YJ]
theorem Qsa{be:List E}{mn ms:List Int}{as:List E}{i:Nat}(h1:i<ms.length)(h2:i<as.length):Ze be mn (ms.drop i) (as.drop i)=
  if 0≤gt ms i∧gt ms i<be.length then (if (gt as i).t=(gt be (gt ms i)).t then (if gt mn (gt as i).f=(gt be (gt ms i)).f∧gt mn (gt as i).o=(gt be (gt ms i)).o then Ze be mn (ms.drop (i+1)) (as.drop (i+1)) else 11) else 13) else 6:=by
 rw[Qaz h1,Qaz h2,Ze]
theorem Qsb{bn ms as:List Int}{i:Nat}(h1:ms.length≤i):YJ bn (ms.drop i) (as.drop i)=0:=by
 rw[QB h1];rfl
theorem Qsc{be:List E}{mn ms:List Int}{as:List E}{i:Nat}(h1:ms.length≤i):Ze be mn (ms.drop i) (as.drop i)=0:=by
 rw[QB h1];cases as.drop i<;>rfl
theorem QVQ(hv:Qad P F)(a b:G)(m:Mo):W P (Qhw F) (Done [.t 6] [] (.int .i64 (XE a b m)) []) (init [gD a,gD b,mD m]):=by
 refine QZ ?_
 have rva:=hv a
 have rvb:=hv b
 have sva:=@Q8 a
 have svb:=@Q8 b
 have hvm:XE a b m=if QX a≠0 then QX a else if QX b≠0 then QX b else if m.n.length≠a.n.length∨m.e.length≠a.e.length then 20
  else if YJ b.n m.n a.n≠0 then YJ b.n m.n a.n else Ze b.e m.n m.e a.e:=rfl
 rw[hvm]
 generalize QX a=va at*
 generalize QX b=vb at*
 clear hvm
 obtain⟨an,ae⟩:=a
 obtain⟨bn,be⟩:=b
 obtain⟨mn,me⟩:=m
 simp only[gD] at rva rvb
 simp only at sva svb
 simp(disch:=omega)only[go_sem,gD,mD]
 refine QT rva ?_
 simp(disch:=omega)only[go_sem]
 refine XX (fun c1=>?_) (fun c1=>?_)
 ·simp(disch:=omega)only[go_sem]
 ·subst c1
  obtain⟨a1,a2,_,a4⟩:=sva rfl
  simp(disch:=omega)only[go_sem]
  refine QT rvb ?_
  simp(disch:=omega)only[go_sem]
  refine XX (fun c2=>?_) (fun c2=>?_)
  ·simp(disch:=omega)only[go_sem]
   simp [c2]
  ·subst c2
   obtain⟨b1,b2,_,b4⟩:=svb rfl
   simp(disch:=omega)only[go_sem]
   refine XX (fun c3=>?_) (fun c3=>?_)
   ·simp(disch:=omega)only[go_sem,c3]
    rw[if_neg (by simp),if_neg (by simp)]
   ·simp(disch:=omega)only[go_sem,c3]
    refine XX (fun c4=>?_) (fun c4=>?_)
    ·simp(disch:=omega)only[go_sem,c3,c4]
     rw[if_neg (by simp),if_neg (by simp)]
    ·have d3:mn.length=an.length:=by omega
     have d4:me.length=ae.length:=by omega
     rw[if_neg (by simp),if_neg (by simp),if_neg (by simp only;omega)]
     clear c3 c4
     simp(disch:=omega)only[go_sem,d3,d4]
     refine Q5 (fun i:Nat=>⟨[(3,.pt 0 0),(4,.pt 1 0),(5,.pt 2 0),(42,.lst 1 (QR mn)),(43,.int .i64 an.length),(44,.int .i64 i)],
      [(0,.box [.lst 1 (QR an),.lst 3 (eds ae)]),(1,.box [.lst 1 (QR bn),.lst 3 (eds be)]),(2,.box [.lst 1 (QR mn),.lst 1 (QR me)])],3⟩)
      (fun i=>i≤mn.length∧YJ bn mn an=YJ bn (mn.drop i) (an.drop i)) (fun i=>mn.length-i) 0 ?_ ?_ ?_
     ·simp(disch:=omega)only[go_sem,d3]
      rfl
     ·simp
     ·rintro i ⟨hi,hn⟩
      simp(disch:=omega)only[go_sem,Qri]
      refine Q7 (fun c5=>?_) (fun c5=>?_)
      ·have hs:=Qr9 (bn:=bn) (ms:=mn) (as:=an) (i:=i) (by omega) (by omega)
       simp(disch:=omega)only[go_sem]
       refine Q7 (fun c6=>?_) (fun c6=>?_)
       ·simp(disch:=omega)only[go_sem,c6]
        rw[if_neg (show ¬(0≤gt mn i∧gt mn i<bn.length) by omega)] at hs
        rw[hn,hs]
        try simp
       ·simp(disch:=omega)only[go_sem,c6]
        refine Q7 (fun c7=>?_) (fun c7=>?_)
        ·simp(disch:=omega)only[go_sem]
         rw[if_neg (show ¬(0≤gt mn i∧gt mn i<bn.length) by omega)] at hs
         rw[hn,hs]
         try simp
        ·rw[if_pos (show (0≤gt mn i∧gt mn i<bn.length) by omega)] at hs
         simp(disch:=omega)only[go_sem]
         refine XX (fun c8=>?_) (fun c8=>?_)
         ·rw[if_neg c8] at hs
          simp(disch:=omega)only[go_sem]
          rw[hn,hs]
          try simp
         ·rw[if_pos c8] at hs
          simp(disch:=omega)only[go_sem]
          exact⟨i+1,by simp,⟨by omega,by rw[hn,hs]⟩,by omega⟩
      ·rw[Qsb (by omega)] at hn
       simp(disch:=omega)only[go_sem]
       refine Q5 (fun i:Nat=>⟨[(3,.pt 0 0),(4,.pt 1 0),(5,.pt 2 0),(71,.lst 1 (QR me)),(72,.int .i64 ae.length),(73,.int .i64 i)],
        [(0,.box [.lst 1 (QR an),.lst 3 (eds ae)]),(1,.box [.lst 1 (QR bn),.lst 3 (eds be)]),(2,.box [.lst 1 (QR mn),.lst 1 (QR me)])],3⟩)
        (fun i=>i≤me.length∧Ze be mn me ae=Ze be mn (me.drop i) (ae.drop i)) (fun i=>me.length-i) 0 ?_ ?_ ?_
       ·simp(disch:=omega)only[go_sem,d4]
        rfl
       ·simp
       ·rintro i ⟨hi,he⟩
        simp(disch:=omega)only[go_sem,Qru]
        refine Q7 (fun c5=>?_) (fun c5=>?_)
        ·have hs:=Qsa (be:=be) (mn:=mn) (ms:=me) (as:=ae) (i:=i) (by omega) (by omega)
         have hae:=YZ (a4 _ (gt_mem (l:=ae) (j:=i) (by omega) (by omega)))
         simp(disch:=omega)only[go_sem]
         refine Q7 (fun c6=>?_) (fun c6=>?_)
         ·simp(disch:=omega)only[go_sem,c6]
          rw[if_neg (show ¬(0≤gt me i∧gt me i<be.length) by omega)] at hs
          rw[hn,he,hs]
          simp
         ·simp(disch:=omega)only[go_sem,c6]
          refine Q7 (fun c7=>?_) (fun c7=>?_)
          ·simp(disch:=omega)only[go_sem]
           rw[if_neg (show ¬(0≤gt me i∧gt me i<be.length) by omega)] at hs
           rw[hn,he,hs]
           simp
          ·rw[if_pos (show (0≤gt me i∧gt me i<be.length) by omega)] at hs
           simp(disch:=omega)only[go_sem]
           refine XX (fun c8=>?_) (fun c8=>?_)
           ·rw[if_neg c8] at hs
            simp(disch:=omega)only[go_sem]
            rw[hn,he,hs]
            simp
           ·rw[if_pos c8] at hs
            simp(disch:=omega)only[go_sem]
            refine XX (fun c9=>?_) (fun c9=>?_)
            ·rw[if_neg (fun h=>c9 h.1)] at hs
             simp(disch:=omega)only[go_sem,c9]
             rw[hn,he,hs]
             simp
            ·simp(disch:=omega)only[go_sem,c9]
             refine XX (fun d1=>?_) (fun d1=>?_)
             ·rw[if_neg (fun h=>d1 h.2)] at hs
              simp(disch:=omega)only[go_sem]
              rw[hn,he,hs]
              simp
             ·rw[if_pos ⟨c9,d1⟩] at hs
              simp(disch:=omega)only[go_sem]
              exact⟨i+1,by simp,⟨by omega,by rw[he,hs]⟩,by omega⟩
        ·rw[Qsc (by omega)] at he
         simp(disch:=omega)only[go_sem]
         rw[hn,he]
         simp
theorem QVR(hv:Qa3 P F)(a b:G)(m:Mo):W P (Qhx F) (Done [.t 6] [] (.int .i64 (XE a b m)) []) (init [gD a,gD b,mD m]):=by
 refine QZ ?_
 have rva:=hv a
 have rvb:=hv b
 have sva:=@Q8 a
 have svb:=@Q8 b
 have hvm:XE a b m=if QX a≠0 then QX a else if QX b≠0 then QX b else if m.n.length≠a.n.length∨m.e.length≠a.e.length then 20
  else if YJ b.n m.n a.n≠0 then YJ b.n m.n a.n else Ze b.e m.n m.e a.e:=rfl
 rw[hvm]
 generalize QX a=va at*
 generalize QX b=vb at*
 clear hvm
 obtain⟨an,ae⟩:=a
 obtain⟨bn,be⟩:=b
 obtain⟨mn,me⟩:=m
 simp only[gD] at rva rvb
 simp only at sva svb
 simp(disch:=omega)only[go_sem,gD,mD]
 refine QT rva ?_
 simp(disch:=omega)only[go_sem]
 refine XX (fun c1=>?_) (fun c1=>?_)
 ·simp(disch:=omega)only[go_sem]
 ·subst c1
  obtain⟨a1,a2,_,a4⟩:=sva rfl
  simp(disch:=omega)only[go_sem]
  refine QT rvb ?_
  simp(disch:=omega)only[go_sem]
  refine XX (fun c2=>?_) (fun c2=>?_)
  ·simp(disch:=omega)only[go_sem]
   simp [c2]
  ·subst c2
   obtain⟨b1,b2,_,b4⟩:=svb rfl
   simp(disch:=omega)only[go_sem]
   refine XX (fun c3=>?_) (fun c3=>?_)
   ·simp(disch:=omega)only[go_sem,c3]
    rw[if_neg (by simp),if_neg (by simp)]
   ·simp(disch:=omega)only[go_sem,c3]
    refine XX (fun c4=>?_) (fun c4=>?_)
    ·simp(disch:=omega)only[go_sem,c3,c4]
     rw[if_neg (by simp),if_neg (by simp)]
    ·have d3:mn.length=an.length:=by omega
     have d4:me.length=ae.length:=by omega
     rw[if_neg (by simp),if_neg (by simp),if_neg (by simp only;omega)]
     clear c3 c4
     simp(disch:=omega)only[go_sem,d3,d4]
     refine Q5 (fun i:Nat=>⟨[(3,.pt 0 0),(4,.pt 1 0),(5,.pt 2 0),(9,.int .i64 i)],
      [(0,.box [.lst 1 (QR an),.lst 3 (eds ae)]),(1,.box [.lst 1 (QR bn),.lst 3 (eds be)]),(2,.box [.lst 1 (QR mn),.lst 1 (QR me)])],3⟩)
      (fun i=>i≤mn.length∧YJ bn mn an=YJ bn (mn.drop i) (an.drop i)) (fun i=>mn.length-i) 0 ?_ ?_ ?_
     ·simp(disch:=omega)only[go_sem,d3]
      rfl
     ·simp
     ·rintro i ⟨hi,hn⟩
      simp(disch:=omega)only[go_sem,QrM]
      refine Q7 (fun c5=>?_) (fun c5=>?_)
      ·have hs:=Qr9 (bn:=bn) (ms:=mn) (as:=an) (i:=i) (by omega) (by omega)
       simp(disch:=omega)only[go_sem]
       refine Q7 (fun c6=>?_) (fun c6=>?_)
       ·simp(disch:=omega)only[go_sem,c6]
        rw[if_neg (show ¬(0≤gt mn i∧gt mn i<bn.length) by omega)] at hs
        rw[hn,hs]
        try simp
       ·simp(disch:=omega)only[go_sem,c6]
        refine Q7 (fun c7=>?_) (fun c7=>?_)
        ·simp(disch:=omega)only[go_sem]
         rw[if_neg (show ¬(0≤gt mn i∧gt mn i<bn.length) by omega)] at hs
         rw[hn,hs]
         try simp
        ·rw[if_pos (show (0≤gt mn i∧gt mn i<bn.length) by omega)] at hs
         simp(disch:=omega)only[go_sem]
         refine XX (fun c8=>?_) (fun c8=>?_)
         ·rw[if_neg c8] at hs
          simp(disch:=omega)only[go_sem]
          rw[hn,hs]
          try simp
         ·rw[if_pos c8] at hs
          simp(disch:=omega)only[go_sem]
          exact⟨i+1,by simp,⟨by omega,by rw[hn,hs]⟩,by omega⟩
      ·rw[Qsb (by omega)] at hn
       simp(disch:=omega)only[go_sem]
       refine Q5 (fun i:Nat=>⟨[(3,.pt 0 0),(4,.pt 1 0),(5,.pt 2 0),(10,.int .i64 i)],
        [(0,.box [.lst 1 (QR an),.lst 3 (eds ae)]),(1,.box [.lst 1 (QR bn),.lst 3 (eds be)]),(2,.box [.lst 1 (QR mn),.lst 1 (QR me)])],3⟩)
        (fun i=>i≤me.length∧Ze be mn me ae=Ze be mn (me.drop i) (ae.drop i)) (fun i=>me.length-i) 0 ?_ ?_ ?_
       ·simp(disch:=omega)only[go_sem,d4]
        rfl
       ·simp
       ·rintro i ⟨hi,he⟩
        simp(disch:=omega)only[go_sem,QrX]
        refine Q7 (fun c5=>?_) (fun c5=>?_)
        ·have hs:=Qsa (be:=be) (mn:=mn) (ms:=me) (as:=ae) (i:=i) (by omega) (by omega)
         have hae:=YZ (a4 _ (gt_mem (l:=ae) (j:=i) (by omega) (by omega)))
         simp(disch:=omega)only[go_sem]
         refine Q7 (fun c6=>?_) (fun c6=>?_)
         ·simp(disch:=omega)only[go_sem,c6]
          rw[if_neg (show ¬(0≤gt me i∧gt me i<be.length) by omega)] at hs
          rw[hn,he,hs]
          simp
         ·simp(disch:=omega)only[go_sem,c6]
          refine Q7 (fun c7=>?_) (fun c7=>?_)
          ·simp(disch:=omega)only[go_sem]
           rw[if_neg (show ¬(0≤gt me i∧gt me i<be.length) by omega)] at hs
           rw[hn,he,hs]
           simp
          ·rw[if_pos (show (0≤gt me i∧gt me i<be.length) by omega)] at hs
           simp(disch:=omega)only[go_sem]
           refine XX (fun c8=>?_) (fun c8=>?_)
           ·rw[if_neg c8] at hs
            simp(disch:=omega)only[go_sem]
            rw[hn,he,hs]
            simp
           ·rw[if_pos c8] at hs
            simp(disch:=omega)only[go_sem]
            refine XX (fun c9=>?_) (fun c9=>?_)
            ·rw[if_neg (fun h=>c9 h.1)] at hs
             simp(disch:=omega)only[go_sem,c9]
             rw[hn,he,hs]
             simp
            ·simp(disch:=omega)only[go_sem,c9]
             refine XX (fun d1=>?_) (fun d1=>?_)
             ·rw[if_neg (fun h=>d1 h.2)] at hs
              simp(disch:=omega)only[go_sem]
              rw[hn,he,hs]
              simp
             ·rw[if_pos ⟨c9,d1⟩] at hs
              simp(disch:=omega)only[go_sem]
              exact⟨i+1,by simp,⟨by omega,by rw[he,hs]⟩,by omega⟩
        ·rw[Qsc (by omega)] at he
         simp(disch:=omega)only[go_sem]
         rw[hn,he]
         simp
theorem Xp(l b:List Int):(thr l b).length=l.length:=by simp [thr]
theorem Qcy{l b:List Int}{i:Nat}(h:i<l.length):thr (l.take (i+1)) b=thr (l.take i) b++[gt b (gt l i)]:=by
 rw[Yk h];simp [thr]
theorem QVS(l b:List Int)(hl:l.length≤1000000)(hb:∀x∈l,0≤x∧x<b.length):W P (Qhy F) (Done [.t 4] [] (.arr 1 (QR (thr l b))) []) (init [.lst 1 (QR l),.lst 1 (QR b)]):=by
 refine QZ ?_
 simp(disch:=omega)only[go_sem]
 refine Q5 (fun i:Nat=>⟨[(0,.lst 1 (QR l)),(1,.lst 1 (QR b)),(5,.sl 0 0 i),(6,.int .i64 i)],[(0,.arr 1 (QR (thr (l.take i) b)))],1⟩) (fun i=>i≤l.length) (fun i=>l.length-i) 0 ?_ ?_ ?_
 ·simp(disch:=omega)only[go_sem]
  rfl
 ·simp
 ·intro i hi
  have el:(thr (l.take i) b).length=i:=by rw[Xp];simp;omega
  simp(disch:=omega)only[go_sem,Qr5]
  refine Q7 (fun c=>?_) (fun c=>?_)
  ·have hx:=hb _ (gt_mem (l:=l) (j:=i) (by omega) (by omega))
   simp(disch:=omega)only[go_sem,el]
   exact⟨i+1,by simp [Qcy (show i<l.length by omega)],by omega,by omega⟩
  ·simp(disch:=omega)only[go_sem,el]
   rw[QA (by omega)]
theorem QVT(ht:QhA P F)(m n:Mo)(h1:m.n.length≤1000000)(h2:m.e.length≤1000000)(h3:∀x∈m.n,0≤x∧x<n.n.length)(h4:∀x∈m.e,0≤x∧x<n.e.length):
  W P (Qhz F) (Done [.c 4 true 2] [] (mA (QY m n)) []) (init [mD m,mD n]):=by
 refine QZ ?_
 obtain⟨mn,me⟩:=m
 obtain⟨nn,ne⟩:=n
 have r1:=ht mn nn h1 h3
 have r2:=ht me ne h2 h4
 simp(disch:=omega)only[go_sem,mD]
 refine QT r1 ?_
 simp(disch:=omega)only[go_sem]
 refine QT r2 ?_
 simp(disch:=omega)only[go_sem,mA,QY]
end
open Go Go.Sort
set_option linter.unnecessarySimpa false
def inI(l:List Int)(x:Int):List Int:=match l with
 |[]=>[x]
 |y::l=>if x<y then x::y::l else y::inI l x
theorem QhB:∀(l:List Int)(x:Int),(inI l x).Perm (x::l)
 |[],x=>.refl _
 |y::l,x=>by
  simp only[inI]
  split
  ·exact .refl _
  ·exact ((QhB l x).cons y).trans (.swap x y l)
theorem Qsd:∀{l:List Int}{x:Int},l.Pairwise (·≤·)→(inI l x).Pairwise (·≤·)
 |[],x,_=>by simp [inI]
 |y::l,x,h=>by
  rw[List.pairwise_cons] at h
  simp only[inI]
  split
  ·rename_i hx
   rw[List.pairwise_cons,List.pairwise_cons]
   refine⟨fun z hz=>?_,h⟩
   rcases Qh.1 hz with rfl|hz
   ·omega
   ·have:=h.1 z hz;omega
  ·rename_i hx
   rw[List.pairwise_cons]
   refine⟨fun z hz=>?_,Qsd h.2⟩
   have hz:=(QhB l x).mem_iff.1 hz
   rcases Qh.1 hz with rfl|hz
   ·omega
   ·exact h.1 z hz
def srt:List Int→List Int
 |[]=>[]
 |x::l=>inI (srt l) x
theorem QaB:∀l:List Int,(srt l).Perm l
 |[]=>.refl _
 |x::l=>(QhB _ x).trans ((QaB l).cons x)
theorem Zf(l:List Int):(srt l).length=l.length:=(QaB l).length_eq
theorem QdU:∀l:List Int,(srt l).Pairwise (·≤·)
 |[]=>.nil
 |x::l=>Qsd (QdU l)
theorem Qse:∀{a b:List Int},a.Pairwise (·≤·)→b.Pairwise (·≤·)→a.Perm b→a=b
 |[],b,_,_,h=>(List.nil_perm.1 h).symm
 |a,[],_,_,h=>List.perm_nil.1 h
 |x::a,y::b,h1,h2,h=>by
  rw[List.pairwise_cons] at h1 h2
  have e:x=y:=by
   have hx:=h.mem_iff.1 (List.mem_cons_self (a:=x))
   have hy:=h.mem_iff.2 (List.mem_cons_self (a:=y))
   rcases Qh.1 hx with e|hx
   ·exact e
   ·rcases Qh.1 hy with e|hy
    ·exact e.symm
    ·have:=h2.1 x hx
     have:=h1.1 y hy
     omega
  subst e
  rw[Qse h1.2 h2.2 (List.perm_cons x|>.1 h)]
theorem QVU(l:List Int):srt l=l.mergeSort fun x y=>decide (x≤y):=by
 have:=List.pairwise_mergeSort (le:=fun x y:Int=>decide (x≤y)) (fun a b c h1 h2=>by simp at*;omega) (fun a b=>by simp;omega) l
 exact Qse (QdU l) (by simpa using this) ((QaB l).trans (List.mergeSort_perm _ _).symm)
section
variable (P:Program) (F:String→Nat)
def QdV:Prop:=∀l:List Int,l.length≤QW→FC P (F "aD") [.arr 1 (QR l)] (.tup []) [(0,.arr 1 (QR (srt l)))]
end
theorem Qsf{w:World}{I:Nat→Prop}:∀{l:List Int}{us:List Value},PE w I 1 (QR l) us→us=l.map (Value.int .i64)
 |[],us,h=>by simpa [QR,PE] using h
 |x::l,us,h=>by
  simp only[QR,List.map_cons,PE,P1] at h
  obtain⟨u,us',rfl,_,rfl,h2⟩:=h
  rw[Qsf (l:=l) h2];rfl
theorem Qsg{w:World}{I:Nat→Prop}:∀(l:List Int),PE w I 1 (QR l) (l.map (Value.int .i64))
 |[]=>by simp [QR,PE]
 |x::l=>by
  simp only[QR,List.map_cons,PE,P1]
  exact⟨[.int .i64 x],l.map (Value.int .i64),rfl,rfl,rfl,Qsg l⟩
theorem QVV{w:World}{b n:Nat}{cur:Array Value}{e:TypeId}{d:Array Int}{os:Array Obj}(hg:w.heap[b]?=some (.cells cur e (0,0)))(hd:d.size≤cur.size):
  Stp (·=b) w (grow (putRow (Value.int .i64) (Sort.ahead w n) b 0 d) os)∧∃c,(grow (putRow (Value.int .i64) (Sort.ahead w n) b 0 d) os).heap[b]?=some (.cells c e (0,0))∧c.size=cur.size∧∀j,j<d.size→c[j]?=some (.int .i64 d[j]!):=by
 have hb:b<w.heap.size:=(QK.1 hg).1
 have XK:∀k,k<w.heap.size→(grow (putRow (Value.int .i64) (Sort.ahead w n) b 0 d) os).heap[k]?=if b=k then (w.heap[k]?).map (onCells (putCells (Value.int .i64) 0 d)) else w.heap[k]?:=fun k hk=>by
  rw[heap_grow_old _ _ (by simpa [Sort.ahead] using hk)]
  simp only[putRow,mapBlock,Sort.ahead,Array.getElem?_modify]
 have hnew:(grow (putRow (Value.int .i64) (Sort.ahead w n) b 0 d) os).heap[b]?=some (.cells (putCells (Value.int .i64) 0 d cur) e (0,0)):=by
  rw[XK b hb,if_pos rfl,hg];rfl
 refine⟨⟨rfl,rfl,rfl,by simp [Sort.ahead],fun k hk hne=>by rw[XK k hk,if_neg (fun h=>hne h.symm)],fun k c e' fr hk=>?_,?_⟩,_,hnew,by simp [putCells],fun j hj=>?_⟩
 ·have hk2:k<w.heap.size:=(QK.1 hk).1
  rw[XK k hk2]
  by_cases h:b=k
  ·subst h
   rw[if_pos rfl,hk]
   exact⟨_,rfl,by simp [putCells]⟩
  ·rw[if_neg h,hk]
   exact⟨c,rfl,rfl⟩
 ·show w.drawn≤w.drawn+n
  omega
 ·simp only[putCells,Array.getElem?_mapIdx]
  rw[Array.getElem?_eq_getElem (by omega)]
  simp only[Option.map_some]
  rw[if_pos (by omega)]
  rfl
theorem QVW{P:Program}{f:Nat}(hen:∀(vs:Array Value)(w:World),(callFunc f vs).run P w=.ok (.enter f vs) w)
  (h1:∀(blk off cap:Nat)(zs:List Int)(w:World),Holds (Value.int .i64) w blk off zs.toArray→blk<w.heap.size→zs.length<4611686018427387904→Calls P f #[.slice (some ⟨blk,off,none⟩) zs.length cap] w fun e w'=>
   e=.returned (.tuple #[])∧∃n os,w'=grow (putRow (Value.int .i64) (Sort.ahead w n) blk off (zs.mergeSort fun x y=>decide (x≤y)).toArray) os)
  (h2:∀(p:Option Addr)(cap:Nat)(w:World),Calls P f #[.slice p 0 cap] w fun e w'=>e=.returned (.tuple #[])∧w'=w) (l:List Int) (hl:l.length≤QW):
  FC P f [.arr 1 (QR l)] (.tup []) [(0,.arr 1 (QR (srt l)))]:=by
 refine⟨hen,fun w I vs os hI hnd hos hdr=>?_⟩
 simp only[DRs] at hdr
 obtain⟨v,vs',o,o',rfl,rfl,hd,rfl,rfl⟩:=hdr
 simp only[DR] at hd
 obtain⟨hmax,⟨rfl,hnil,rfl⟩|⟨b,cap,cur,e,us,rfl,rfl,hg,c1,c2,c3,hM,hP⟩⟩:=hd
 ·have hl0:l=[]:=by simpa [QR] using hnil
  subst hl0
  refine (h2 none 0 w).mono ?_
  rintro e w' ⟨rfl,rfl⟩
  refine⟨_,[],rfl,Stp.refl _ _,by simp,by simp,?_⟩
  simp only[List.map_cons,List.map_nil,DRs,DR]
  exact⟨_,_,[],[],rfl,rfl,⟨_,rfl,rfl,rfl⟩,_,_,[],[],rfl,rfl,⟨by simp [srt,QR,QW],.inl ⟨rfl,by simp [srt,QR],rfl⟩⟩,rfl,rfl⟩
 ·have hus:=Qsf hP
  subst hus
  have hlen:(QR l).length=l.length:=Qcq l
  rw[hlen] at c1
  simp only[Nat.mul_one] at c3
  rw[hlen]
  have hcur:∀j,j<l.length→cur[j]?=some (.int .i64 l[j]!):=fun j hj=>by
   have:=Mem.cells hg hM j (.int .i64 l[j]!) (by simp [hj])
   simpa using this
  have hH:Holds (Value.int .i64) w b 0 l.toArray:=fun j hj=>by
   have hj:j<l.length:=by simpa using hj
   have hc:=hcur j hj
   refine⟨?_,?_⟩
   ·simp only[World.cell?,hg,Nat.zero_add,hc]
    simp [hj]
   ·simp [World.frozen?,hg]
  have hbs:b<w.heap.size:=(QK.1 hg).1
  refine (h1 b 0 cap l w hH hbs (by simp only[QW] at hl;omega)).mono ?_
  rintro er w' ⟨rfl,n,os2,rfl⟩
  have hsz:(l.mergeSort fun x y=>decide (x≤y)).toArray.size=l.length:=by simp
  obtain⟨k1,c,k2,k3,k4⟩:=QVV (n:=n) (os:=os2) (d:=(l.mergeSort fun x y=>decide (x≤y)).toArray) hg (by rw[hsz];omega)
  refine⟨_,[b],rfl,k1.mono fun x _ hx=>by simp [hx],by simp,fun x hx=>by simp at hx;subst hx;exact⟨.inl (by simp),QL hbs k1.size⟩,?_⟩
  simp only[List.map_cons,List.map_nil,DRs,DR]
  refine⟨_,_,[],[b],rfl,rfl,⟨_,rfl,rfl,rfl⟩,_,_,[b],[],rfl,rfl,⟨by rw[Qcq,Zf];exact hl,.inr ⟨b,cap,c,e,(srt l).map (Value.int .i64),?_,rfl,k2,by rw[Qcq,Zf];exact c1,c2,by omega,?_,Qsg _⟩⟩,rfl,rfl⟩
  ·simp [Qcq,Zf,hlen]
  ·refine Mem.of_cells k2 (fun j u hj=>?_)
   rw[List.getElem?_map] at hj
   have hjl:j<(srt l).length:=by
    rcases Nat.lt_or_ge j (srt l).length with h|h
    ·exact h
    ·rw[List.getElem?_eq_none h] at hj;cases hj
   have:=k4 j (by rw[hsz];rw[Zf] at hjl;exact hjl)
   rw[Nat.zero_add,this]
   rw[Qq hjl] at hj
   simp only[Option.map_some] at hj
   rw[←hj]
   congr 2
   simp [QVU] at hjl ⊢
   rw[Qq (by simpa using hjl)]
   rfl
def Qsh:LL:=[qn 2 1]
def Qsi:LL:=[qm 3 0,qQp 4 (.isnil false (.t 3))]
def Qsj:LL:=[qn 2 1]
def Qsk:LL:=[qQp 5 (.buildSl 1 8 (.int .i64 (0)) 0 []),qm 6 0,qp 7 1 8 5 6,qm 2 7]
def QhC(F:Fn):LC:=QQ [.reg Qsh [0],QQ [.reg Qsi [0,4],.cond (.t 4) (QQ [.reg Qsj [2],.ret]) .skip],.reg Qsk [2],.ret]
def Qsl:LL:=[qn 2 3]
def Qsm:LL:=[qm 3 0,qQp 4 (.isnil false (.t 3))]
def Qsn:LL:=[qn 2 3]
def Qso:LL:=[qQp 5 (.buildSl 3 24 (.agg [.int .i64 (0),.int .i64 (0),.int .i64 (0)]) 0 []),qm 6 0,qp 7 3 24 5 6,qm 2 7]
def QhD(F:Fn):LC:=QQ [.reg Qsl [0],QQ [.reg Qsm [0,4],.cond (.t 4) (QQ [.reg Qsn [2],.ret]) .skip],.reg Qso [2],.ret]
def pts(l:List Mo):List D:=l.map mD
attribute [go_sem] Qsh Qsi Qsj Qsk QhC Qsl Qsm Qsn Qso QhD
theorem Qsp(l:List Mo):(pts l).length=l.length:=by simp [pts]
theorem QVX(l:List Mo)(a b:List Int):pts l++[.agg [.lst 1 (QR a),.lst 1 (QR b)]]=pts (l++[⟨a,b⟩]):=by simp [pts,mD]
attribute [go_sem] Qsp QVX
section
variable (P:Program) (F:String→Nat)
def Qag:Prop:=∀l:List Int,l.length≤10000000000000→FC P (F "a") [.lst 1 (QR l)] (.arr 1 (QR l)) []
def QdW:Prop:=∀l:List E,l.length≤1000000000000→FC P (F "Z") [.lst 3 (eds l)] (.arr 3 (eds l)) []
end
section
variable {P:Program} {F:String→Nat} {α:Type}
theorem QVY(l:List Int)(hl:l.length≤10000000000000):W P (QhC F) (Done [.t 2] [] (.arr 1 (QR l)) []) (init [.lst 1 (QR l)]):=by
 refine QZ ?_
 simp(disch:=omega)only[go_sem]
 refine Qoz (fun h=>?_) (fun _=>?_)
 ·have:l=[]:=by simpa [QR] using h
  subst this
  simp(disch:=omega)only[go_sem,Zc]
 ·simp(disch:=omega)only[go_sem]
theorem QVZ(l:List E)(hl:l.length≤1000000000000):W P (QhD F) (Done [.t 2] [] (.arr 3 (eds l)) []) (init [.lst 3 (eds l)]):=by
 refine QZ ?_
 simp(disch:=omega)only[go_sem]
 refine Qoz (fun h=>?_) (fun _=>?_)
 ·have:l=[]:=by simpa [eds] using h
  subst this
  have e:eds []=[]:=rfl
  simp(disch:=omega)only[go_sem,e]
 ·simp(disch:=omega)only[go_sem]
end
def Qsq:LL:=[qb 2 false]
def Qsr:LL:=[qi 3 0]
def Qss:LL:=[qm 5 3,qm 6 0,qz 7 6,qo .lss 8 5 7]
def Qst:LL:=[qi 4 0]
def Qsu:LL:=[qm 11 4,qm 12 3,qo .lss 13 11 12]
def Qsv:LL:=[qm 16 0,qm 17 3,qd 18 1 16 17,ql 19 1 18,qm 20 0,qm 21 4,qd 22 1 20 21,ql 23 1 22,qo .eql 24 19 23]
def Qsw:LL:=[qb 2 false]
def Qsx:LL:=[qm 14 4,qk .add 15 14 1,qm 4 15]
def Qsy:LC:=QQ [QQ [.reg Qsu [0,3,4,13],.cond (.t 13) .skip (.exit 2)],.block 3 (QQ [.dreg [] Qsv [0,3,4,24],.cond (.t 24) (QQ [.reg Qsw [2],.ret]) .skip]),.reg Qsx [0,3,4]]
def Qsz:LL:=[qm 9 3,qk .add 10 9 1,qm 3 10]
def QsA:LC:=QQ [QQ [.reg Qss [0,3,8],.cond (.t 8) .skip (.exit 0)],.block 1 (QQ [.reg Qst [0,3,4],.block 2 (.loop [0,3,4] Qsy)]),.reg Qsz [0,3]]
def QsB:LL:=[qb 2 true]
def QhE(F:Fn):LC:=QQ [.reg Qsq [0],QQ [.reg Qsr [0,3],.block 0 (.loop [0,3] QsA)],.reg QsB [2],.ret]
def QV0:Hints:=hn [] [(0,[0]),(1,[0,3]),(2,[0,3,8]),(3,[0,3]),(4,[0,3,4]),(5,[0,3,4,13]),(6,[0,3,4]),(7,[0,3,4,24]),(8,[2]),(9,[2])] [(2,[0,3]),(5,[0,3,4])]
def QsC:LL:=[qB 3 0,qB 4 1,qB 5 2,qb 6 false]
def QsD(F:Fn):LL:=[qL 7 2 3,qL 8 2 4,qL 9 2 5,qc 10 (F "s") [.t 7,.t 8,.t 9],qk .eql 11 10 0,qm 12 11,qg 12 true (qf 13 0 5),qg 12 true (ql 14 1 13),qg 12 true (qc 15 (F "v") [.t 14]),qP 16 12 15,
 qm 17 16,qg 17 true (qf 18 1 5),qg 17 true (ql 19 1 18),qg 17 true (qc 20 (F "v") [.t 19]),qP 21 17 20,qm 6 21]
def QhF(F:Fn):LC:=QQ [.reg QsC [3,4,5],.reg (QsD F) [6],.ret]
structure Pr where
 a:Int
 b:Int
 deriving DecidableEq,Inhabited
def prD(x:Pr):D:=.agg [.int .i64 x.a,.int .i64 x.b]
def prs(l:List Pr):List D:=l.map prD
attribute [go_sem] Qsq Qsr Qss Qst Qsu Qsv Qsw Qsx Qsz QsB QhE QsC QsD QhF
theorem QhG(l:List Pr):(prs l).length=l.length:=by simp [prs]
theorem QV1(l:List Pr)(a b:Int):prs l++[.agg [.int .i64 a,.int .i64 b]]=prs (l++[⟨a,b⟩]):=by simp [prs,prD]
theorem QV2(l m:List Pr):prs l++prs m=prs (l++m):=by simp [prs]
theorem QV3(l:List Pr):(prs l).all D.flatE=true:=by simp [prs,prD,D.flatE,D.flat0]
theorem QsE{l:List Pr}{j:Int}(h0:0≤j)(h:j<l.length):(prs l)[j.toNat]?=some (.agg [.int .i64 (gt l j).a,.int .i64 (gt l j).b]):=by
 unfold prs
 rw[List.getElem?_map,Qcm h0 h];rfl
theorem QV4{l:List Pr}{i:Nat}(h:i<l.length):(prs l)[i]?=some (.agg [.int .i64 (gt l i).a,.int .i64 (gt l i).b]):=by
 have:=QsE (l:=l) (j:=i) (by omega) (by omega)
 simpa using this
theorem QV5{l:List Pr}{i:Nat}{a b:Int}:(prs l).set i (.agg [.int .i64 a,.int .i64 b])=prs (l.set i ⟨a,b⟩):=by simp [prs,List.map_set,prD]
theorem QV6{l:List Pr}{n:Nat}:(prs l).take n=prs (l.take n):=by simp [prs,List.map_take]
theorem QV7{l:List Pr}{n:Nat}:(prs l).drop n=prs (l.drop n):=by simp [prs,List.map_drop]
theorem QsF:prs []=[]:=rfl
attribute [go_sem] QhG QV1 QV2 QV3 QsE QV5 QV6 QV7
attribute [go_sem low] QV4
def g0:G:=⟨[],[]⟩
def m0:Mo:=⟨[],[]⟩
def sel(p:Nat→Bool)(n:Nat):List Int:=((List.range n).filter p).map fun i:Nat=>(i:Int)
theorem Qcz(p:Nat→Bool):sel p 0=[]:=rfl
theorem QbG(p:Nat→Bool)(n:Nat):sel p (n+1)=if p n=true then sel p n++[(n:Int)] else sel p n:=by
 simp only[sel,List.range_succ,List.filter_append,List.filter_cons,List.filter_nil,List.map_append]
 split<;>simp
theorem QbH(p:Nat→Bool)(n:Nat):(sel p n).length≤n:=by
 simp only[sel,Qv]
 exact Qt (List.length_filter_le _ _) (by simp)
def Zg(l:List Int):Bool:=decide l.Nodup
def Zr(a b:G)(m:Mo):Bool:=decide (XE a b m=0)&&(Zg m.n&&Zg m.e)
section
variable (P:Program) (F:String→Nat)
def QdX:Prop:=∀l:List Int,l.length≤QW→FC P (F "v") [.lst 1 (QR l)] (.bool (Zg l)) []
def QhH:Prop:=∀(a b:G)(m:Mo),m.n.length≤QW→m.e.length≤QW→FC P (F "bW") [gD a,gD b,mD m] (.bool (Zr a b m)) []
end
section
variable {P:Program} {F:String→Nat} {α:Type}
theorem QhI{a b:G}{m:Mo}(h:XE a b m=0):QX a=0∧QX b=0∧m.n.length=a.n.length∧m.e.length=a.e.length∧YJ b.n m.n a.n=0∧Ze b.e m.n m.e a.e=0:=by
 unfold XE at h
 split at h
 ·rename_i h1;exact absurd h h1
 ·rename_i h1
  split at h
  ·rename_i h2;exact absurd h h2
  ·rename_i h2
   split at h
   ·cases h
   ·rename_i h3
    split at h
    ·rename_i h4;exact absurd h h4
    ·rename_i h4
     exact⟨by simpa using h1,by simpa using h2,by omega,by omega,by simpa using h4,h⟩
theorem QV8{a b:G}{m:Mo}(h:XE a b m=0):m.n.length≤40∧m.e.length≤80∧a.n.length≤40∧a.e.length≤80∧b.n.length≤40∧b.e.length≤80:=by
 obtain⟨h1,h2,h3,h4,_⟩:=QhI h
 obtain⟨a1,a2,_⟩:=Q8 h1
 obtain⟨b1,b2,_⟩:=Q8 h2
 omega
theorem QV9{l:List Int}{i:Nat}(h:i<l.length):(l.take (i+1)).Nodup↔(l.take i).Nodup∧∀k:Nat,k<i→gt l i≠gt l k:=by
 rw[Yk h,QM]
 simp only[List.nodup_cons,List.not_mem_nil,not_false_eq_true,List.nodup_nil,and_self,true_and,Qh,or_false,forall_eq,ne_eq]
 refine and_congr_right fun _=>⟨fun hh k hk e=>?_,fun hh x hx e=>?_⟩
 ·refine hh (gt l k) ?_ e.symm
  rw[Xc (by omega)]
  exact List.mem_take_iff_getElem.2 ⟨k,by omega,rfl⟩
 ·obtain⟨k,hk,rfl⟩:=List.mem_take_iff_getElem.1 hx
  refine hh k (by omega) ?_
  rw[Xc (l:=l) (i:=k) (by omega)]
  exact e.symm
theorem QWa(l:List Int)(hl:l.length≤QW):W P (QhE F) (Done [.t 2] [] (.bool (Zg l)) []) (init [.lst 1 (QR l)]):=by
 refine QZ ?_
 unfold QW at hl
 simp(disch:=omega)only[go_sem]
 refine Q5 (fun i:Nat=>⟨[(0,.lst 1 (QR l)),(3,.int .i64 i)],[],0⟩) (fun i=>i≤l.length∧(l.take i).Nodup) (fun i=>l.length-i) 0 ?_ ?_ ?_
 ·simp(disch:=omega)only[go_sem]
  rfl
 ·simp
 ·rintro i ⟨hi,hn⟩
  simp(disch:=omega)only[go_sem,QsA]
  refine Q7 (fun c=>?_) (fun c=>?_)
  ·have ht:=QV9 (l:=l) (i:=i) (by omega)
   simp(disch:=omega)only[go_sem]
   refine Q5 (fun k:Nat=>⟨[(0,.lst 1 (QR l)),(3,.int .i64 i),(4,.int .i64 k)],[],0⟩) (fun k=>k≤i∧∀j:Nat,j<k→gt l i≠gt l j) (fun k=>i-k) 0 ?_ ?_ ?_
   ·simp(disch:=omega)only[go_sem]
    rfl
   ·simp
   ·rintro k ⟨hk,hd⟩
    simp(disch:=omega)only[go_sem,Qsy]
    refine Q7 (fun d=>?_) (fun d=>?_)
    ·simp(disch:=omega)only[go_sem]
     refine Q7 (fun e=>?_) (fun e=>?_)
     ·simp(disch:=omega)only[go_sem]
      have:¬l.Nodup:=fun h=>by
       have h2:=ht.1 (h.sublist (List.take_sublist _ _))
       exact h2.2 k (by omega) e
      simp [Zg,this]
     ·simp(disch:=omega)only[go_sem]
      refine⟨k+1,by simp,⟨by omega,fun j hj=>?_⟩,by omega⟩
      by_cases hjk:j=k
      ·subst hjk;exact e
      ·exact hd j (by omega)
    ·simp(disch:=omega)only[go_sem]
     exact⟨i+1,by simp,⟨by omega,ht.2 ⟨hn,fun j hj=>hd j (by omega)⟩⟩,by omega⟩
  ·simp(disch:=omega)only[go_sem]
   rw[QA (by omega)] at hn
   simp [Zg,hn]
theorem QWb(hv:QbF P F)(hd:QdX P F)(a b:G)(m:Mo)(h1:m.n.length≤QW)(h2:m.e.length≤QW):W P (QhF F) (Done [.t 6] [] (.bool (Zr a b m)) []) (init [gD a,gD b,mD m]):=by
 refine QZ ?_
 have rv:=hv a b m
 have hi:Zr a b m=(decide (XE a b m=0)&&(Zg m.n&&Zg m.e)):=rfl
 rw[hi]
 generalize XE a b m=v at*
 have r1:=hd m.n h1
 have r2:=hd m.e h2
 obtain⟨an,ae⟩:=a
 obtain⟨bn,be⟩:=b
 obtain⟨mn,me⟩:=m
 simp only[gD,mD] at rv r1 r2 ⊢
 simp(disch:=omega)only[go_sem]
 refine QT rv ?_
 simp(disch:=omega)only[go_sem]
 refine Q7 (fun c=>?_) (fun c=>?_)
 ·simp(disch:=omega)only[go_sem,c]
  refine QT r1 ?_
  simp(disch:=omega)only[go_sem]
  refine Qac (fun d=>?_) (fun d=>?_)
  ·simp(disch:=omega)only[go_sem,c,d]
   refine QT r2 ?_
   simp(disch:=omega)only[go_sem,c,d]
  ·simp(disch:=omega)only[go_sem,c,d]
 ·simp(disch:=omega)only[go_sem,c]
end
end Go.Am
