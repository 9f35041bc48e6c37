/- Parts of graphs: whether they are right; membership. -/
import Derived.Test.YtgllpjliaepbdaaGreatSpPa
import Derived.Test.YtgllpjliaepbdaaGreatSpPb
import Derived.Test.YtgllpjliaepbdaaGreatSpPc
import Derived.Test.YtgllpjliaepbdaaGreatSpPd
namespace Go.Am
open Go
set_option linter.unusedVariables false
set_option linter.unusedSimpArgs false
attribute [local irreducible] W
def QyL:LL:=[qb 2 false]
def QyM:LL:=[qm 3 0,qm 4 0,qo .neq 5 3 4,qm 2 5]
def Qjh(F:Fn):LC:=QQ [.reg QyL [0],.reg QyM [2],.ret]
def QyN:LL:=[qb 4 false]
def QyO(F:Fn):LL:=[qm 5 0,qc 6 (F "aq") [.t 5],qm 7 6,qg 7 true (qm 8 1),qg 7 true (qc 9 (F "aq") [.t 8]),qg 7 true (qv 10 9),qP 11 7 10,qm 12 11,qg 12 false (qm 13 0),qg 12 false (qm 14 1),
 qg 12 false (qo .lss 15 13 14),qQ 16 12 15,qm 4 16]
def Qji(F:Fn):LC:=QQ [.reg QyN [0,1],.reg (QyO F) [4],.ret]
def QyP:LL:=[qb 2 false]
def QyQ:LL:=[qm 3 0,qm 4 0,qo .neq 5 3 4,qm 2 5]
def Qjj(F:Fn):LC:=QQ [.reg QyP [0],.reg QyQ [2],.ret]
def QyR:LL:=[qi 4 0,qb 5 false]
def QyS:LL:=[qm 10 0,qz 11 10,qm 6 11]
def QyT:LL:=[qm 12 6,qi 7 0,qm 8 12]
def QyU:LL:=[qm 13 7,qm 14 8,qo .lss 15 13 14]
def QyV:LL:=[qm 16 7,qm 17 8,qo .add 18 16 17,qQp 19 (.conv .u64 (.t 18)),qQp 20 (.bin .shr (.t 19) (.k (.int .u64 (1)))),qQp 21 (.conv .i64 (.t 20)),qm 9 21]
def QyW(F:Fn):LL:=[qm 22 0,qm 23 9,qd 24 1 22 23,ql 25 1 24,qm 26 1,qc 27 (F "ce") [.t 25,.t 26]]
def QyX:LL:=[qm 28 9,qk .add 29 28 1,qm 7 29]
def QyY:LL:=[qm 30 9,qm 8 30]
def QbV(F:Fn):LC:=QQ [QQ [.reg QyU [0,1,6,7,8,15],.cond (.t 15) .skip (.exit 0)],.block 1 (QQ [.reg QyV [0,1,6,7,8,9],.reg (QyW F) [0,1,6,7,8,9,27],.cond (.t 27) (.reg QyX [0,1,6,7,8]) (.reg QyY [0,1,6,7,8])])]
def QyZ(F:Fn):LL:=[qm 31 7,qm 32 7,qm 33 6,qo .lss 34 32 33,qm 35 34,qg 35 true (qm 36 0),qg 35 true (qm 37 7),qg 35 true (qd 38 1 36 37),qg 35 true (ql 39 1 38),qg 35 true (qm 40 1),
 qg 35 true (qo .eql 41 39 40),qg 35 true (qm 42 41),qg 42 false (qm 43 0),qg 42 false (qm 44 7),qg 42 false (qd 45 1 43 44),qg 42 false (ql 46 1 45),
 qg 42 false (qc 47 (F "aH") [.t 46]),qg 42 false (qm 48 47),qg 48 true (qm 49 1),qg 48 true (qc 50 (F "aH") [.t 49]),qg 42 false (qP 51 48 50),qg 35 true (qQ 52 42 51),qP 53 35 52,
 qm 4 31,qm 5 53]
def Qjk(F:Fn):LC:=QQ [.reg QyR [0,1],.reg QyS [0,1,6],.reg QyT [0,1,6,7,8],.block 0 (.loop [0,1,6,7,8] (QbV F)),.reg (QyZ F) [4,5],.ret]
def Qy0:LL:=[qi 4 0]
def Qy1:LL:=[qm 7 0,qz 8 7,qi 9 0]
def Qy2:LL:=[qo .lss 10 9 8]
def Qy3:LL:=[qm 11 9,qd 12 1 7 9,ql 13 1 12,qm 5 11,qm 6 13]
def Qy4:LL:=[qm 14 6,qk .lss 15 14 0,qm 16 15,qg 16 false (qm 17 6),qg 16 false (qm 18 1),qg 16 false (qo .geq 19 17 18),qQ 20 16 19]
def Qy5:LL:=[qi 4 6]
def Qy6:LL:=[qm 21 5,qk .gtr 22 21 0,qm 23 22,qg 23 true (qm 24 6),qg 23 true (qm 25 0),qg 23 true (qm 26 5),qg 23 true (qk .sub 27 26 1),qg 23 true (qd 28 1 25 27),qg 23 true (ql 29 1 28),
 qg 23 true (qo .leq 30 24 29),qP 31 23 30]
def Qy7:LL:=[qi 4 12]
def Qy8:LL:=[qk .add 32 9 1,qm 9 32]
def Qy9:LC:=QQ [.reg Qy2 [0,1,7,8,9,10],.cond (.t 10) .skip (.exit 0),.block 1 (QQ [.reg Qy3 [0,1,5,6,7,8,9],QQ [.reg Qy4 [0,1,5,6,7,8,9,20],.cond (.t 20) (QQ [.reg Qy5 [4],.ret]) .skip],.reg Qy6 [0,1,7,8,9,31],.cond (.t 31) (QQ [.reg Qy7 [4],.ret]) .skip]),.reg Qy8 [0,1,7,8,9]]
def Qza:LL:=[qi 4 0]
def Qjl(F:Fn):LC:=QQ [.reg Qy0 [0,1],QQ [.reg Qy1 [0,1,7,8,9],.block 0 (.loop [0,1,7,8,9] Qy9)],.reg Qza [4],.ret]
def Qzb:LL:=[qb 4 false]
def Qzc(F:Fn):LL:=[qm 8 0,qm 9 1,qc 10 (F "J") [.t 8,.t 9],qm 7 10,qx 11 7 0,qx 12 7 1,qm 5 11,qm 6 12]
def Qzd:LL:=[qm 13 6,qm 4 13]
def Qjm(F:Fn):LC:=QQ [.reg Qzb [0,1],.reg (Qzc F) [6],.reg Qzd [4],.ret]
def Qze:LL:=[qB 2 0,qB 3 1,qi 4 0]
def Qzf(F:Fn):LL:=[qf 9 0 3,ql 10 1 9,qf 11 0 2,ql 12 1 11,qz 13 12,qc 14 (F "aL") [.t 10,.t 13],qm 5 14]
def Qzg:LL:=[qm 15 5,qk .neq 16 15 0]
def Qzh:LL:=[qm 17 5,qm 4 17]
def Qzi(F:Fn):LL:=[qf 18 1 3,ql 19 1 18,qf 20 1 2,ql 21 1 20,qz 22 21,qc 23 (F "aL") [.t 19,.t 22],qm 6 23]
def Qzj:LL:=[qm 24 6,qk .neq 25 24 0]
def Qzk:LL:=[qm 26 6,qm 4 26]
def Qzl:LL:=[qf 27 1 3,ql 28 1 27,qz 29 28,qi 30 0]
def Qzm:LL:=[qo .lss 31 30 29]
def Qzn:LL:=[qd 32 1 28 30,ql 33 1 32,qm 8 33]
def Qzo(F:Fn):LL:=[qf 34 0 3,ql 35 1 34,qf 36 1 2,ql 37 1 36,qm 38 8,qd 39 3 37 38,qf 40 1 39,ql 41 1 40,qc 42 (F "ao") [.t 35,.t 41],qv 43 42,qm 44 43,qg 44 false (qf 45 0 3),qg 44 false (ql 46 1 45),
 qg 44 false (qf 47 1 2),qg 44 false (ql 48 1 47),qg 44 false (qm 49 8),qg 44 false (qd 50 3 48 49),qg 44 false (qf 51 2 50),qg 44 false (ql 52 1 51),
 qg 44 false (qc 53 (F "ao") [.t 46,.t 52]),qg 44 false (qv 54 53),qQ 55 44 54]
def Qzp:LL:=[qi 4 14]
def Qzq:LL:=[qk .add 56 30 1,qm 30 56]
def QcK(F:Fn):LC:=QQ [.reg Qzm [2,3,28,29,30,31],.cond (.t 31) .skip (.exit 0),.block 1 (QQ [.reg Qzn [2,3,8,28,29,30],.dreg [] (Qzo F) [2,3,28,29,30,55],.cond (.t 55) (QQ [.reg Qzp [4],.ret]) .skip]),.reg Qzq [2,3,28,29,30]]
def Qzr:LL:=[qi 4 0]
def Qjn(F:Fn):LC:=QQ [.reg Qze [2,3],QQ [.reg (Qzf F) [2,3,5],.reg Qzg [2,3,5,16],.cond (.t 16) (QQ [.reg Qzh [4],.ret]) .skip],QQ [.reg (Qzi F) [2,3,6],.reg Qzj [2,3,6,25],.cond (.t 25) (QQ [.reg Qzk [4],.ret]) .skip],QQ [.reg Qzl [2,3,28,29,30],.block 0 (.loop [2,3,28,29,30] (QcK F))],.reg Qzr [4],.ret]
def Qzs:LL:=[qB 2 0,qB 3 1,qi 4 0]
def Qzt(F:Fn):LL:=[qL 6 2 2,qc 7 (F "c") [.t 6],qm 5 7]
def Qzu:LL:=[qm 8 5,qk .neq 9 8 0]
def Qzv:LL:=[qm 10 5,qm 4 10]
def Qzw(F:Fn):LL:=[qL 11 2 2,qL 12 2 3,qc 13 (F "bN") [.t 11,.t 12],qm 4 13]
def Qjo(F:Fn):LC:=QQ [.reg Qzs [2,3],QQ [.reg (Qzt F) [2,3,5],.reg Qzu [2,3,5,9],.cond (.t 9) (QQ [.reg Qzv [4],.ret]) .skip],.reg (Qzw F) [4],.ret]
def Qzx:LL:=[qb 4 false]
def Qzy:LL:=[qi 5 0]
def Qzz:LL:=[qm 6 5,qm 7 0,qz 8 7,qo .lss 9 6 8]
def QzA:LL:=[qm 12 0,qm 13 5,qd 14 1 12 13,ql 15 1 14,qm 16 1,qo .eql 17 15 16]
def QzB:LL:=[qb 4 true]
def QzC:LL:=[qm 10 5,qk .add 11 10 1,qm 5 11]
def QzD:LC:=QQ [QQ [.reg Qzz [0,1,5,9],.cond (.t 9) .skip (.exit 0)],.block 1 (QQ [.reg QzA [0,1,5,17],.cond (.t 17) (QQ [.reg QzB [4],.ret]) .skip]),.reg QzC [0,1,5]]
def QzE:LL:=[qb 4 false]
def Qjp(F:Fn):LC:=QQ [.reg Qzx [0,1],QQ [.reg Qzy [0,1,5],.block 0 (.loop [0,1,5] QzD)],.reg QzE [4],.ret]
def QXi:Hints:=hn [] [(0,[0,1]),(1,[0,1,5]),(2,[0,1,5,9]),(3,[0,1,5]),(4,[0,1,5,17]),(5,[4]),(6,[4])] [(2,[0,1,5])]
def QzF:LL:=[qb 4 false]
def QzG:LL:=[qi 5 0]
def QzH:LL:=[qm 6 5,qm 7 0,qz 8 7,qo .lss 9 6 8]
def QzI:LL:=[qm 12 0,qm 13 5,qd 14 1 12 13,ql 15 1 14,qm 16 1,qo .eql 17 15 16]
def QzJ:LL:=[qb 4 true]
def QzK:LL:=[qm 10 5,qk .add 11 10 1,qm 5 11]
def QzL:LC:=QQ [QQ [.reg QzH [0,1,5,9],.cond (.t 9) .skip (.exit 0)],.block 1 (QQ [.reg QzI [0,1,5,17],.cond (.t 17) (QQ [.reg QzJ [4],.ret]) .skip]),.reg QzK [0,1,5]]
def QzM:LL:=[qb 4 false]
def Qjq(F:Fn):LC:=QQ [.reg QzF [0,1],QQ [.reg QzG [0,1,5],.block 0 (.loop [0,1,5] QzL)],.reg QzM [4],.ret]
def QXj:Hints:=hn [] [(0,[0,1]),(1,[0,1,5]),(2,[0,1,5,9]),(3,[0,1,5]),(4,[0,1,5,17]),(5,[4]),(6,[4])] [(2,[0,1,5])]
def QzN:LL:=[qi 4 0]
def QzO:LL:=[qi 5 0]
def QzP:LL:=[qm 6 5,qm 7 0,qz 8 7,qo .lss 9 6 8]
def QzQ:LL:=[qm 12 0,qm 13 5,qd 14 1 12 13,ql 15 1 14,qk .lss 16 15 0,qm 17 16,qg 17 false (qm 18 0),qg 17 false (qm 19 5),qg 17 false (qd 20 1 18 19),qg 17 false (ql 21 1 20),
 qg 17 false (qm 22 1),qg 17 false (qo .geq 23 21 22),qQ 24 17 23]
def QzR:LL:=[qi 4 6]
def QzS:LL:=[qm 25 5,qk .gtr 26 25 0,qm 27 26,qg 27 true (qm 28 0),qg 27 true (qm 29 5),qg 27 true (qd 30 1 28 29),qg 27 true (ql 31 1 30),qg 27 true (qm 32 0),qg 27 true (qm 33 5),
 qg 27 true (qk .sub 34 33 1),qg 27 true (qd 35 1 32 34),qg 27 true (ql 36 1 35),qg 27 true (qo .leq 37 31 36),qP 38 27 37]
def QzT:LL:=[qi 4 12]
def QzU:LL:=[qm 10 5,qk .add 11 10 1,qm 5 11]
def QzV:LC:=QQ [QQ [.reg QzP [0,1,5,9],.cond (.t 9) .skip (.exit 0)],.block 1 (QQ [QQ [.reg QzQ [0,1,5,24],.cond (.t 24) (QQ [.reg QzR [4],.ret]) .skip],.dreg [] QzS [0,1,5,38],.cond (.t 38) (QQ [.reg QzT [4],.ret]) .skip]),.reg QzU [0,1,5]]
def QzW:LL:=[qi 4 0]
def Qjr(F:Fn):LC:=QQ [.reg QzN [0,1],QQ [.reg QzO [0,1,5],.block 0 (.loop [0,1,5] QzV)],.reg QzW [4],.ret]
def QXk:Hints:=hn [] [(0,[0,1]),(1,[0,1,5]),(2,[0,1,5,9]),(3,[0,1,5]),(4,[0,1,5,24]),(5,[4]),(6,[0,1,5,38]),(7,[4]),(8,[4])] [(2,[0,1,5])]
def QzX:LL:=[qB 2 0,qB 3 1,qi 4 0]
def QzY(F:Fn):LL:=[qf 9 0 3,ql 10 1 9,qf 11 0 2,ql 12 1 11,qz 13 12,qc 14 (F "ah") [.t 10,.t 13],qm 5 14]
def QzZ:LL:=[qm 15 5,qk .neq 16 15 0]
def Qz0:LL:=[qm 17 5,qm 4 17]
def Qz1(F:Fn):LL:=[qf 18 1 3,ql 19 1 18,qf 20 1 2,ql 21 1 20,qz 22 21,qc 23 (F "ah") [.t 19,.t 22],qm 6 23]
def Qz2:LL:=[qm 24 6,qk .neq 25 24 0]
def Qz3:LL:=[qm 26 6,qm 4 26]
def Qz4:LL:=[qi 7 0]
def Qz5:LL:=[qm 27 7,qf 28 1 3,ql 29 1 28,qz 30 29,qo .lss 31 27 30]
def Qz6:LL:=[qf 34 1 2,ql 35 1 34,qf 36 1 3,ql 37 1 36,qm 38 7,qd 39 1 37 38,ql 40 1 39,qd 41 3 35 40,qL 42 3 41,qa 8 [.int .i64 (0),.int .i64 (0),.int .i64 (0)],qs 3 8 42]
def Qz7(F:Fn):LL:=[qf 43 0 3,ql 44 1 43,qf 45 1 8,ql 46 1 45,qc 47 (F "an") [.t 44,.t 46],qv 48 47,qm 49 48,qg 49 false (qf 50 0 3),qg 49 false (ql 51 1 50),qg 49 false (qf 52 2 8),
 qg 49 false (ql 53 1 52),qg 49 false (qc 54 (F "an") [.t 51,.t 53]),qg 49 false (qv 55 54),qQ 56 49 55]
def Qz8:LL:=[qi 4 14]
def Qz9:LL:=[qm 32 7,qk .add 33 32 1,qm 7 33]
def QcL(F:Fn):LC:=QQ [QQ [.reg Qz5 [2,3,7,31],.cond (.t 31) .skip (.exit 0)],.block 1 (QQ [.dreg [] Qz6 [2,3,7,8],.reg (Qz7 F) [2,3,7,56],.cond (.t 56) (QQ [.reg Qz8 [4],.ret]) .skip]),.reg Qz9 [2,3,7]]
def QAa:LL:=[qi 4 0]
def Qjs(F:Fn):LC:=QQ [.reg QzX [2,3],QQ [.reg (QzY F) [2,3,5],.reg QzZ [2,3,5,16],.cond (.t 16) (QQ [.reg Qz0 [4],.ret]) .skip],QQ [.reg (Qz1 F) [2,3,6],.reg Qz2 [2,3,6,25],.cond (.t 25) (QQ [.reg Qz3 [4],.ret]) .skip],QQ [.reg Qz4 [2,3,7],.block 0 (.loop [2,3,7] (QcL F))],.reg QAa [4],.ret]
def QXl:Hints:=hn [] [(0,[2,3]),(1,[2,3,5]),(2,[2,3,5,16]),(3,[4]),(4,[2,3,6]),(5,[2,3,6,25]),(6,[4]),(7,[2,3,7]),(8,[2,3,7,31]),(9,[2,3,7]),(10,[2,3,7,8]),(11,[2,3,7,56]),(12,[4]),(13,[4])] [(8,[2,3,7])]
def QAb:LL:=[qB 2 0,qB 3 1,qi 4 0]
def QAc(F:Fn):LL:=[qL 6 2 2,qc 7 (F "d") [.t 6],qm 5 7]
def QAd:LL:=[qm 8 5,qk .neq 9 8 0]
def QAe:LL:=[qm 10 5,qm 4 10]
def QAf(F:Fn):LL:=[qL 11 2 2,qL 12 2 3,qc 13 (F "ba") [.t 11,.t 12],qm 4 13]
def Qjt(F:Fn):LC:=QQ [.reg QAb [2,3],QQ [.reg (QAc F) [2,3,5],.reg QAd [2,3,5,9],.cond (.t 9) (QQ [.reg QAe [4],.ret]) .skip],.reg (QAf F) [4],.ret]
def Y5(l:List Int)(x:Int):Nat:=(l.filter fun y=>decide (y<x)).length
attribute [go_sem] QyL QyM Qjh QyN QyO Qji QyP QyQ Qjj QyR QyS QyT QyU QyV QyW QyX QyY QyZ Qjk Qy0 Qy1 Qy2 Qy3 Qy4 Qy5 Qy6 Qy7 Qy8 Qza Qjl Qzb Qzc Qzd Qjm Qze Qzf Qzg Qzh Qzi Qzj Qzk Qzl Qzm Qzn Qzo Qzp Qzq Qzr Qjn Qzs Qzt Qzu Qzv Qzw Qjo Qzx Qzy Qzz QzA QzB QzC QzE Qjp QzF QzG QzH QzI QzJ QzK QzM Qjq QzN QzO QzP QzQ QzR QzS QzT QzU QzW Qjr QzX QzY QzZ Qz0 Qz1 Qz2 Qz3 Qz4 Qz5 Qz6 Qz7 Qz8 Qz9 QAa Qjs QAb QAc QAd QAe QAf Qjt
section
variable (P:Program) (F:String→Nat)
def Qju:Prop:=∀x:Int,FC P (F "aq") [.int .i64 x] (.bool false) []
def Qjv:Prop:=∀x:Int,FC P (F "aH") [.int .i64 x] (.bool false) []
def Qjw:Prop:=∀x y:Int,FC P (F "ce") [.int .i64 x,.int .i64 y] (.bool (decide (x<y))) []
def Qes:Prop:=∀(l:List Int)(x:Int),l.Pairwise (·<·)→l.length≤1000000→FC P (F "J") [.lst 1 (QR l),.int .i64 x] (.tup [.int .i64 (Y5 l x),.bool (decide (x∈l))]) []
def Qjx:Prop:=∀(l:List Int)(x:Int),l.Pairwise (·<·)→l.length≤1000000→FC P (F "ao") [.lst 1 (QR l),.int .i64 x] (.bool (decide (x∈l))) []
def Qjy:Prop:=∀(l:List Int)(n:Int),l.length≤QW→0≤n→n≤1000000→FC P (F "aL") [.lst 1 (QR l),.int .i64 n] (.int .i64 (XQ n none l)) []
def Qjz:Prop:=∀(g:G)(p:Mo),QX g=0→p.n.length≤QW→p.e.length≤QW→FC P (F "bN") [gD g,mD p] (.int .i64 (Jx g p)) []
def QcM:Prop:=∀(g:G)(p:Mo),p.n.length≤QW→p.e.length≤QW→FC P (F "N") [gD g,mD p] (.int .i64 (Yf g p)) []
def QjA:Prop:=∀(l:List Int)(n:Int),l.length≤QW→FC P (F "an") [.lst 1 (QR l),.int .i64 n] (.bool (decide (n∈l))) []
def QbW:Prop:=∀(l:List Int)(n:Int),l.length≤QW→FC P (F "f") [.lst 1 (QR l),.int .i64 n] (.bool (decide (n∈l))) []
def QjB:Prop:=∀(l:List Int)(n:Int),l.length≤QW→0≤n→n≤1000000→FC P (F "ah") [.lst 1 (QR l),.int .i64 n] (.int .i64 (XQ n none l)) []
def QjC:Prop:=∀(g:G)(p:Mo),QX g=0→p.n.length≤QW→p.e.length≤QW→FC P (F "ba") [gD g,mD p] (.int .i64 (Jx g p)) []
def Qet:Prop:=∀(g:G)(p:Mo),p.n.length≤QW→p.e.length≤QW→FC P (F "at") [gD g,mD p] (.int .i64 (Yf g p)) []
end
section
variable {P:Program} {F:String→Nat} {α:Type}
theorem QAg{l:List Int}{n:Int}{i:Nat}(h:i<l.length):n∈l.take (i+1)↔n∈l.take i∨gt l i=n:=by
 rw[Yk h];simp [eq_comm]
theorem QXm(l:List Int)(n:Int)(hl:l.length≤QW):W P (Qjp F) (Done [.t 4] [] (.bool (decide (n∈l))) []) (init [.lst 1 (QR l),.int .i64 n]):=by
 refine QZ ?_
 unfold QW at hl
 simp(disch:=omega)only[go_sem]
 refine Q5 (fun i:Nat=>⟨[(0,.lst 1 (QR l)),(1,.int .i64 n),(5,.int .i64 i)],[],0⟩) (fun i=>i≤l.length∧n∉l.take i) (fun i=>l.length-i) 0 ?_ ?_ ?_
 ·simp(disch:=omega)only[go_sem]
  rfl
 ·simp
 ·rintro i ⟨hi,hn⟩
  simp(disch:=omega)only[go_sem,QzD]
  refine Q7 (fun c=>?_) (fun c=>?_)
  ·have hm:=QAg (n:=n) (l:=l) (i:=i) (by omega)
   simp(disch:=omega)only[go_sem]
   refine Q7 (fun d=>?_) (fun d=>?_)
   ·have:n∈l:=by rw[←d];exact gt_mem (by omega) (by omega)
    simp(disch:=omega)only[go_sem]
    simp [this]
   ·simp(disch:=omega)only[go_sem]
    exact⟨i+1,by simp,⟨by omega,fun h=>by rcases hm.1 h with h|h;exact hn h;exact d h⟩,by omega⟩
  ·obtain rfl:i=l.length:=by omega
   rw[List.take_length] at hn
   simp(disch:=omega)only[go_sem]
   simp [hn]
theorem QXn(l:List Int)(n:Int)(hl:l.length≤QW):W P (Qjq F) (Done [.t 4] [] (.bool (decide (n∈l))) []) (init [.lst 1 (QR l),.int .i64 n]):=by
 refine QZ ?_
 unfold QW at hl
 simp(disch:=omega)only[go_sem]
 refine Q5 (fun i:Nat=>⟨[(0,.lst 1 (QR l)),(1,.int .i64 n),(5,.int .i64 i)],[],0⟩) (fun i=>i≤l.length∧n∉l.take i) (fun i=>l.length-i) 0 ?_ ?_ ?_
 ·simp(disch:=omega)only[go_sem]
  rfl
 ·simp
 ·rintro i ⟨hi,hn⟩
  simp(disch:=omega)only[go_sem,QzL]
  refine Q7 (fun c=>?_) (fun c=>?_)
  ·have hm:=QAg (n:=n) (l:=l) (i:=i) (by omega)
   simp(disch:=omega)only[go_sem]
   refine Q7 (fun d=>?_) (fun d=>?_)
   ·have:n∈l:=by rw[←d];exact gt_mem (by omega) (by omega)
    simp(disch:=omega)only[go_sem]
    simp [this]
   ·simp(disch:=omega)only[go_sem]
    exact⟨i+1,by simp,⟨by omega,fun h=>by rcases hm.1 h with h|h;exact hn h;exact d h⟩,by omega⟩
  ·obtain rfl:i=l.length:=by omega
   rw[List.take_length] at hn
   simp(disch:=omega)only[go_sem]
   simp [hn]
theorem QcN{l:List Int}(h:l.Pairwise (·<·)){i j:Nat}(hij:i<j)(hj:j<l.length):gt l i<gt l j:=by
 rw[Xc (by omega),Xc hj]
 exact List.pairwise_iff_getElem.1 h i j (by omega) hj hij
theorem QAh{l:List Int}{x:Int}(hp:l.Pairwise (·<·)){i:Nat}(hi:i≤l.length)(h1:∀k:Nat,k<i→gt l k<x)(h2:∀k:Nat,i≤k→k<l.length→x≤gt l k):Y5 l x=i∧(x∈l↔i<l.length∧gt l i=x):=by
 constructor
 ·unfold Y5
  conv=>lhs;rw[←List.take_append_drop i l]
  rw[List.filter_append,Ql]
  have e1:(l.take i).filter (fun y=>decide (y<x))=l.take i:=List.filter_eq_self.2 fun y hy=>by
   obtain⟨k,hk,rfl⟩:=List.mem_take_iff_getElem.1 hy
   have:=h1 k (by omega)
   rw[Xc (by omega)] at this
   simpa using this
  have e2:(l.drop i).filter (fun y=>decide (y<x))=[]:=List.filter_eq_nil_iff.2 fun y hy=>by
   obtain⟨k,hk,rfl⟩:=List.mem_drop_iff_getElem.1 hy
   have:=h2 (i+k) (by omega) (by omega)
   rw[Xc (by omega)] at this
   simpa using this
  rw[e1,e2];simp;omega
 ·constructor
  ·intro hx
   obtain⟨k,hk,hk2⟩:=X2 hx
   by_cases c:k<i
   ·have:=h1 k c;omega
   ·by_cases d:k=i
    ·subst d;exact⟨hk,hk2⟩
    ·have:=QcN hp (i:=i) (j:=k) (by omega) hk
     have:=h2 i (by omega) (by omega)
     omega
  ·rintro⟨h,e⟩
   rw[←e];exact gt_mem (by omega) (by omega)
theorem QXo(x:Int):W P (Qjh F) (Done [.t 2] [] (.bool false) []) (init [.int .i64 x]):=by
 refine QZ ?_
 simp(disch:=omega)only[go_sem]
 try simp
theorem QXp(x:Int):W P (Qjj F) (Done [.t 2] [] (.bool false) []) (init [.int .i64 x]):=by
 refine QZ ?_
 simp(disch:=omega)only[go_sem]
 try simp
theorem QXq(hn:Qju P F)(x y:Int):W P (Qji F) (Done [.t 4] [] (.bool (decide (x<y))) []) (init [.int .i64 x,.int .i64 y]):=by
 refine QZ ?_
 simp(disch:=omega)only[go_sem]
 refine QT (hn x) ?_
 simp(disch:=omega)only[go_sem]
theorem QXr(hc:Qjw P F)(hn:Qjv P F)(l:List Int)(x:Int)(hp:l.Pairwise (·<·))(hl:l.length≤1000000):W P (Qjk F) (Done [.t 4,.t 5] [] (.tup [.int .i64 (Y5 l x),.bool (decide (x∈l))]) []) (init [.lst 1 (QR l),.int .i64 x]):=by
 refine QZ ?_
 simp(disch:=omega)only[go_sem]
 refine Q5 (fun s:Nat×Nat=>⟨[(0,.lst 1 (QR l)),(1,.int .i64 x),(6,.int .i64 l.length),(7,.int .i64 s.1),(8,.int .i64 s.2)],[],0⟩) (fun s=>(s.1≤s.2∧s.2≤l.length)∧(∀k:Nat,k<s.1→gt l k<x)∧∀k:Nat,s.2≤k→k<l.length→x≤gt l k) (fun s=>s.2-s.1) (0,l.length) ?_ ?_ ?_
 ·simp(disch:=omega)only[go_sem]
  rfl
 ·exact⟨by simp,fun k hk=>by simp only at hk;omega,fun k h1 h2=>by simp only at h1;omega⟩
 ·rintro⟨i,j⟩ ⟨⟨i1,i2⟩,i3,i4⟩
  simp only at i1 i2 i3 i4
  by_cases c:i<j
  ·have g1:decide ((i:Int)<j)=true:=Qd (by omega)
   have hh:((i:Int)+j).fdiv (2 ^ min (1:Int).toNat 64)=(((i+j)/2:Nat):Int):=by
    rw[Int.fdiv_eq_ediv_of_nonneg _ (by decide)]
    simp
   have w1:IntKind.u64.wrap ((i:Int)+j)=(i:Int)+j:=by
    unfold IntKind.wrap
    simp [IntKind.bits,IntKind.signed]
    omega
   have r:=hc (gt l (((i+j)/2:Nat):Int)) x
   have z1:¬((1:Int)<0):=by omega
   have lt:(i+j)/2<j:=by omega
   have le:i≤(i+j)/2:=by omega
   rw[show (1:Int).toNat=1 from rfl] at hh
   generalize (i+j)/2=h at*
   by_cases d:gt l h<x
   ·rw[Qd d] at r
    simp(disch:=omega)only[go_sem,QbV,g1,w1,z1,hh]
    refine QT r ?_
    simp(disch:=omega)only[go_sem]
    refine⟨(h+1,j),by simp,⟨⟨by simp only;omega,i2⟩,fun k hk=>?_,i4⟩,by simp only;omega⟩
    simp only at hk
    by_cases e:k=h
    ·subst e;exact d
    ·have:=QcN hp (i:=k) (j:=h) (by omega) (by omega)
     omega
   ·rw[Qc d] at r
    simp(disch:=omega)only[go_sem,QbV,g1,w1,z1,hh]
    refine QT r ?_
    simp(disch:=omega)only[go_sem]
    refine⟨(i,h),by simp,⟨⟨by simp only;omega,by simp only;omega⟩,i3,fun k h1 h2=>?_⟩,by simp only;omega⟩
    simp only at h1
    by_cases e:k=h
    ·subst e;omega
    ·have:=QcN hp (i:=h) (j:=k) (by omega) (by omega)
     omega
  ·have g1:decide ((i:Int)<j)=false:=Qc (by omega)
   obtain rfl:i=j:=by omega
   obtain⟨e1,e2⟩:=QAh hp i2 i3 i4
   rw[e1]
   by_cases c2:i<l.length
   ·have g2:decide ((i:Int)<l.length)=true:=Qd (by omega)
    by_cases c3:gt l i=x
    ·have g3:decide (gt l i=x)=true:=Qd c3
     have hx:x∈l:=e2.2 ⟨c2,c3⟩
     rw[Qd hx]
     simp(disch:=omega)only[go_sem,QbV,g1,g2,g3]
    ·have g3:decide (gt l i=x)=false:=Qc c3
     have hx:¬x∈l:=fun h=>c3 (e2.1 h).2
     rw[Qc hx]
     simp(disch:=omega)only[go_sem,QbV,g1,g2,g3]
     refine QT (hn _) ?_
     simp(disch:=omega)only[go_sem]
   ·have g2:decide ((i:Int)<l.length)=false:=Qc (by omega)
    have hx:¬x∈l:=fun h=>c2 (e2.1 h).1
    rw[Qc hx]
    simp(disch:=omega)only[go_sem,QbV,g1,g2]
theorem QXs(hb:Qes P F)(l:List Int)(x:Int)(hp:l.Pairwise (·<·))(hl:l.length≤1000000):W P (Qjm F) (Done [.t 4] [] (.bool (decide (x∈l))) []) (init [.lst 1 (QR l),.int .i64 x]):=by
 refine QZ ?_
 have r:=hb l x hp hl
 simp(disch:=omega)only[go_sem]
 refine QT r ?_
 simp(disch:=omega)only[go_sem]
theorem QXt(l:List Int)(n:Int)(hl:l.length≤QW)(h0:0≤n)(h1:n≤1000000):W P (Qjr F) (Done [.t 4] [] (.int .i64 (XQ n none l)) []) (init [.lst 1 (QR l),.int .i64 n]):=by
 refine QZ ?_
 unfold QW at hl
 simp(disch:=omega)only[go_sem]
 refine Q5 (fun i:Nat=>⟨[(0,.lst 1 (QR l)),(1,.int .i64 n),(5,.int .i64 i)],[],0⟩) (fun i=>i≤l.length∧XQ n none l=XQ n (Qae l i) (l.drop i)) (fun i=>l.length-i) 0 ?_ ?_ ?_
 ·simp(disch:=omega)only[go_sem]
  rfl
 ·simp [Qae]
 ·intro i hi
  simp(disch:=omega)only[go_sem,QzV]
  refine Q7 (fun a=>?_) (fun a=>?_)
  ·have hs:=Qqt n l i (by omega)
   simp(disch:=omega)only[go_sem]
   refine Q7 (fun b=>?_) (fun b=>?_)
   ·simp(disch:=omega)only[go_sem,b]
    rw[hi.2,hs,if_neg (by omega)]
   ·simp(disch:=omega)only[go_sem,b]
    refine Q7 (fun b2=>?_) (fun b2=>?_)
    ·simp(disch:=omega)only[go_sem]
     rw[hi.2,hs,if_neg (by omega)]
    ·rw[if_pos (by omega)] at hs
     simp(disch:=omega)only[go_sem]
     refine Q7 (fun c=>?_) (fun c=>?_)
     ·simp(disch:=omega)only[go_sem,c]
      refine Q7 (fun d=>?_) (fun d=>?_)
      ·simp(disch:=omega)only[go_sem]
       rw[hi.2,hs,if_pos ⟨by omega,d⟩]
      ·simp(disch:=omega)only[go_sem]
       exact⟨i+1,by simp,⟨by omega,by rw[hi.2,hs,if_neg (fun e=>d e.2)]⟩,by omega⟩
     ·simp(disch:=omega)only[go_sem,c]
      exact⟨i+1,by simp,⟨by omega,by rw[hi.2,hs,if_neg (fun e=>by omega)]⟩,by omega⟩
  ·simp(disch:=omega)only[go_sem]
   rw[hi.2,QB (by omega)]
   rfl
theorem QXu(l:List Int)(n:Int)(hl:l.length≤QW)(h0:0≤n)(h1:n≤1000000):W P (Qjl F) (Done [.t 4] [] (.int .i64 (XQ n none l)) []) (init [.lst 1 (QR l),.int .i64 n]):=by
 refine QZ ?_
 unfold QW at hl
 simp(disch:=omega)only[go_sem]
 refine Q5 (fun i:Nat=>⟨[(0,.lst 1 (QR l)),(1,.int .i64 n),(7,.lst 1 (QR l)),(8,.int .i64 l.length),(9,.int .i64 i)],[],0⟩) (fun i=>i≤l.length∧XQ n none l=XQ n (Qae l i) (l.drop i)) (fun i=>l.length-i) 0 ?_ ?_ ?_
 ·simp(disch:=omega)only[go_sem]
  rfl
 ·simp [Qae]
 ·intro i hi
  simp(disch:=omega)only[go_sem,Qy9]
  refine Q7 (fun a=>?_) (fun a=>?_)
  ·have hs:=Qqt n l i (by omega)
   simp(disch:=omega)only[go_sem]
   refine Q7 (fun b=>?_) (fun b=>?_)
   ·simp(disch:=omega)only[go_sem,b]
    rw[hi.2,hs,if_neg (by omega)]
   ·simp(disch:=omega)only[go_sem,b]
    refine Q7 (fun b2=>?_) (fun b2=>?_)
    ·simp(disch:=omega)only[go_sem]
     rw[hi.2,hs,if_neg (by omega)]
    ·rw[if_pos (by omega)] at hs
     simp(disch:=omega)only[go_sem]
     refine Q7 (fun c=>?_) (fun c=>?_)
     ·simp(disch:=omega)only[go_sem,c]
      refine Q7 (fun d=>?_) (fun d=>?_)
      ·simp(disch:=omega)only[go_sem]
       rw[hi.2,hs,if_pos ⟨by omega,d⟩]
      ·simp(disch:=omega)only[go_sem]
       exact⟨i+1,by simp,⟨by omega,by rw[hi.2,hs,if_neg (fun e=>d e.2)]⟩,by omega⟩
     ·simp(disch:=omega)only[go_sem,c]
      exact⟨i+1,by simp,⟨by omega,by rw[hi.2,hs,if_neg (fun e=>by omega)]⟩,by omega⟩
  ·simp(disch:=omega)only[go_sem]
   rw[hi.2,QB (by omega)]
   rfl
theorem QXv(hl:Qjy P F)(hh:Qjx P F)(g:G)(p:Mo)(hv:QX g=0)(h1:p.n.length≤QW)(h2:p.e.length≤QW):W P (Qjn F) (Done [.t 4] [] (.int .i64 (Jx g p)) []) (init [gD g,mD p]):=by
 refine QZ ?_
 have vs:=Q8 hv
 have r1:=hl p.n g.n.length h1 (by omega) (by omega)
 have r2:=hl p.e g.e.length h2 (by omega) (by omega)
 have hR:Jx g p=if XQ g.n.length none p.n≠0 then XQ g.n.length none p.n else if XQ g.e.length none p.e≠0 then XQ g.e.length none p.e else if Jc g p=true then 14 else 0:=rfl
 rw[hR]
 by_cases c1:XQ g.n.length none p.n=0
 case neg=>
  rw[if_pos c1]
  generalize XQ g.n.length none p.n=v at*
  simp only[gD,mD] at*
  simp(disch:=omega)only[go_sem]
  refine QT r1 ?_
  simp(disch:=omega)only[go_sem,c1]
 rw[if_neg (by simp [c1])]
 by_cases c2:XQ g.e.length none p.e=0
 case neg=>
  rw[if_pos c2]
  rw[c1] at r1
  generalize XQ g.e.length none p.e=v at*
  simp only[gD,mD] at*
  simp(disch:=omega)only[go_sem]
  refine QT r1 ?_
  simp(disch:=omega)only[go_sem]
  refine QT r2 ?_
  simp(disch:=omega)only[go_sem,c2]
 rw[if_neg (by simp [c2])]
 have a1:=ascG_iff.1 c1
 have a2:=ascG_iff.1 c2
 have q1:=QaE a1
 have q2:=QaE a2
 rw[c1] at r1
 rw[c2] at r2
 have hD:Jc g p=p.e.any fun x=>!(decide ((gt g.e x).f∈p.n)&&decide ((gt g.e x).o∈p.n)):=rfl
 have hx:=fun x=>hh p.n x a1.p (by omega)
 clear hR c1 c2
 obtain⟨gn,ge⟩:=g
 obtain⟨pn,pe⟩:=p
 simp only[gD,mD] at*
 simp(disch:=omega)only[go_sem]
 refine QT r1 ?_
 simp(disch:=omega)only[go_sem]
 refine QT r2 ?_
 simp(disch:=omega)only[go_sem]
 refine Q5 (fun i:Nat=>⟨[(2,.pt 0 0),(3,.pt 1 0),(28,.lst 1 (QR pe)),(29,.int .i64 pe.length),(30,.int .i64 i)],[(0,.box [.lst 1 (QR gn),.lst 3 (eds ge)]),(1,.box [.lst 1 (QR pn),.lst 1 (QR pe)])],2⟩) (fun i=>i≤pe.length∧∀k:Nat,k<i→(gt ge (gt pe k)).f∈pn∧(gt ge (gt pe k)).o∈pn) (fun i=>pe.length-i) 0 ?_ ?_ ?_
 ·simp(disch:=omega)only[go_sem]
  rfl
 ·exact⟨by omega,fun k hk=>by omega⟩
 ·rintro i ⟨hi,hk⟩
  by_cases c:i<pe.length
  ·have g1:decide ((i:Int)<pe.length)=true:=Qd (by omega)
   have hb:=a2.b _ (gt_mem (l:=pe) (j:=i) (by omega) (by omega))
   have x1:=hx (gt ge (gt pe i)).f
   have x2:=hx (gt ge (gt pe i)).o
   by_cases d1:(gt ge (gt pe i)).f∈pn
   ·rw[Qd d1] at x1
    by_cases d2:(gt ge (gt pe i)).o∈pn
    ·rw[Qd d2] at x2
     simp(disch:=omega)only[go_sem,QcK,g1]
     refine QT x1 ?_
     simp(disch:=omega)only[go_sem]
     refine QT x2 ?_
     simp(disch:=omega)only[go_sem]
     refine⟨i+1,by simp,⟨by omega,fun k h=>?_⟩,by omega⟩
     by_cases e:k=i
     ·subst e;exact⟨d1,d2⟩
     ·exact hk k (by omega)
    ·rw[Qc d2] at x2
     have hdt:Jc ⟨gn,ge⟩ ⟨pn,pe⟩=true:=by
      rw[hD,List.any_eq_true]
      exact⟨_,gt_mem (l:=pe) (j:=i) (by omega) (by omega),by simp [d2]⟩
     rw[hdt]
     simp(disch:=omega)only[go_sem,QcK,g1]
     refine QT x1 ?_
     simp(disch:=omega)only[go_sem]
     refine QT x2 ?_
     simp(disch:=omega)only[go_sem]
     try rfl
   ·rw[Qc d1] at x1
    have hdt:Jc ⟨gn,ge⟩ ⟨pn,pe⟩=true:=by
     rw[hD,List.any_eq_true]
     exact⟨_,gt_mem (l:=pe) (j:=i) (by omega) (by omega),by simp [d1]⟩
    rw[hdt]
    simp(disch:=omega)only[go_sem,QcK,g1]
    refine QT x1 ?_
    simp(disch:=omega)only[go_sem]
    try rfl
  ·have g1:decide ((i:Int)<pe.length)=false:=Qc (by omega)
   obtain rfl:i=pe.length:=by omega
   have hdt:Jc ⟨gn,ge⟩ ⟨pn,pe⟩=false:=by
    rw[hD,List.any_eq_false]
    intro x hx
    obtain⟨k,k1,k2⟩:=X2 hx
    have:=hk k k1
    rw[k2] at this
    simp [this]
   rw[hdt]
   simp(disch:=omega)only[go_sem,QcK,g1]
   try rfl
theorem QXw(hl:QjB P F)(hh:QjA P F)(g:G)(p:Mo)(hv:QX g=0)(h1:p.n.length≤QW)(h2:p.e.length≤QW):W P (Qjs F) (Done [.t 4] [] (.int .i64 (Jx g p)) []) (init [gD g,mD p]):=by
 refine QZ ?_
 have vs:=Q8 hv
 have r1:=hl p.n g.n.length h1 (by omega) (by omega)
 have r2:=hl p.e g.e.length h2 (by omega) (by omega)
 have hR:Jx g p=if XQ g.n.length none p.n≠0 then XQ g.n.length none p.n else if XQ g.e.length none p.e≠0 then XQ g.e.length none p.e else if Jc g p=true then 14 else 0:=rfl
 rw[hR]
 by_cases c1:XQ g.n.length none p.n=0
 case neg=>
  rw[if_pos c1]
  generalize XQ g.n.length none p.n=v at*
  simp only[gD,mD] at*
  simp(disch:=omega)only[go_sem]
  refine QT r1 ?_
  simp(disch:=omega)only[go_sem,c1]
 rw[if_neg (by simp [c1])]
 by_cases c2:XQ g.e.length none p.e=0
 case neg=>
  rw[if_pos c2]
  rw[c1] at r1
  generalize XQ g.e.length none p.e=v at*
  simp only[gD,mD] at*
  simp(disch:=omega)only[go_sem]
  refine QT r1 ?_
  simp(disch:=omega)only[go_sem]
  refine QT r2 ?_
  simp(disch:=omega)only[go_sem,c2]
 rw[if_neg (by simp [c2])]
 have a1:=ascG_iff.1 c1
 have a2:=ascG_iff.1 c2
 have q1:=QaE a1
 have q2:=QaE a2
 rw[c1] at r1
 rw[c2] at r2
 have hD:Jc g p=p.e.any fun x=>!(decide ((gt g.e x).f∈p.n)&&decide ((gt g.e x).o∈p.n)):=rfl
 have hx:=fun x=>hh p.n x (by unfold QW;omega)
 clear hR c1 c2
 obtain⟨gn,ge⟩:=g
 obtain⟨pn,pe⟩:=p
 simp only[gD,mD] at*
 simp(disch:=omega)only[go_sem]
 refine QT r1 ?_
 simp(disch:=omega)only[go_sem]
 refine QT r2 ?_
 simp(disch:=omega)only[go_sem]
 refine Q5 (fun i:Nat=>⟨[(2,.pt 0 0),(3,.pt 1 0),(7,.int .i64 i)],[(0,.box [.lst 1 (QR gn),.lst 3 (eds ge)]),(1,.box [.lst 1 (QR pn),.lst 1 (QR pe)])],2⟩) (fun i=>i≤pe.length∧∀k:Nat,k<i→(gt ge (gt pe k)).f∈pn∧(gt ge (gt pe k)).o∈pn) (fun i=>pe.length-i) 0 ?_ ?_ ?_
 ·simp(disch:=omega)only[go_sem]
  rfl
 ·exact⟨by omega,fun k hk=>by omega⟩
 ·rintro i ⟨hi,hk⟩
  by_cases c:i<pe.length
  ·have g1:decide ((i:Int)<pe.length)=true:=Qd (by omega)
   have hb:=a2.b _ (gt_mem (l:=pe) (j:=i) (by omega) (by omega))
   have x1:=hx (gt ge (gt pe i)).f
   have x2:=hx (gt ge (gt pe i)).o
   by_cases d1:(gt ge (gt pe i)).f∈pn
   ·rw[Qd d1] at x1
    by_cases d2:(gt ge (gt pe i)).o∈pn
    ·rw[Qd d2] at x2
     simp(disch:=omega)only[go_sem,QcL,g1]
     refine QT x1 ?_
     simp(disch:=omega)only[go_sem]
     refine QT x2 ?_
     simp(disch:=omega)only[go_sem]
     refine⟨i+1,by simp,⟨by omega,fun k h=>?_⟩,by omega⟩
     by_cases e:k=i
     ·subst e;exact⟨d1,d2⟩
     ·exact hk k (by omega)
    ·rw[Qc d2] at x2
     have hdt:Jc ⟨gn,ge⟩ ⟨pn,pe⟩=true:=by
      rw[hD,List.any_eq_true]
      exact⟨_,gt_mem (l:=pe) (j:=i) (by omega) (by omega),by simp [d2]⟩
     rw[hdt]
     simp(disch:=omega)only[go_sem,QcL,g1]
     refine QT x1 ?_
     simp(disch:=omega)only[go_sem]
     refine QT x2 ?_
     simp(disch:=omega)only[go_sem]
     try rfl
   ·rw[Qc d1] at x1
    have hdt:Jc ⟨gn,ge⟩ ⟨pn,pe⟩=true:=by
     rw[hD,List.any_eq_true]
     exact⟨_,gt_mem (l:=pe) (j:=i) (by omega) (by omega),by simp [d1]⟩
    rw[hdt]
    simp(disch:=omega)only[go_sem,QcL,g1]
    refine QT x1 ?_
    simp(disch:=omega)only[go_sem]
    try rfl
  ·have g1:decide ((i:Int)<pe.length)=false:=Qc (by omega)
   obtain rfl:i=pe.length:=by omega
   have hdt:Jc ⟨gn,ge⟩ ⟨pn,pe⟩=false:=by
    rw[hD,List.any_eq_false]
    intro x hx
    obtain⟨k,k1,k2⟩:=X2 hx
    have:=hk k k1
    rw[k2] at this
    simp [this]
   rw[hdt]
   simp(disch:=omega)only[go_sem,QcL,g1]
   try rfl
theorem QXx(hv:Qad P F)(hp:Qjz P F)(g:G)(p:Mo)(h1:p.n.length≤QW)(h2:p.e.length≤QW):W P (Qjo F) (Done [.t 4] [] (.int .i64 (Yf g p)) []) (init [gD g,mD p]):=by
 refine QZ ?_
 have r1:=hv g
 have hR:Yf g p=if QX g≠0 then QX g else Jx g p:=rfl
 rw[hR]
 by_cases c:QX g=0
 ·have r2:=hp g p c h1 h2
  rw[if_neg (by simp [c])]
  rw[c] at r1
  generalize Jx g p=v at*
  simp only[gD,mD] at*
  simp(disch:=omega)only[go_sem]
  refine QT r1 ?_
  simp(disch:=omega)only[go_sem]
  refine QT r2 ?_
  simp(disch:=omega)only[go_sem]
 ·rw[if_pos c]
  generalize QX g=v at*
  simp only[gD,mD] at*
  simp(disch:=omega)only[go_sem]
  refine QT r1 ?_
  simp(disch:=omega)only[go_sem,c]
theorem QXy(hv:Qa3 P F)(hp:QjC P F)(g:G)(p:Mo)(h1:p.n.length≤QW)(h2:p.e.length≤QW):W P (Qjt F) (Done [.t 4] [] (.int .i64 (Yf g p)) []) (init [gD g,mD p]):=by
 refine QZ ?_
 have r1:=hv g
 have hR:Yf g p=if QX g≠0 then QX g else Jx g p:=rfl
 rw[hR]
 by_cases c:QX g=0
 ·have r2:=hp g p c h1 h2
  rw[if_neg (by simp [c])]
  rw[c] at r1
  generalize Jx g p=v at*
  simp only[gD,mD] at*
  simp(disch:=omega)only[go_sem]
  refine QT r1 ?_
  simp(disch:=omega)only[go_sem]
  refine QT r2 ?_
  simp(disch:=omega)only[go_sem]
 ·rw[if_pos c]
  generalize QX g=v at*
  simp only[gD,mD] at*
  simp(disch:=omega)only[go_sem]
  refine QT r1 ?_
  simp(disch:=omega)only[go_sem,c]
end
def QAi:LL:=[qB 1 0,qi 2 0]
def QAj(F:Fn):LL:=[qf 4 0 1,qL 5 2 4,qf 6 2 1,qL 7 2 6,qf 8 6 1,qL 9 2 8,qc 10 (F "e") [.t 5,.t 7,.t 9],qm 3 10]
def QAk:LL:=[qm 11 3,qk .neq 12 11 0]
def QAl:LL:=[qm 13 3,qm 2 13]
def QAm(F:Fn):LL:=[qf 14 0 1,qL 15 2 14,qf 16 4 1,qL 17 2 16,qc 18 (F "N") [.t 15,.t 17],qm 2 18]
def QjD(F:Fn):LC:=QQ [.reg QAi [1],QQ [.reg (QAj F) [1,3],.reg QAk [1,3,12],.cond (.t 12) (QQ [.reg QAl [2],.ret]) .skip],.reg (QAm F) [2],.ret]
def QAn:LL:=[qB 1 0,qn 2 1]
def QAo:LL:=[qn 3 1]
def QAp:LL:=[qf 6 6 1,qf 7 0 6,ql 8 1 7,qz 9 8,qi 10 0]
def QAq:LL:=[qo .lss 11 10 9]
def QAr:LL:=[qm 12 10,qd 13 1 8 10,ql 14 1 13,qm 4 12,qm 5 14]
def QAs(F:Fn):LL:=[qf 15 4 1,qf 16 0 15,ql 17 1 16,qm 18 4,qc 19 (F "b") [.t 17,.t 18],qv 20 19]
def QAt:LL:=[qm 21 3,qm 22 5,qQp 23 (.buildSl 1 8 (.int .i64 (0)) 1 [(0,.t 22)]),qp 24 1 8 21 23,qm 3 24]
def QAu:LL:=[qk .add 25 10 1,qm 10 25]
def Qeu(F:Fn):LC:=QQ [.reg QAq [1,3,8,9,10,11],.cond (.t 11) .skip (.exit 0),.block 1 (QQ [.reg QAr [1,3,4,5,8,9,10],.reg (QAs F) [1,3,5,8,9,10,20],.cond (.t 20) (.reg QAt [1,3,8,9,10]) .skip]),.reg QAu [1,3,8,9,10]]
def QAv:LL:=[qm 26 3,qm 2 26]
def QjE(F:Fn):LC:=QQ [.reg QAn [1],.reg QAo [1,3],QQ [.reg QAp [1,3,8,9,10],.block 0 (.loop [1,3,8,9,10] (Qeu F))],.reg QAv [2],.ret]
def QAw:LL:=[qB 1 0,qn 2 1]
def QAx(F:Fn):LL:=[qL 7 8 1,qc 8 (F "bi") [.t 7],qm 3 8]
def QAy:LL:=[qn 4 1]
def QAz:LL:=[qf 9 2 1,qf 10 1 9,ql 11 1 10,qz 12 11,qi 13 0]
def QAA:LL:=[qo .lss 14 13 12]
def QAB:LL:=[qm 15 13,qd 16 3 11 13,qL 17 3 16,qa 6 [.int .i64 (0),.int .i64 (0),.int .i64 (0)],qm 5 15,qs 3 6 17]
def QAC(F:Fn):LL:=[qf 18 6 1,qf 19 1 18,ql 20 1 19,qm 21 5,qc 22 (F "b") [.t 20,.t 21],qv 23 22,qm 24 23,qg 24 true (qm 25 3),qg 24 true (qf 26 1 6),qg 24 true (ql 27 1 26),
 qg 24 true (qc 28 (F "b") [.t 25,.t 27]),qg 24 true (qm 29 28),qg 29 false (qm 30 3),qg 29 false (qf 31 2 6),qg 29 false (ql 32 1 31),qg 29 false (qc 33 (F "b") [.t 30,.t 32]),
 qg 24 true (qQ 34 29 33),qP 35 24 34]
def QAD:LL:=[qm 36 4,qm 37 5,qQp 38 (.buildSl 1 8 (.int .i64 (0)) 1 [(0,.t 37)]),qp 39 1 8 36 38,qm 4 39]
def QAE:LL:=[qk .add 40 13 1,qm 13 40]
def QbX(F:Fn):LC:=QQ [.reg QAA [1,3,4,11,12,13,14],.cond (.t 14) .skip (.exit 0),.block 1 (QQ [.reg QAB [1,3,4,5,6,11,12,13],.reg (QAC F) [1,3,4,5,11,12,13,35],.cond (.t 35) (.reg QAD [1,3,4,11,12,13]) .skip]),.reg QAE [1,3,4,11,12,13]]
def QAF:LL:=[qm 41 4,qm 2 41]
def QjF(F:Fn):LC:=QQ [.reg QAw [1],.reg (QAx F) [1,3],.reg QAy [1,3,4],QQ [.reg QAz [1,3,4,11,12,13],.block 0 (.loop [1,3,4,11,12,13] (QbX F))],.reg QAF [2],.ret]
def QAG:LL:=[qn 4 2]
def QAH:LL:=[qn 5 2]
def QAI:LL:=[qm 8 0,qz 9 8,qi 10 0]
def QAJ:LL:=[qo .lss 11 10 9]
def QAK:LL:=[qm 12 10,qm 6 12]
def QAL:LL:=[qm 13 6,qk .add 14 13 1,qm 7 14]
def QAM:LL:=[qm 15 7,qm 16 0,qz 17 16,qo .lss 18 15 17]
def QAN(F:Fn):LL:=[qm 21 0,qm 22 6,qd 23 1 21 22,ql 24 1 23,qm 25 0,qm 26 7,qd 27 1 25 26,ql 28 1 27,qo .eql 29 24 28,qm 30 29,qg 30 true (qm 31 1),qg 30 true (qm 32 6),
 qg 30 true (qc 33 (F "b") [.t 31,.t 32]),qg 30 true (qv 34 33),qg 30 true (qm 35 34),qg 35 false (qm 36 1),qg 35 false (qm 37 7),qg 35 false (qc 38 (F "b") [.t 36,.t 37]),
 qg 35 false (qv 39 38),qg 30 true (qQ 40 35 39),qP 41 30 40]
def QAO:LL:=[qm 42 5,qm 43 6,qm 44 7,qu 45 [.int .i64 (0),.int .i64 (0)] [(0,1,.t 43),(1,1,.t 44)],qQp 46 (.buildSl 2 16 (.agg [.int .i64 (0),.int .i64 (0)]) 1 [(0,.t 45)]),
 qp 47 2 16 42 46,qm 5 47]
def QAP:LL:=[qm 19 7,qk .add 20 19 1,qm 7 20]
def QbY(F:Fn):LC:=QQ [QQ [.reg QAM [0,1,5,6,7,9,10,18],.cond (.t 18) .skip (.exit 2)],.block 3 (QQ [.dreg [] (QAN F) [0,1,5,6,7,9,10,41],.cond (.t 41) (.reg QAO [0,1,5,6,7,9,10]) .skip]),.reg QAP [0,1,5,6,7,9,10]]
def QAQ:LL:=[qk .add 48 10 1,qm 10 48]
def QjG(F:Fn):LC:=QQ [.reg QAJ [0,1,5,9,10,11],.cond (.t 11) .skip (.exit 0),.block 1 (QQ [.reg QAK [0,1,5,6,9,10],.reg QAL [0,1,5,6,7,9,10],.block 2 (.loop [0,1,5,6,7,9,10] (QbY F))]),.reg QAQ [0,1,5,9,10]]
def QAR:LL:=[qm 49 5,qm 4 49]
def QjH(F:Fn):LC:=QQ [.reg QAG [0,1],.reg QAH [0,1,5],QQ [.reg QAI [0,1,5,9,10],.block 0 (.loop [0,1,5,9,10] (QjG F))],.reg QAR [4],.ret]
def QXz:Hints:=hn [] [(0,[0,1]),(1,[0,1,5]),(2,[0,1,5,9,10]),(3,[0,1,5,9,10,11]),(4,[0,1,5,6,9,10]),(5,[0,1,5,6,7,9,10]),(6,[0,1,5,6,7,9,10,18]),(7,[0,1,5,6,7,9,10]),(8,[0,1,5,6,7,9,10,41]),(9,[0,1,5,6,7,9,10]),(10,[0,1,5,9,10]),(11,[4])] [(3,[0,1,5,9,10]),(6,[0,1,5,6,7,9,10])]
def QAS:LL:=[qB 1 0,qn 2 2,qn 3 2]
def QAT(F:Fn):LL:=[qf 4 6 1,qf 5 0 4,ql 6 1 5,qf 7 4 1,qf 8 0 7,ql 9 1 8,qc 10 (F "ab") [.t 6,.t 9],qf 11 6 1,qf 12 1 11,ql 13 1 12,qf 14 4 1,qf 15 1 14,ql 16 1 15,qc 17 (F "ab") [.t 13,.t 16],qm 2 10,
 qm 3 17]
def QjI(F:Fn):LC:=QQ [.reg QAS [1],.dreg [(6,none,[],true),(9,(some 384),[6],false),(12,(some 3072),[6],false)] (QAT F) [2,3],.ret]
def QAU:LL:=[qn 6 1]
def QAV:LL:=[qm 13 0,qQp 14 (.makeSl 1 1 (.bool false) (.t 13)),qm 7 14]
def QAW:LL:=[qm 15 1,qz 16 15,qi 17 0]
def QAX:LL:=[qo .lss 18 17 16]
def QAY:LL:=[qm 19 17,qd 20 1 15 17,ql 21 1 20,qm 8 19,qm 9 21]
def QAZ(F:Fn):LL:=[qm 22 2,qm 23 8,qc 24 (F "b") [.t 22,.t 23],qv 25 24]
def QA0:LL:=[qm 26 7,qm 27 9,qd 28 1 26 27,qQn (.store 1 (.t 28) (.k (.bool true)))]
def QA1:LL:=[qk .add 29 17 1,qm 17 29]
def Qev(F:Fn):LC:=QQ [.reg QAX [2,7,15,16,17,18],.cond (.t 18) .skip (.exit 0),.block 1 (QQ [.reg QAY [2,7,8,9,15,16,17],.reg (QAZ F) [2,7,9,15,16,17,25],.cond (.t 25) (.reg QA0 [2,7,15,16,17]) .skip]),.reg QA1 [2,7,15,16,17]]
def QA2:LL:=[qn 10 1]
def QA3:LL:=[qm 30 7,qz 31 30,qi 32 0]
def QA4:LL:=[qo .lss 33 32 31]
def QA5:LL:=[qm 34 32,qd 35 1 30 32,ql 36 1 35,qm 11 34,qm 12 36]
def QA6:LL:=[qm 37 12,qv 38 37]
def QA7:LL:=[qm 39 10,qm 40 11,qQp 41 (.buildSl 1 8 (.int .i64 (0)) 1 [(0,.t 40)]),qp 42 1 8 39 41,qm 10 42]
def QA8:LL:=[qk .add 43 32 1,qm 32 43]
def Qew:LC:=QQ [.reg QA4 [10,30,31,32,33],.cond (.t 33) .skip (.exit 2),.block 3 (QQ [.reg QA5 [10,11,12,30,31,32],.reg QA6 [10,11,30,31,32,38],.cond (.t 38) (.reg QA7 [10,30,31,32]) .skip]),.reg QA8 [10,30,31,32]]
def QA9:LL:=[qm 44 10,qm 6 44]
def QjJ(F:Fn):LC:=QQ [.reg QAU [0,1,2],.reg QAV [1,2,7],QQ [.reg QAW [2,7,15,16,17],.block 0 (.loop [2,7,15,16,17] (Qev F))],.reg QA2 [7,10],QQ [.reg QA3 [10,30,31,32],.block 2 (.loop [10,30,31,32] Qew)],.reg QA9 [6],.ret]
def QBa:LL:=[qB 4 0,qB 5 1,qB 6 2,qB 7 3,qi 8 0]
def QBb(F:Fn):LL:=[qL 10 2 4,qL 11 2 5,qL 12 2 7,qc 13 (F "s") [.t 10,.t 11,.t 12],qm 9 13]
def QBc:LL:=[qm 14 9,qk .neq 15 14 0]
def QBd:LL:=[qm 16 9,qm 8 16]
def QBe(F:Fn):LL:=[qL 17 2 4,qL 18 2 6,qc 19 (F "at") [.t 17,.t 18],qm 8 19]
def QjK(F:Fn):LC:=QQ [.reg QBa [4,5,6,7],QQ [.reg (QBb F) [4,6,9],.reg QBc [4,6,9,15],.cond (.t 15) (QQ [.reg QBd [8],.ret]) .skip],.reg (QBe F) [8],.ret]
def QBf:LL:=[qn 4 1]
def QBg:LL:=[qn 5 1]
def QBh:LL:=[qi 6 0]
def QBi:LL:=[qm 7 6,qm 8 0,qz 9 8,qo .lss 10 7 9]
def QBj(F:Fn):LL:=[qm 13 1,qm 14 6,qc 15 (F "f") [.t 13,.t 14],qv 16 15]
def QBk:LL:=[qm 17 5,qm 18 0,qm 19 6,qd 20 1 18 19,ql 21 1 20,qQp 22 (.buildSl 1 8 (.int .i64 (0)) 1 [(0,.t 21)]),qp 23 1 8 17 22,qm 5 23]
def QBl:LL:=[qm 11 6,qk .add 12 11 1,qm 6 12]
def Qex(F:Fn):LC:=QQ [QQ [.reg QBi [0,1,5,6,10],.cond (.t 10) .skip (.exit 0)],.block 1 (QQ [.reg (QBj F) [0,1,5,6,16],.cond (.t 16) (.reg QBk [0,1,5,6]) .skip]),.reg QBl [0,1,5,6]]
def QBm:LL:=[qm 24 5,qm 4 24]
def QjL(F:Fn):LC:=QQ [.reg QBf [0,1],.reg QBg [0,1,5],QQ [.reg QBh [0,1,5,6],.block 0 (.loop [0,1,5,6] (Qex F))],.reg QBm [4],.ret]
def QXA:Hints:=hn [] [(0,[0,1]),(1,[0,1,5]),(2,[0,1,5,6]),(3,[0,1,5,6,10]),(4,[0,1,5,6]),(5,[0,1,5,6,16]),(6,[0,1,5,6]),(7,[4])] [(3,[0,1,5,6])]
def QBn:LL:=[qB 4 0,qB 5 1,qB 6 2,qB 7 3,qn 8 1]
def QBo:LL:=[qn 9 1]
def QBp(F:Fn):LL:=[qf 12 0 7,ql 13 1 12,qf 14 0 6,ql 15 1 14,qc 16 (F "M") [.t 13,.t 15],qm 10 16]
def QBq:LL:=[qi 11 0]
def QBr:LL:=[qm 17 11,qf 18 1 5,ql 19 1 18,qz 20 19,qo .lss 21 17 20]
def QBs(F:Fn):LL:=[qf 24 1 7,ql 25 1 24,qm 26 11,qc 27 (F "f") [.t 25,.t 26],qv 28 27,qm 29 28,qg 29 true (qm 30 10),qg 29 true (qf 31 1 5),qg 29 true (ql 32 1 31),qg 29 true (qm 33 11),
 qg 29 true (qd 34 3 32 33),qg 29 true (qf 35 1 34),qg 29 true (ql 36 1 35),qg 29 true (qc 37 (F "f") [.t 30,.t 36]),qg 29 true (qm 38 37),qg 38 false (qm 39 10),
 qg 38 false (qf 40 1 5),qg 38 false (ql 41 1 40),qg 38 false (qm 42 11),qg 38 false (qd 43 3 41 42),qg 38 false (qf 44 2 43),qg 38 false (ql 45 1 44),
 qg 38 false (qc 46 (F "f") [.t 39,.t 45]),qg 29 true (qQ 47 38 46),qP 48 29 47]
def QBt:LL:=[qm 49 9,qm 50 11,qQp 51 (.buildSl 1 8 (.int .i64 (0)) 1 [(0,.t 50)]),qp 52 1 8 49 51,qm 9 52]
def QBu:LL:=[qm 22 11,qk .add 23 22 1,qm 11 23]
def QbZ(F:Fn):LC:=QQ [QQ [.reg QBr [5,7,9,10,11,21],.cond (.t 21) .skip (.exit 0)],.block 1 (QQ [.reg (QBs F) [5,7,9,10,11,48],.cond (.t 48) (.reg QBt [5,7,9,10,11]) .skip]),.reg QBu [5,7,9,10,11]]
def QBv:LL:=[qm 53 9,qm 8 53]
def QjM(F:Fn):LC:=QQ [.reg QBn [5,6,7],.reg QBo [5,6,7,9],.reg (QBp F) [5,7,9,10],QQ [.reg QBq [5,7,9,10,11],.block 0 (.loop [5,7,9,10,11] (QbZ F))],.reg QBv [8],.ret]
def QXB:Hints:=hn [] [(0,[5,6,7]),(1,[5,6,7,9]),(2,[5,7,9,10]),(3,[5,7,9,10,11]),(4,[5,7,9,10,11,21]),(5,[5,7,9,10,11]),(6,[5,7,9,10,11,48]),(7,[5,7,9,10,11]),(8,[8])] [(4,[5,7,9,10,11])]
def QBw:LL:=[qn 4 2]
def QBx:LL:=[qn 5 2]
def QBy:LL:=[qi 6 0]
def QBz:LL:=[qm 8 6,qm 9 0,qz 10 9,qo .lss 11 8 10]
def QBA:LL:=[qm 14 6,qk .add 15 14 1,qm 7 15]
def QBB:LL:=[qm 16 7,qm 17 0,qz 18 17,qo .lss 19 16 18]
def QBC(F:Fn):LL:=[qm 22 0,qm 23 6,qd 24 1 22 23,ql 25 1 24,qm 26 0,qm 27 7,qd 28 1 26 27,ql 29 1 28,qo .eql 30 25 29,qm 31 30,qg 31 true (qm 32 1),qg 31 true (qm 33 6),
 qg 31 true (qc 34 (F "f") [.t 32,.t 33]),qg 31 true (qv 35 34),qg 31 true (qm 36 35),qg 36 false (qm 37 1),qg 36 false (qm 38 7),qg 36 false (qc 39 (F "f") [.t 37,.t 38]),
 qg 36 false (qv 40 39),qg 31 true (qQ 41 36 40),qP 42 31 41]
def QBD:LL:=[qm 43 5,qm 44 6,qm 45 7,qu 46 [.int .i64 (0),.int .i64 (0)] [(0,1,.t 44),(1,1,.t 45)],qQp 47 (.buildSl 2 16 (.agg [.int .i64 (0),.int .i64 (0)]) 1 [(0,.t 46)]),
 qp 48 2 16 43 47,qm 5 48]
def QBE:LL:=[qm 20 7,qk .add 21 20 1,qm 7 21]
def Qb0(F:Fn):LC:=QQ [QQ [.reg QBB [0,1,5,6,7,19],.cond (.t 19) .skip (.exit 2)],.block 3 (QQ [.dreg [] (QBC F) [0,1,5,6,7,42],.cond (.t 42) (.reg QBD [0,1,5,6,7]) .skip]),.reg QBE [0,1,5,6,7]]
def QBF:LL:=[qm 12 6,qk .add 13 12 1,qm 6 13]
def QjN(F:Fn):LC:=QQ [QQ [.reg QBz [0,1,5,6,11],.cond (.t 11) .skip (.exit 0)],.block 1 (QQ [.reg QBA [0,1,5,6,7],.block 2 (.loop [0,1,5,6,7] (Qb0 F))]),.reg QBF [0,1,5,6]]
def QBG:LL:=[qm 49 5,qm 4 49]
def QjO(F:Fn):LC:=QQ [.reg QBw [0,1],.reg QBx [0,1,5],QQ [.reg QBy [0,1,5,6],.block 0 (.loop [0,1,5,6] (QjN F))],.reg QBG [4],.ret]
def QXC:Hints:=hn [] [(0,[0,1]),(1,[0,1,5]),(2,[0,1,5,6]),(3,[0,1,5,6,11]),(4,[0,1,5,6]),(5,[0,1,5,6,7]),(6,[0,1,5,6,7,19]),(7,[0,1,5,6,7]),(8,[0,1,5,6,7,42]),(9,[0,1,5,6,7]),(10,[4])] [(3,[0,1,5,6]),(6,[0,1,5,6,7])]
def QBH:LL:=[qn 4 1]
def QBI:LL:=[qn 5 1]
def QBJ:LL:=[qi 6 0]
def QBK:LL:=[qm 7 6,qm 8 0,qo .lss 9 7 8]
def QBL(F:Fn):LL:=[qm 12 1,qm 13 6,qc 14 (F "f") [.t 12,.t 13],qv 15 14]
def QBM:LL:=[qm 16 5,qm 17 6,qQp 18 (.buildSl 1 8 (.int .i64 (0)) 1 [(0,.t 17)]),qp 19 1 8 16 18,qm 5 19]
def QBN:LL:=[qm 10 6,qk .add 11 10 1,qm 6 11]
def Qey(F:Fn):LC:=QQ [QQ [.reg QBK [0,1,5,6,9],.cond (.t 9) .skip (.exit 0)],.block 1 (QQ [.reg (QBL F) [0,1,5,6,15],.cond (.t 15) (.reg QBM [0,1,5,6]) .skip]),.reg QBN [0,1,5,6]]
def QBO:LL:=[qm 20 5,qm 4 20]
def QjP(F:Fn):LC:=QQ [.reg QBH [0,1],.reg QBI [0,1,5],QQ [.reg QBJ [0,1,5,6],.block 0 (.loop [0,1,5,6] (Qey F))],.reg QBO [4],.ret]
def QXD:Hints:=hn [] [(0,[0,1]),(1,[0,1,5]),(2,[0,1,5,6]),(3,[0,1,5,6,9]),(4,[0,1,5,6]),(5,[0,1,5,6,15]),(6,[0,1,5,6]),(7,[4])] [(3,[0,1,5,6])]
structure Cx where
 l:G
 g:G
 k:Mo
 m:Mo
 deriving DecidableEq,Inhabited
def cxD(x:Cx):D:=.agg [.lst 1 (QR x.l.n),.lst 3 (eds x.l.e),.lst 1 (QR x.g.n),.lst 3 (eds x.g.e),.lst 1 (QR x.k.n),.lst 1 (QR x.k.e),.lst 1 (QR x.m.n),.lst 1 (QR x.m.e)]
def cxE(x:Cx):Int:=if XE x.l x.g x.m≠0 then XE x.l x.g x.m else Yf x.l x.k
def Yr(im keep:List Int):Nat→List Int
 |0=>[]
 |i+1=>if (i:Int)∈keep then Yr im keep i else Yr im keep i++[gt im i]
def Xm(im keep:List Int):List Int:=Yr im keep im.length
def Zk(g:G)(gone me:List Int)(i:Nat):Bool:=!decide ((i:Int)∈me)&&(decide ((gt g.e i).f∈gone)||decide ((gt g.e i).o∈gone))
def QXE(g:G)(gone me:List Int):List Int:=sel (Zk g gone me) g.e.length
def idP(im keep:List Int)(i k:Nat):Bool:=decide (gt im i=gt im k)&&(!decide ((i:Int)∈keep)||!decide ((k:Int)∈keep))
def idR(im keep:List Int)(i:Nat):Nat→List Pr
 |0=>[]
 |k+1=>if i<k∧idP im keep i k=true then idR im keep i k++[⟨i,k⟩] else idR im keep i k
def idA(im keep:List Int):Nat→List Pr
 |0=>[]
 |i+1=>idA im keep i++idR im keep i im.length
def idL(im keep:List Int):List Pr:=idA im keep im.length
def X4(n:Nat)(gone:List Int):List Int:=sel (fun i:Nat=>!decide ((i:Int)∈gone)) n
def Yu(x:Cx):List Int:=QXE x.g (Xm x.m.n x.k.n) x.m.e
attribute [go_sem] QAi QAj QAk QAl QAm QjD QAn QAo QAp QAq QAr QAs QAt QAu QAv QjE QAw QAx QAy QAz QAA QAB QAC QAD QAE QAF QjF QAG QAH QAI QAJ QAK QAL QAM QAN QAO QAP QAQ QAR QjH QAS QAT QjI QAU QAV QAW QAX QAY QAZ QA0 QA1 QA2 QA3 QA4 QA5 QA6 QA7 QA8 QA9 QjJ QBa QBb QBc QBd QBe QjK QBf QBg QBh QBi QBj QBk QBl QBm QjL QBn QBo QBp QBq QBr QBs QBt QBu QBv QjM QBw QBx QBy QBz QBA QBB QBC QBD QBE QBF QBG QjO QBH QBI QBJ QBK QBL QBM QBN QBO QjP
section
variable (P:Program) (F:String→Nat)
def Cx.sm(x:Cx):Prop:=x.k.n.length≤QW∧x.k.e.length≤QW
def QjQ:Prop:=∀x:Cx,x.sm→FC P (F "bt") [cxD x] (.int .i64 (cxE x)) []
def QjR:Prop:=∀x:Cx,x.m.n.length≤1000→x.k.n.length≤QW→FC P (F "bi") [cxD x] (.arr 1 (QR (Xm x.m.n x.k.n))) []
def QjS:Prop:=∀x:Cx,cxE x=0→FC P (F "bg") [cxD x] (.arr 1 (QR (Yu x))) []
def QjT:Prop:=∀im keep:List Int,im.length≤1000→keep.length≤QW→FC P (F "ab") [.lst 1 (QR im),.lst 1 (QR keep)] (.arr 2 (prs (idL im keep))) []
def QjU:Prop:=∀x:Cx,cxE x=0→FC P (F "by") [cxD x] (.tup [.arr 2 (prs (idL x.m.n x.k.n)),.arr 2 (prs (idL x.m.e x.k.e))]) []
def QjV:Prop:=∀(n:Nat)(im keep:List Int),n≤1000→im.length≤1000→keep.length≤QW→(∀v∈im,0≤v∧v<n)→FC P (F "aP") [.int .i64 n,.lst 1 (QR im),.lst 1 (QR keep)] (.arr 1 (QR (X4 n (Xm im keep)))) []
def QjW:Prop:=∀x:Cx,x.sm→FC P (F "aR") [gD x.l,gD x.g,mD x.k,mD x.m] (.int .i64 (cxE x)) []
def Qez:Prop:=∀im keep:List Int,im.length≤1000→keep.length≤QW→FC P (F "M") [.lst 1 (QR im),.lst 1 (QR keep)] (.arr 1 (QR (Xm im keep))) []
def QjX:Prop:=∀x:Cx,cxE x=0→FC P (F "aS") [gD x.l,gD x.g,mD x.k,mD x.m] (.arr 1 (QR (Yu x))) []
def QjY:Prop:=∀im keep:List Int,im.length≤1000→keep.length≤QW→FC P (F "av") [.lst 1 (QR im),.lst 1 (QR keep)] (.arr 2 (prs (idL im keep))) []
def QjZ:Prop:=∀(n:Nat)(l:List Int),n≤1000→l.length≤QW→FC P (F "ar") [.int .i64 n,.lst 1 (QR l)] (.arr 1 (QR (X4 n l))) []
end
section
variable {P:Program} {F:String→Nat} {α:Type}
theorem QeA(im keep:List Int):∀i,(Yr im keep i).length≤i
 |0=>by simp [Yr]
 |i+1=>by rw[Yr];have:=QeA im keep i;split<;>simp<;>omega
theorem QBP{im keep:List Int}{x:Int}:∀{n:Nat},x∈Yr im keep n↔∃i:Nat,i<n∧¬(i:Int)∈keep∧gt im i=x
 |0=>by simp [Yr]
 |n+1=>by
  rw[Yr]
  have ih:=QBP (im:=im) (keep:=keep) (x:=x) (n:=n)
  split
  ·rename_i h
   rw[ih]
   constructor
   ·rintro⟨i,h1,h2⟩;exact⟨i,by omega,h2⟩
   ·rintro⟨i,h1,h2,h3⟩
    refine⟨i,?_,h2,h3⟩
    by_cases e:i=n
    ·subst e;exact absurd h h2
    ·omega
  ·rename_i h
   rw[Qg,ih,Qn]
   constructor
   ·rintro (⟨i,h1,h2⟩|rfl)
    ·exact⟨i,by omega,h2⟩
    ·exact⟨n,by omega,h,rfl⟩
   ·rintro⟨i,h1,h2,h3⟩
    by_cases e:i=n
    ·subst e;exact .inr h3.symm
    ·exact .inl ⟨i,by omega,h2,h3⟩
theorem goneL_mem{im keep:List Int}{x:Int}:x∈Xm im keep↔∃i:Nat,i<im.length∧¬(i:Int)∈keep∧gt im i=x:=QBP
theorem Qj0(im keep:List Int)(i:Nat):∀k,k≤i+1→idR im keep i k=[]
 |0,_=>rfl
 |k+1,h=>by rw[idR,if_neg (fun h'=>by omega)];exact Qj0 im keep i k (by omega)
theorem QeB(im keep:List Int)(i:Nat):∀k,(idR im keep i k).length≤k
 |0=>by simp [idR]
 |k+1=>by rw[idR];have:=QeB im keep i k;split<;>simp<;>omega
theorem QBQ(im keep:List Int):∀i,(idA im keep i).length≤i*im.length
 |0=>by simp [idA]
 |i+1=>by
  rw[idA,Ql]
  have:=QBQ im keep i
  have:=QeB im keep i im.length
  have e:(i+1)*im.length=i*im.length+im.length:=by rw[Nat.add_mul];omega
  omega
theorem Qj1{im keep:List Int}(h:im.length≤1000){i:Nat}(hi:i≤im.length):(idA im keep i).length≤1000000:=by
 have:=QBQ im keep i
 have:i*im.length≤1000*1000:=Nat.mul_le_mul (by omega) h
 omega
theorem QXF(hv:QaA P F)(hp:QcM P F)(x:Cx)(hs:x.sm):W P (QjD F) (Done [.t 2] [] (.int .i64 (cxE x)) []) (init [cxD x]):=by
 refine QZ ?_
 have r1:=hv x.l x.g x.m
 have r2:=hp x.l x.k hs.1 hs.2
 have hE:cxE x=if XE x.l x.g x.m≠0 then XE x.l x.g x.m else Yf x.l x.k:=rfl
 rw[hE]
 generalize XE x.l x.g x.m=u at*
 generalize Yf x.l x.k=v at*
 simp only[gD,mD,cxD] at*
 simp(disch:=omega)only[go_sem]
 refine QT r1 ?_
 simp(disch:=omega)only[go_sem]
 refine XX (fun c=>?_) (fun c=>?_)
 ·simp(disch:=omega)only[go_sem]
  try simp [c]
 ·subst c
  simp(disch:=omega)only[go_sem]
  refine QT r2 ?_
  simp(disch:=omega)only[go_sem]
  try simp
theorem QXG(hv:QbF P F)(hp:Qet P F)(x:Cx)(hs:x.sm):W P (QjK F) (Done [.t 8] [] (.int .i64 (cxE x)) []) (init [gD x.l,gD x.g,mD x.k,mD x.m]):=by
 refine QZ ?_
 have r1:=hv x.l x.g x.m
 have r2:=hp x.l x.k hs.1 hs.2
 have hE:cxE x=if XE x.l x.g x.m≠0 then XE x.l x.g x.m else Yf x.l x.k:=rfl
 rw[hE]
 generalize XE x.l x.g x.m=u at*
 generalize Yf x.l x.k=v at*
 simp only[gD,mD] at*
 simp(disch:=omega)only[go_sem]
 refine QT r1 ?_
 simp(disch:=omega)only[go_sem]
 refine XX (fun c=>?_) (fun c=>?_)
 ·simp(disch:=omega)only[go_sem]
  try simp [c]
 ·subst c
  simp(disch:=omega)only[go_sem]
  refine QT r2 ?_
  simp(disch:=omega)only[go_sem]
  try simp
theorem QXH(hc:JX P F)(x:Cx)(h1:x.m.n.length≤1000)(h2:x.k.n.length≤QW):W P (QjE F) (Done [.t 2] [] (.arr 1 (QR (Xm x.m.n x.k.n))) []) (init [cxD x]):=by
 refine QZ ?_
 obtain⟨⟨ln,le⟩,⟨gn,ge⟩,⟨kn,ke⟩,⟨mn,me⟩⟩:=x
 simp only at h1 h2
 have hl:=QeA mn kn
 have h0:Yr mn kn 0=[]:=rfl
 simp only[cxD]
 simp(disch:=omega)only[go_sem]
 refine Q5 (fun i:Nat=>⟨[(1,.pt 0 0),(3,.sl 1 0 (Yr mn kn i).length),(8,.lst 1 (QR mn)),(9,.int .i64 mn.length),(10,.int .i64 i)],
  [(0,.box [.lst 1 (QR ln),.lst 3 (eds le),.lst 1 (QR gn),.lst 3 (eds ge),.lst 1 (QR kn),.lst 1 (QR ke),.lst 1 (QR mn),.lst 1 (QR me)]),(1,.arr 1 (QR (Yr mn kn i)))],2⟩) (fun i=>i≤mn.length) (fun i=>mn.length-i) 0 ?_ ?_ ?_
 ·simp(disch:=omega)only[go_sem,h0,Zc]
  rfl
 ·simp
 ·intro i hi
  have hli:=hl i
  by_cases c:i<mn.length
  ·have g1:decide ((i:Int)<mn.length)=true:=Qd (by omega)
   have r:=hc kn i h2
   have hs:Yr mn kn (i+1)=if (i:Int)∈kn then Yr mn kn i else Yr mn kn i++[gt mn i]:=rfl
   by_cases d:(i:Int)∈kn
   ·rw[if_pos d] at hs
    rw[Qd d] at r
    simp(disch:=omega)only[go_sem,Qeu,g1]
    refine QT r ?_
    simp(disch:=omega)only[go_sem]
    exact⟨i+1,by simp [hs],by omega,by omega⟩
   ·rw[if_neg d] at hs
    rw[Qc d] at r
    simp(disch:=omega)only[go_sem,Qeu,g1]
    refine QT r ?_
    simp(disch:=omega)only[go_sem]
    exact⟨i+1,by simp [hs],by omega,by omega⟩
  ·have g1:decide ((i:Int)<mn.length)=false:=Qc (by omega)
   obtain rfl:i=mn.length:=by omega
   simp(disch:=omega)only[go_sem,Qeu,g1]
   rfl
theorem QXI(hc:QbW P F)(mn kn:List Int)(h1:mn.length≤1000)(h2:kn.length≤QW):W P (QjL F) (Done [.t 4] [] (.arr 1 (QR (Xm mn kn))) []) (init [.lst 1 (QR mn),.lst 1 (QR kn)]):=by
 refine QZ ?_
 have hl:=QeA mn kn
 have h0:Yr mn kn 0=[]:=rfl
 simp(disch:=omega)only[go_sem]
 refine Q5 (fun i:Nat=>⟨[(0,.lst 1 (QR mn)),(1,.lst 1 (QR kn)),(5,.sl 0 0 (Yr mn kn i).length),(6,.int .i64 i)],[(0,.arr 1 (QR (Yr mn kn i)))],1⟩) (fun i=>i≤mn.length) (fun i=>mn.length-i) 0 ?_ ?_ ?_
 ·simp(disch:=omega)only[go_sem,h0,Zc]
  rfl
 ·simp
 ·intro i hi
  have hli:=hl i
  by_cases c:i<mn.length
  ·have g1:decide ((i:Int)<mn.length)=true:=Qd (by omega)
   have r:=hc kn i h2
   have hs:Yr mn kn (i+1)=if (i:Int)∈kn then Yr mn kn i else Yr mn kn i++[gt mn i]:=rfl
   by_cases d:(i:Int)∈kn
   ·rw[if_pos d] at hs
    rw[Qd d] at r
    simp(disch:=omega)only[go_sem,Qex,g1]
    refine QT r ?_
    simp(disch:=omega)only[go_sem]
    exact⟨i+1,by simp [hs],by omega,by omega⟩
   ·rw[if_neg d] at hs
    rw[Qc d] at r
    simp(disch:=omega)only[go_sem,Qex,g1]
    refine QT r ?_
    simp(disch:=omega)only[go_sem]
    exact⟨i+1,by simp [hs],by omega,by omega⟩
  ·have g1:decide ((i:Int)<mn.length)=false:=Qc (by omega)
   obtain rfl:i=mn.length:=by omega
   simp(disch:=omega)only[go_sem,Qex,g1]
   rfl
theorem QaF{x:Cx}(h:cxE x=0):MOk x.l x.g x.m∧PK x.l x.k:=by
 unfold cxE at h
 split at h
 ·rename_i e;exact absurd h e
 ·rename_i e;exact⟨mok.1 (Qo.1 e),validP_ok.1 h⟩
theorem QeC(im keep:List Int):(Xm im keep).length≤im.length:=QeA _ _ _
set_option maxHeartbeats 1000000 in
theorem QXJ(hd:QjR P F)(hc:JX P F)(x:Cx)(he:cxE x=0):W P (QjF F) (Done [.t 2] [] (.arr 1 (QR (Yu x))) []) (init [cxD x]):=by
 refine QZ ?_
 obtain⟨hm,hk⟩:=QaF he
 have vl:=Q8 hm.va
 have vg:=Q8 hm.vb
 have l1:=hm.ln
 have l2:=hm.le
 have l3:=hk.len
 have r1:=hd x (by omega) (by unfold QW;omega)
 have gl:=QeC x.m.n x.k.n
 have cM:=fun i=>hc x.m.e i (by unfold QW;omega)
 have cG:=fun i=>hc (Xm x.m.n x.k.n) i (by unfold QW;omega)
 have hD:Yu x=sel (Zk x.g (Xm x.m.n x.k.n) x.m.e) x.g.e.length:=rfl
 have hE:∀i,Zk x.g (Xm x.m.n x.k.n) x.m.e i=(!decide ((i:Int)∈x.m.e)&&(decide ((gt x.g.e i).f∈Xm x.m.n x.k.n)||decide ((gt x.g.e i).o∈Xm x.m.n x.k.n))):=fun i=>rfl
 have sl:=QbH (Zk x.g (Xm x.m.n x.k.n) x.m.e)
 have ss:=QbG (Zk x.g (Xm x.m.n x.k.n) x.m.e)
 have s0:=Qcz (Zk x.g (Xm x.m.n x.k.n) x.m.e)
 rw[hD]
 clear hm hk he hD vl
 generalize Zk x.g (Xm x.m.n x.k.n) x.m.e=de at*
 generalize Xm x.m.n x.k.n=gone at*
 obtain⟨⟨ln,le⟩,⟨gn,ge⟩,⟨kn,ke⟩,⟨mn,me⟩⟩:=x
 simp only[cxD] at*
 simp(disch:=omega)only[go_sem]
 refine QT r1 ?_
 simp(disch:=omega)only[go_sem]
 refine Q5 (fun i:Nat=>⟨[(1,.pt 0 0),(3,.sl 1 0 gone.length),(4,.sl 2 0 (sel de i).length),(11,.lst 3 (eds ge)),(12,.int .i64 ge.length),(13,.int .i64 i)],
  [(0,.box [.lst 1 (QR ln),.lst 3 (eds le),.lst 1 (QR gn),.lst 3 (eds ge),.lst 1 (QR kn),.lst 1 (QR ke),.lst 1 (QR mn),.lst 1 (QR me)]),(1,.arr 1 (QR gone)),(2,.arr 1 (QR (sel de i)))],3⟩) (fun i=>i≤ge.length) (fun i=>ge.length-i) 0 ?_ ?_ ?_
 ·simp(disch:=omega)only[go_sem,s0,Zc]
  rfl
 ·simp
 ·intro i hi
  have sli:=sl i
  by_cases c:i<ge.length
  ·have g1:decide ((i:Int)<ge.length)=true:=Qd (by omega)
   have c1:=cM i
   have c2:=cG (gt ge i).f
   have c3:=cG (gt ge i).o
   have hs:=ss i
   rw[hE] at hs
   try simp only at hs
   generalize decide ((i:Int)∈me)=b1 at*
   generalize decide ((gt ge i).f∈gone)=b2 at*
   generalize decide ((gt ge i).o∈gone)=b3 at*
   cases b1
   ·cases b2
    ·cases b3
     ·simp(disch:=omega)only[go_sem,QbX,g1]
      refine QT c1 ?_
      simp(disch:=omega)only[go_sem]
      refine QT c2 ?_
      simp(disch:=omega)only[go_sem]
      refine QT c3 ?_
      simp(disch:=omega)only[go_sem]
      exact⟨i+1,by simp [hs],by omega,by omega⟩
     ·simp(disch:=omega)only[go_sem,QbX,g1]
      refine QT c1 ?_
      simp(disch:=omega)only[go_sem]
      refine QT c2 ?_
      simp(disch:=omega)only[go_sem]
      refine QT c3 ?_
      simp(disch:=omega)only[go_sem]
      exact⟨i+1,by simp [hs],by omega,by omega⟩
    ·simp(disch:=omega)only[go_sem,QbX,g1]
     refine QT c1 ?_
     simp(disch:=omega)only[go_sem]
     refine QT c2 ?_
     simp(disch:=omega)only[go_sem]
     exact⟨i+1,by simp [hs],by omega,by omega⟩
   ·simp(disch:=omega)only[go_sem,QbX,g1]
    refine QT c1 ?_
    simp(disch:=omega)only[go_sem]
    exact⟨i+1,by simp [hs],by omega,by omega⟩
  ·have g1:decide ((i:Int)<ge.length)=false:=Qc (by omega)
   obtain rfl:i=ge.length:=by omega
   simp(disch:=omega)only[go_sem,QbX,g1]
   try rfl
set_option maxHeartbeats 1000000 in
theorem QXK(hd:Qez P F)(hc:QbW P F)(x:Cx)(he:cxE x=0):W P (QjM F) (Done [.t 8] [] (.arr 1 (QR (Yu x))) []) (init [gD x.l,gD x.g,mD x.k,mD x.m]):=by
 refine QZ ?_
 obtain⟨hm,hk⟩:=QaF he
 have vl:=Q8 hm.va
 have vg:=Q8 hm.vb
 have l1:=hm.ln
 have l2:=hm.le
 have l3:=hk.len
 have r1:=hd x.m.n x.k.n (by omega) (by unfold QW;omega)
 have gl:=QeC x.m.n x.k.n
 have cM:=fun i=>hc x.m.e i (by unfold QW;omega)
 have cG:=fun i=>hc (Xm x.m.n x.k.n) i (by unfold QW;omega)
 have hD:Yu x=sel (Zk x.g (Xm x.m.n x.k.n) x.m.e) x.g.e.length:=rfl
 have hE:∀i,Zk x.g (Xm x.m.n x.k.n) x.m.e i=(!decide ((i:Int)∈x.m.e)&&(decide ((gt x.g.e i).f∈Xm x.m.n x.k.n)||decide ((gt x.g.e i).o∈Xm x.m.n x.k.n))):=fun i=>rfl
 have sl:=QbH (Zk x.g (Xm x.m.n x.k.n) x.m.e)
 have ss:=QbG (Zk x.g (Xm x.m.n x.k.n) x.m.e)
 have s0:=Qcz (Zk x.g (Xm x.m.n x.k.n) x.m.e)
 rw[hD]
 clear hm hk he hD vl
 generalize Zk x.g (Xm x.m.n x.k.n) x.m.e=de at*
 generalize Xm x.m.n x.k.n=gone at*
 obtain⟨⟨ln,le⟩,⟨gn,ge⟩,⟨kn,ke⟩,⟨mn,me⟩⟩:=x
 simp only[gD,mD] at*
 simp(disch:=omega)only[go_sem]
 refine QT r1 ?_
 simp(disch:=omega)only[go_sem]
 refine Q5 (fun i:Nat=>⟨[(5,.pt 0 0),(7,.pt 1 0),(9,.sl 2 0 (sel de i).length),(10,.sl 3 0 gone.length),(11,.int .i64 i)],
  [(0,.box [.lst 1 (QR gn),.lst 3 (eds ge)]),(1,.box [.lst 1 (QR mn),.lst 1 (QR me)]),(2,.arr 1 (QR (sel de i))),(3,.arr 1 (QR gone))],4⟩) (fun i=>i≤ge.length) (fun i=>ge.length-i) 0 ?_ ?_ ?_
 ·simp(disch:=omega)only[go_sem,s0,Zc]
  rfl
 ·simp
 ·intro i hi
  have sli:=sl i
  by_cases c:i<ge.length
  ·have g1:decide ((i:Int)<ge.length)=true:=Qd (by omega)
   have c1:=cM i
   have c2:=cG (gt ge i).f
   have c3:=cG (gt ge i).o
   have hs:=ss i
   rw[hE] at hs
   try simp only at hs
   generalize decide ((i:Int)∈me)=b1 at*
   generalize decide ((gt ge i).f∈gone)=b2 at*
   generalize decide ((gt ge i).o∈gone)=b3 at*
   cases b1
   ·cases b2
    ·cases b3
     ·simp(disch:=omega)only[go_sem,QbZ,g1]
      refine QT c1 ?_
      simp(disch:=omega)only[go_sem]
      refine QT c2 ?_
      simp(disch:=omega)only[go_sem]
      refine QT c3 ?_
      simp(disch:=omega)only[go_sem]
      exact⟨i+1,by simp [hs],by omega,by omega⟩
     ·simp(disch:=omega)only[go_sem,QbZ,g1]
      refine QT c1 ?_
      simp(disch:=omega)only[go_sem]
      refine QT c2 ?_
      simp(disch:=omega)only[go_sem]
      refine QT c3 ?_
      simp(disch:=omega)only[go_sem]
      exact⟨i+1,by simp [hs],by omega,by omega⟩
    ·simp(disch:=omega)only[go_sem,QbZ,g1]
     refine QT c1 ?_
     simp(disch:=omega)only[go_sem]
     refine QT c2 ?_
     simp(disch:=omega)only[go_sem]
     exact⟨i+1,by simp [hs],by omega,by omega⟩
   ·simp(disch:=omega)only[go_sem,QbZ,g1]
    refine QT c1 ?_
    simp(disch:=omega)only[go_sem]
    exact⟨i+1,by simp [hs],by omega,by omega⟩
  ·have g1:decide ((i:Int)<ge.length)=false:=Qc (by omega)
   obtain rfl:i=ge.length:=by omega
   simp(disch:=omega)only[go_sem,QbZ,g1]
   try rfl
set_option maxHeartbeats 1000000 in
theorem QXL(hc:JX P F)(im kn:List Int)(h1:im.length≤1000)(h2:kn.length≤QW):W P (QjH F) (Done [.t 4] [] (.arr 2 (prs (idL im kn))) []) (init [.lst 1 (QR im),.lst 1 (QR kn)]):=by
 refine QZ ?_
 have hA:∀i:Nat,i≤im.length→(idA im kn i).length≤1000000:=fun i hi=>Qj1 h1 hi
 have hR:=QeB im kn
 have a0:idA im kn 0=[]:=rfl
 have aS:∀i,idA im kn (i+1)=idA im kn i++idR im kn i im.length:=fun i=>rfl
 have rS:∀i k,idR im kn i (k+1)=if i<k∧idP im kn i k=true then idR im kn i k++[⟨i,k⟩] else idR im kn i k:=fun i k=>rfl
 have r0:∀i,idR im kn i (i+1)=[]:=fun i=>Qj0 im kn i (i+1) (Qf _)
 have hP:∀i k,idP im kn i k=(decide (gt im i=gt im k)&&(!decide ((i:Int)∈kn)||!decide ((k:Int)∈kn))):=fun i k=>rfl
 have hL:idL im kn=idA im kn im.length:=rfl
 rw[hL]
 clear hL
 generalize idA im kn=A at*
 generalize idR im kn=R at*
 generalize idP im kn=Q at*
 simp(disch:=omega)only[go_sem]
 refine Q5 (fun i:Nat=>⟨[(0,.lst 1 (QR im)),(1,.lst 1 (QR kn)),(5,.sl 0 0 (A i).length),(9,.int .i64 im.length),(10,.int .i64 i)],[(0,.arr 2 (prs (A i)))],1⟩) (fun i=>i≤im.length) (fun i=>im.length-i) 0 ?_ ?_ ?_
 ·simp(disch:=omega)only[go_sem,a0,QsF]
  rfl
 ·simp
 ·intro i hi
  have hAi:=hA i hi
  by_cases c:i<im.length
  ·have g1:decide ((i:Int)<im.length)=true:=Qd (by omega)
   simp(disch:=omega)only[go_sem,QjG,g1]
   refine Q5 (fun k:Nat=>⟨[(0,.lst 1 (QR im)),(1,.lst 1 (QR kn)),(5,.sl 0 0 ((A i).length+(R i k).length)),(6,.int .i64 i),(7,.int .i64 k),(9,.int .i64 im.length),(10,.int .i64 i)],[(0,.arr 2 (prs (A i++R i k)))],1⟩) (fun k=>i<k∧k≤im.length) (fun k=>im.length-k) (i+1) ?_ ?_ ?_
   ·simp(disch:=omega)only[go_sem,r0]
    simp
   ·omega
   ·rintro k ⟨k1,k2⟩
    have hRi:=hR i k
    have al:(A i++R i k).length=(A i).length+(R i k).length:=Ql
    by_cases d:k<im.length
    ·have g2:decide ((k:Int)<im.length)=true:=Qd (by omega)
     have c1:=hc kn i h2
     have c2:=hc kn k h2
     have hs:=rS i k
     rw[hP] at hs
     by_cases e:gt im i=gt im k
     ·have g3:decide (gt im i=gt im k)=true:=Qd e
      rw[g3] at hs
      generalize decide ((i:Int)∈kn)=b1 at*
      generalize decide ((k:Int)∈kn)=b2 at*
      cases b1
      ·simp(disch:=omega)only[go_sem,QbY,g2,g3,al]
       refine QT c1 ?_
       simp(disch:=omega)only[go_sem,al]
       exact⟨k+1,by simp [hs,k1];try omega,by omega,by omega⟩
      ·cases b2
       ·simp(disch:=omega)only[go_sem,QbY,g2,g3,al]
        refine QT c1 ?_
        simp(disch:=omega)only[go_sem,al]
        refine QT c2 ?_
        simp(disch:=omega)only[go_sem,al]
        exact⟨k+1,by simp [hs,k1];try omega,by omega,by omega⟩
       ·simp(disch:=omega)only[go_sem,QbY,g2,g3,al]
        refine QT c1 ?_
        simp(disch:=omega)only[go_sem,al]
        refine QT c2 ?_
        simp(disch:=omega)only[go_sem,al]
        exact⟨k+1,by simp [hs],by omega,by omega⟩
     ·have g3:decide (gt im i=gt im k)=false:=Qc e
      rw[g3] at hs
      simp(disch:=omega)only[go_sem,QbY,g2,g3,al]
      exact⟨k+1,by simp [hs],by omega,by omega⟩
    ·have g2:decide ((k:Int)<im.length)=false:=Qc (by omega)
     obtain rfl:k=im.length:=by omega
     simp(disch:=omega)only[go_sem,QbY,g2,al]
     exact⟨i+1,by simp [aS],by omega,by omega⟩
  ·have g1:decide ((i:Int)<im.length)=false:=Qc (by omega)
   obtain rfl:i=im.length:=by omega
   simp(disch:=omega)only[go_sem,QjG,g1]
set_option maxHeartbeats 1000000 in
theorem QXM(hc:QbW P F)(im kn:List Int)(h1:im.length≤1000)(h2:kn.length≤QW):W P (QjO F) (Done [.t 4] [] (.arr 2 (prs (idL im kn))) []) (init [.lst 1 (QR im),.lst 1 (QR kn)]):=by
 refine QZ ?_
 have hA:∀i:Nat,i≤im.length→(idA im kn i).length≤1000000:=fun i hi=>Qj1 h1 hi
 have hR:=QeB im kn
 have a0:idA im kn 0=[]:=rfl
 have aS:∀i,idA im kn (i+1)=idA im kn i++idR im kn i im.length:=fun i=>rfl
 have rS:∀i k,idR im kn i (k+1)=if i<k∧idP im kn i k=true then idR im kn i k++[⟨i,k⟩] else idR im kn i k:=fun i k=>rfl
 have r0:∀i,idR im kn i (i+1)=[]:=fun i=>Qj0 im kn i (i+1) (Qf _)
 have hP:∀i k,idP im kn i k=(decide (gt im i=gt im k)&&(!decide ((i:Int)∈kn)||!decide ((k:Int)∈kn))):=fun i k=>rfl
 have hL:idL im kn=idA im kn im.length:=rfl
 rw[hL]
 clear hL
 generalize idA im kn=A at*
 generalize idR im kn=R at*
 generalize idP im kn=Q at*
 simp(disch:=omega)only[go_sem]
 refine Q5 (fun i:Nat=>⟨[(0,.lst 1 (QR im)),(1,.lst 1 (QR kn)),(5,.sl 0 0 (A i).length),(6,.int .i64 i)],[(0,.arr 2 (prs (A i)))],1⟩) (fun i=>i≤im.length) (fun i=>im.length-i) 0 ?_ ?_ ?_
 ·simp(disch:=omega)only[go_sem,a0,QsF]
  rfl
 ·simp
 ·intro i hi
  have hAi:=hA i hi
  by_cases c:i<im.length
  ·have g1:decide ((i:Int)<im.length)=true:=Qd (by omega)
   simp(disch:=omega)only[go_sem,QjN,g1]
   refine Q5 (fun k:Nat=>⟨[(0,.lst 1 (QR im)),(1,.lst 1 (QR kn)),(5,.sl 0 0 ((A i).length+(R i k).length)),(6,.int .i64 i),(7,.int .i64 k)],[(0,.arr 2 (prs (A i++R i k)))],1⟩) (fun k=>i<k∧k≤im.length) (fun k=>im.length-k) (i+1) ?_ ?_ ?_
   ·simp(disch:=omega)only[go_sem,r0]
    simp
   ·omega
   ·rintro k ⟨k1,k2⟩
    have hRi:=hR i k
    have al:(A i++R i k).length=(A i).length+(R i k).length:=Ql
    by_cases d:k<im.length
    ·have g2:decide ((k:Int)<im.length)=true:=Qd (by omega)
     have c1:=hc kn i h2
     have c2:=hc kn k h2
     have hs:=rS i k
     rw[hP] at hs
     by_cases e:gt im i=gt im k
     ·have g3:decide (gt im i=gt im k)=true:=Qd e
      rw[g3] at hs
      generalize decide ((i:Int)∈kn)=b1 at*
      generalize decide ((k:Int)∈kn)=b2 at*
      cases b1
      ·simp(disch:=omega)only[go_sem,Qb0,g2,g3,al]
       refine QT c1 ?_
       simp(disch:=omega)only[go_sem,al]
       exact⟨k+1,by simp [hs,k1];try omega,by omega,by omega⟩
      ·cases b2
       ·simp(disch:=omega)only[go_sem,Qb0,g2,g3,al]
        refine QT c1 ?_
        simp(disch:=omega)only[go_sem,al]
        refine QT c2 ?_
        simp(disch:=omega)only[go_sem,al]
        exact⟨k+1,by simp [hs,k1];try omega,by omega,by omega⟩
       ·simp(disch:=omega)only[go_sem,Qb0,g2,g3,al]
        refine QT c1 ?_
        simp(disch:=omega)only[go_sem,al]
        refine QT c2 ?_
        simp(disch:=omega)only[go_sem,al]
        exact⟨k+1,by simp [hs],by omega,by omega⟩
     ·have g3:decide (gt im i=gt im k)=false:=Qc e
      rw[g3] at hs
      simp(disch:=omega)only[go_sem,Qb0,g2,g3,al]
      exact⟨k+1,by simp [hs],by omega,by omega⟩
    ·have g2:decide ((k:Int)<im.length)=false:=Qc (by omega)
     obtain rfl:k=im.length:=by omega
     simp(disch:=omega)only[go_sem,Qb0,g2,al]
     exact⟨i+1,by simp [aS],by omega,by omega⟩
  ·have g1:decide ((i:Int)<im.length)=false:=Qc (by omega)
   obtain rfl:i=im.length:=by omega
   simp(disch:=omega)only[go_sem,QjN,g1]
theorem QXN(hp:QjT P F)(x:Cx)(he:cxE x=0):W P (QjI F) (Done [.t 2,.t 3] [] (.tup [.arr 2 (prs (idL x.m.n x.k.n)),.arr 2 (prs (idL x.m.e x.k.e))]) []) (init [cxD x]):=by
 refine QZ ?_
 obtain⟨hm,hk⟩:=QaF he
 have vl:=Q8 hm.va
 have l1:=hm.ln
 have l2:=hm.le
 have l3:=hk.len
 have r1:=hp x.m.n x.k.n (by omega) (by unfold QW;omega)
 have r2:=hp x.m.e x.k.e (by omega) (by unfold QW;omega)
 simp only[cxD]
 simp(disch:=omega)only[go_sem]
 refine QT r1 ?_
 simp(disch:=omega)only[go_sem]
 refine QT r2 ?_
 simp(disch:=omega)only[go_sem]
theorem QXO(hc:JX P F)(n:Nat)(im kn:List Int)(hn:n≤1000)(h1:im.length≤1000)(h2:kn.length≤QW)(hb:∀v∈im,0≤v∧v<n):W P (QjJ F) (Done [.t 6] [] (.arr 1 (QR (X4 n (Xm im kn)))) []) (init [.int .i64 n,.lst 1 (QR im),.lst 1 (QR kn)]):=by
 refine QZ ?_
 have hR:X4 n (Xm im kn)=sel (fun i:Nat=>!decide ((i:Int)∈Xm im kn)) n:=rfl
 have sl:=QbH (fun i:Nat=>!decide ((i:Int)∈Xm im kn))
 have ss:=QbG (fun i:Nat=>!decide ((i:Int)∈Xm im kn))
 have s0:=Qcz (fun i:Nat=>!decide ((i:Int)∈Xm im kn))
 rw[hR]
 clear hR
 generalize hS:sel (fun i:Nat=>!decide ((i:Int)∈Xm im kn))=S at*
 simp(disch:=omega)only[go_sem]
 refine Q5 (fun s:Nat×List Bool=>⟨[(2,.lst 1 (QR kn)),(7,.sl 0 0 n),(15,.lst 1 (QR im)),(16,.int .i64 im.length),(17,.int .i64 s.1)],[(0,.arr 1 (bls s.2))],1⟩) (fun s=>s.1≤im.length∧s.2.length=n∧∀k:Nat,k<n→gt s.2 k=decide ((k:Int)∈Yr im kn s.1)) (fun s=>im.length-s.1) (0,List.replicate n false) ?_ ?_ ?_
 ·simp(disch:=omega)only[go_sem]
  rfl
 ·refine⟨by simp,by simp,fun k hk=>?_⟩
  rw[Xc (by simpa using hk)]
  simp [Yr]
 ·rintro⟨i,z⟩ ⟨i1,i2,i3⟩
  simp only at i1 i2 i3
  by_cases c:i<im.length
  ·have g1:decide ((i:Int)<im.length)=true:=Qd (by omega)
   have r:=hc kn i h2
   have hbi:=hb _ (gt_mem (l:=im) (j:=i) (by omega) (by omega))
   by_cases d:(i:Int)∈kn
   ·rw[Qd d] at r
    simp(disch:=omega)only[go_sem,Qev,g1,i2]
    refine QT r ?_
    simp(disch:=omega)only[go_sem,i2]
    refine⟨(i+1,z),by simp,⟨by simp only;omega,i2,fun k hk=>?_⟩,by simp only;omega⟩
    rw[i3 k hk]
    simp only[Yr,if_pos d]
   ·rw[Qc d] at r
    simp(disch:=omega)only[go_sem,Qev,g1,i2]
    refine QT r ?_
    simp(disch:=omega)only[go_sem,i2]
    refine⟨(i+1,z.set (gt im i).toNat true),by simp,⟨by simp only;omega,by simp [i2],fun k hk=>?_⟩,by simp only;omega⟩
    simp only
    rw[QcJ (by omega),i3 k hk]
    simp only[Yr,if_neg d,Qg,Qn]
    by_cases e:(gt im i).toNat=k
    ·have:(k:Int)=gt im i:=by omega
     simp [e,this]
    ·have:¬(k:Int)=gt im i:=by omega
     simp [e,this]
  ·have g1:decide ((i:Int)<im.length)=false:=Qc (by omega)
   obtain rfl:i=im.length:=by omega
   simp(disch:=omega)only[go_sem,Qev,g1,i2]
   refine Q5 (fun i:Nat=>⟨[(10,.sl 0 0 (S i).length),(30,.sl 1 0 n),(31,.int .i64 n),(32,.int .i64 i)],[(0,.arr 1 (QR (S i))),(1,.arr 1 (bls z))],2⟩) (fun i=>i≤n) (fun i=>n-i) 0 ?_ ?_ ?_
   ·simp(disch:=omega)only[go_sem,s0,i2,Zc]
    rfl
   ·simp
   ·intro i hi
    have sli:=sl i
    by_cases c:i<n
    ·have g1:decide ((i:Int)<n)=true:=Qd (by omega)
     have hz:=i3 i c
     have hs:=ss i
     have hz2:(!gt z i)=!decide ((i:Int)∈Xm im kn):=by rw[hz];rfl
     rw[←hz2] at hs
     generalize hzb:gt z i=b at*
     cases b
     ·simp(disch:=omega)only[go_sem,Qew,g1,i2,hzb]
      exact⟨i+1,by simp [hs],by omega,by omega⟩
     ·simp(disch:=omega)only[go_sem,Qew,g1,i2,hzb]
      exact⟨i+1,by simp [hs],by omega,by omega⟩
    ·have g1:decide ((i:Int)<n)=false:=Qc (by omega)
     obtain rfl:i=n:=by omega
     simp(disch:=omega)only[go_sem,Qew,g1]
theorem QXP(hc:QbW P F)(n:Nat)(l:List Int)(hn:n≤1000)(hl:l.length≤QW):W P (QjP F) (Done [.t 4] [] (.arr 1 (QR (X4 n l))) []) (init [.int .i64 n,.lst 1 (QR l)]):=by
 refine QZ ?_
 have hR:X4 n l=sel (fun i:Nat=>!decide ((i:Int)∈l)) n:=rfl
 have sl:=QbH (fun i:Nat=>!decide ((i:Int)∈l))
 have ss:=QbG (fun i:Nat=>!decide ((i:Int)∈l))
 have s0:=Qcz (fun i:Nat=>!decide ((i:Int)∈l))
 rw[hR]
 clear hR
 generalize hS:sel (fun i:Nat=>!decide ((i:Int)∈l))=S at*
 simp(disch:=omega)only[go_sem]
 refine Q5 (fun i:Nat=>⟨[(0,.int .i64 n),(1,.lst 1 (QR l)),(5,.sl 0 0 (S i).length),(6,.int .i64 i)],[(0,.arr 1 (QR (S i)))],1⟩) (fun i=>i≤n) (fun i=>n-i) 0 ?_ ?_ ?_
 ·simp(disch:=omega)only[go_sem,s0,Zc]
  rfl
 ·simp
 ·intro i hi
  have sli:=sl i
  by_cases c:i<n
  ·have g1:decide ((i:Int)<n)=true:=Qd (by omega)
   have r:=hc l i hl
   have hs:=ss i
   generalize decide ((i:Int)∈l)=b at*
   cases b
   ·simp(disch:=omega)only[go_sem,Qey,g1]
    refine QT r ?_
    simp(disch:=omega)only[go_sem]
    exact⟨i+1,by simp [hs],by omega,by omega⟩
   ·simp(disch:=omega)only[go_sem,Qey,g1]
    refine QT r ?_
    simp(disch:=omega)only[go_sem]
    exact⟨i+1,by simp [hs],by omega,by omega⟩
  ·have g1:decide ((i:Int)<n)=false:=Qc (by omega)
   obtain rfl:i=n:=by omega
   simp(disch:=omega)only[go_sem,Qey,g1]
end
end Go.Am
