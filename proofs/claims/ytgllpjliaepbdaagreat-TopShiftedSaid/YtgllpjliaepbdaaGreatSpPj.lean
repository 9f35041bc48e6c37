/- Shifting conditions, as the program does it. -/
import Derived.Test.YtgllpjliaepbdaaGreatSpPa
import Derived.Test.YtgllpjliaepbdaaGreatSpPb
import Derived.Test.YtgllpjliaepbdaaGreatSpPc
import Derived.Test.YtgllpjliaepbdaaGreatSpPd
import Derived.Test.YtgllpjliaepbdaaGreatSpPe
import Derived.Test.YtgllpjliaepbdaaGreatSpPf
import Derived.Test.YtgllpjliaepbdaaGreatSpPg
import Derived.Test.YtgllpjliaepbdaaGreatSpPh
import Derived.Test.YtgllpjliaepbdaaGreatSpPi
namespace Go.Am
open Go
set_option linter.unusedVariables false
set_option linter.unusedSimpArgs false
attribute [local irreducible] W
def QI5:LL:=[qB 5 1,qB 6 2,qB 7 3,qa 8 [.int .i64 (0),.nl 9,.nl 1,.nl 1,.nl 1,.nl 3,.nl 4,.int .i64 (0),.nl 5]]
def QI6:LL:=[qm 17 0,qf 18 0 17,qf 19 0 18,ql 20 1 19,qk .add 21 20 1,qf 22 0 17,qf 23 0 22,qs 1 23 21]
def QI7:LL:=[qm 24 0,qf 25 0 24,qf 26 0 25,ql 27 1 26,qk .gtr 28 27 2000]
def QI8:LL:=[qm 29 0,qf 30 0 29,qf 31 1 30,qQn (.store 1 (.t 31) (.k (.int .i64 (3))))]
def QI9:LL:=[qf 32 0 7,ql 33 1 32,qu 34 [.int .i64 (0),.nl 9,.nl 1,.nl 1,.nl 1,.nl 3,.nl 4,.int .i64 (0),.nl 5] [(0,1,.t 33)],
 qa 9 [.int .i64 (0),.nl 9,.nl 1,.nl 1,.nl 1,.nl 3,.nl 4,.int .i64 (0),.nl 5],qs 9 9 34]
def QJa:LL:=[qm 35 0,qf 36 0 35,qf 37 1 36,ql 38 1 37,qk .neq 39 38 0]
def QJb:LL:=[qL 40 9 9,qs 9 8 40]
def QJc:LL:=[qf 41 0 7,ql 42 1 41,qk .neq 43 42 5]
def QJd:LL:=[qf 44 1 7,ql 45 1 44,qz 46 45,qi 47 0]
def QJe:LL:=[qo .lss 48 47 46]
def QJf:LL:=[qd 49 9 45 47,qL 50 9 49,qa 11 [.int .i64 (0),.nl 9,.nl 1,.nl 1,.nl 1,.nl 3,.nl 4,.int .i64 (0),.nl 5],qs 9 11 50]
def QJg(F:Fn):LL:=[qf 51 1 9,ql 52 1 51,qm 53 0,qL 54 2 5,qL 55 2 6,qL 56 9 11,qQp 57 (.call (F "r") [.t 53,.t 54,.t 55,.t 56] [.mp,.rd,.rd,.rd]),
 qQp 58 (.buildSl 9 184 (.agg [.int .i64 (0),.lst 9 [],.lst 1 [],.lst 1 [],.lst 1 [],.lst 3 [],.lst 4 [],.int .i64 (0),.lst 5 []]) 1 [(0,.t 57)]),qp 59 9 184 52 58,
 qf 60 1 9,qs 1 60 59]
def QJh:LL:=[qk .add 61 47 1,qm 47 61]
def QlQ(F:Fn):LC:=QQ [.reg QJe [0,5,6,8,9,45,46,47,48],.cond (.t 48) .skip (.exit 0),.block 1 (QQ [.reg QJf [0,5,6,8,9,11,45,46,47],.dreg [(1,none,[],true),(6,none,[1],false),(7,none,[1],false)] (QJg F) [0,5,6,8,9,45,46,47]]),.reg QJh [0,5,6,8,9,45,46,47]]
def QJi:LL:=[qL 62 9 9,qs 9 8 62]
def QJj:LL:=[qf 63 0 9,qQn (.store 1 (.t 63) (.k (.int .i64 (4))))]
def QJk(F:Fn):LL:=[qL 65 2 5,qf 66 4 7,qf 67 0 66,qL 68 2 67,qc 69 (F "aU") [.t 65,.t 68],qm 64 69,qx 70 64 0,qx 71 64 1,qm 12 70,qm 13 71]
def QJl:LL:=[qm 72 13,qk .neq 73 72 0]
def QJm:LL:=[qm 74 0,qm 75 13,qf 76 0 74,qf 77 1 76,qs 1 77 75]
def QJn:LL:=[qL 78 9 9,qs 9 8 78]
def QJo:LL:=[qm 79 12,qz 80 79,qi 81 0]
def QJp:LL:=[qo .lss 82 81 80]
def QJq:LL:=[qd 83 6 79 81,qL 84 6 83,qa 15 [.nl 1,.nl 3,.nl 1,.nl 1,.nl 1,.nl 1],qs 6 15 84]
def QJr(F:Fn):LL:=[qf 85 0 6,ql 86 1 85,qf 87 2 15,qf 88 0 87,ql 89 1 88,qf 90 2 7,qf 91 0 90,ql 92 1 91,qf 93 4 15,qf 94 0 93,ql 95 1 94,qc 96 (F "x") [.t 86,.t 89,.t 92,.t 95],qv 97 96,qm 98 97,
 qg 98 false (qf 99 1 6),qg 98 false (ql 100 1 99),qg 98 false (qf 101 2 15),qg 98 false (qf 102 1 101),qg 98 false (ql 103 1 102),qg 98 false (qf 104 2 7),
 qg 98 false (qf 105 1 104),qg 98 false (ql 106 1 105),qg 98 false (qf 107 4 15),qg 98 false (qf 108 1 107),qg 98 false (ql 109 1 108),
 qg 98 false (qc 110 (F "x") [.t 100,.t 103,.t 106,.t 109]),qg 98 false (qv 111 110),qQ 112 98 111]
def QJs:LL:=[qm 113 0,qf 114 0 113,qf 115 0 114,ql 116 1 115,qk .add 117 116 1,qf 118 0 113,qf 119 0 118,qs 1 119 117]
def QJt(F:Fn):LL:=[qm 120 0,qf 121 0 15,qL 122 2 121,qf 123 4 15,qL 124 2 123,qf 125 1 7,ql 126 1 125,qQp 127 (.iad 9 (.t 126) (.k (.int .i64 (0)))),qL 128 9 127,
 qQp 129 (.call (F "r") [.t 120,.t 122,.t 124,.t 128] [.mp,.rd,.rd,.rd]),qa 16 [.int .i64 (0),.nl 9,.nl 1,.nl 1,.nl 1,.nl 3,.nl 4,.int .i64 (0),.nl 5],qs 9 16 129]
def QJu:LL:=[qf 130 1 9,ql 131 1 130,qf 132 2 15,qL 133 2 132,qf 134 0 15,qL 135 2 134,qu 136 [.nl 1,.nl 3,.nl 4,.int .i64 (0),.nl 5] [(0,2,.t 135)],qL 137 9 16,
 qQp 138 (.buildSl 9 184 (.agg [.int .i64 (0),.lst 9 [],.lst 1 [],.lst 1 [],.lst 1 [],.lst 3 [],.lst 4 [],.int .i64 (0),.lst 5 []]) 1 [(0,.t 137)]),
 qu 139 [.int .i64 (0),.nl 9,.nl 1,.nl 1,.nl 1,.nl 3,.nl 4,.int .i64 (0),.nl 5] [(0,1,.k (.int .i64 (5))),(2,2,.t 133),(4,5,.t 136),(1,1,.t 138)],
 qQp 140 (.buildSl 9 184 (.agg [.int .i64 (0),.lst 9 [],.lst 1 [],.lst 1 [],.lst 1 [],.lst 3 [],.lst 4 [],.int .i64 (0),.lst 5 []]) 1 [(0,.t 139)]),
 qp 141 9 184 131 140,qf 142 1 9,qs 1 142 141]
def QJv:LL:=[qk .add 143 81 1,qm 81 143]
def Qc5(F:Fn):LC:=QQ [.reg QJp [0,6,7,8,9,79,80,81,82],.cond (.t 82) .skip (.exit 2),.block 3 (QQ [.reg QJq [0,6,7,8,9,15,79,80,81],QQ [.reg (QJr F) [0,6,7,8,9,15,79,80,81,112],.cond (.t 112) (.exit 3) .skip],.reg QJs [0,6,7,8,9,15,79,80,81],.dreg [] (QJt F) [0,6,7,8,9,15,16,79,80,81],.reg QJu [0,6,7,8,9,79,80,81]]),.reg QJv [0,6,7,8,9,79,80,81]]
def QJw:LL:=[qL 144 9 9,qs 9 8 144]
def Qfb(F:Fn):LC:=QQ [.reg QI5 [0,5,6,7,8],.reg QI6 [0,5,6,7,8],QQ [.reg QI7 [0,5,6,7,8,28],.cond (.t 28) (.reg QI8 [0,5,6,7,8]) .skip],.reg QI9 [0,5,6,7,8,9],QQ [.reg QJa [0,5,6,7,8,9,39],.cond (.t 39) (QQ [.reg QJb [0,8],.ret]) .skip],QQ [.reg QJc [0,5,6,7,8,9,43],.cond (.t 43) (QQ [QQ [.reg QJd [0,5,6,8,9,45,46,47],.block 0 (.loop [0,5,6,8,9,45,46,47] (QlQ F))],.reg QJi [0,8],.ret]) .skip],.reg QJj [0,5,6,7,8,9],.reg (QJk F) [0,6,7,8,9,12,13],QQ [.reg QJl [0,6,7,8,9,12,13,73],.cond (.t 73) (QQ [.reg QJm [0,8,9],.reg QJn [0,8],.ret]) .skip],QQ [.reg QJo [0,6,7,8,9,79,80,81],.block 2 (.loop [0,6,7,8,9,79,80,81] (Qc5 F))],.reg QJw [0,8],.ret]
def QZc:Hints:=hOf [0] (Qfb fun _=>0)
def QJx:LL:=[qB 3 0,qB 4 1,qB 5 2,qa 6 [.int .i64 (0),.nl 9,.nl 1,.nl 1,.nl 1,.nl 3,.nl 4,.int .i64 (0),.nl 5],qi 7 0]
def QJy:LL:=[qu 10 [.int .i64 (0),.int .i64 (0)] [],qB 11 10,qm 8 11]
def QJz(F:Fn):LL:=[qm 12 8,qL 13 2 3,qL 14 2 4,qL 15 9 5,qQp 16 (.call (F "r") [.t 12,.t 13,.t 14,.t 15] [.mp,.rd,.rd,.rd]),
 qa 9 [.int .i64 (0),.nl 9,.nl 1,.nl 1,.nl 1,.nl 3,.nl 4,.int .i64 (0),.nl 5],qs 9 9 16]
def QJA:LL:=[qm 17 8,qf 18 0 17,qf 19 1 18,ql 20 1 19,qk .neq 21 20 0]
def QJB:LL:=[qu 22 [.int .i64 (0),.nl 9,.nl 1,.nl 1,.nl 1,.nl 3,.nl 4,.int .i64 (0),.nl 5] [],qm 23 8,qf 24 0 23,qf 25 1 24,ql 26 1 25,qs 9 6 22,qm 7 26]
def QJC:LL:=[qL 27 9 9,qs 9 6 27,qi 7 0]
def Qfc(F:Fn):LC:=QQ [.reg QJx [3,4,5,6],.reg QJy [3,4,5,6,8],.reg (QJz F) [6,8,9],QQ [.reg QJA [6,8,9,21],.cond (.t 21) (QQ [.dreg [(4,none,[],true),(5,none,[4],false)] QJB [6,7],.ret]) .skip],.reg QJC [6,7],.ret]
def QZd:Hints:=hOf [] (Qfc fun _=>0)
def QJD:LL:=[qB 4 0,qB 5 1,qB 6 2,qB 7 3,qa 8 [.int .i64 (0),.nl 9,.nl 1,.nl 1,.nl 1,.nl 3,.nl 4,.int .i64 (0),.nl 5],qi 9 0]
def QJE(F:Fn):LL:=[qL 12 2 4,qL 13 2 5,qL 14 2 6,qc 15 (F "aI") [.t 12,.t 13,.t 14],qm 10 15]
def QJF:LL:=[qm 16 10,qk .neq 17 16 0]
def QJG:LL:=[qu 18 [.int .i64 (0),.nl 9,.nl 1,.nl 1,.nl 1,.nl 3,.nl 4,.int .i64 (0),.nl 5] [],qm 19 10,qs 9 8 18,qm 9 19]
def QJH(F:Fn):LL:=[qL 20 2 4,qL 21 9 7,qc 22 (F "l") [.t 20,.t 21],qm 11 22]
def QJI:LL:=[qm 23 11,qk .neq 24 23 0]
def QJJ:LL:=[qu 25 [.int .i64 (0),.nl 9,.nl 1,.nl 1,.nl 1,.nl 3,.nl 4,.int .i64 (0),.nl 5] [],qm 26 11,qs 9 8 25,qm 9 26]
def QJK(F:Fn):LL:=[qL 27 2 5,qL 28 2 6,qL 29 9 7,qc 30 (F "aW") [.t 27,.t 28,.t 29],qx 31 30 0,qx 32 30 1,qs 9 8 31,qm 9 32]
def Qfd(F:Fn):LC:=QQ [.reg QJD [4,5,6,7,8],QQ [.reg (QJE F) [4,5,6,7,8,10],.reg QJF [4,5,6,7,8,10,17],.cond (.t 17) (QQ [.reg QJG [8,9],.ret]) .skip],QQ [.reg (QJH F) [5,6,7,8,11],.reg QJI [5,6,7,8,11,24],.cond (.t 24) (QQ [.reg QJJ [8,9],.ret]) .skip],.reg (QJK F) [8,9],.ret]
def QZe:Hints:=hOf [] (Qfd fun _=>0)
abbrev Kd:=Int×List D
def kD(r:Kd):D:=.agg [.int .i64 r.1,.lst 9 r.2,.lst 1 [],.lst 1 [],.lst 1 [],.lst 3 [],.lst 4 [],.int .i64 0,.lst 5 []]
def exD(b g:G)(r:D):D:=.agg [.int .i64 5,.lst 9 [r],.lst 1 (QR (idM b).n),.lst 1 (QR (idM b).e),.lst 1 (QR g.n),.lst 3 (eds g.e),.lst 4 [],.int .i64 0,.lst 5 []]
def erS(z e:Int):Int:=if z+1>2000 then 3 else e
mutual
def sfM:Cnd→G→Mo→Int→Int→Kd×Int×Int
 | .tt,_,_,z,e=>((1,[]),z+1,erS z e)
 | .no c,b,m,z,e=>if erS z e≠0 then ((2,[]),z+1,erS z e) else ((2,[kD (sfM c b m (z+1) 0).1]),(sfM c b m (z+1) 0).2)
 | .an l,b,m,z,e=>if erS z e≠0 then ((3,[]),z+1,erS z e) else ((3,(Xo l b m (z+1) 0).1),(Xo l b m (z+1) 0).2)
 | .or l,b,m,z,e=>if erS z e≠0 then ((4,[]),z+1,erS z e) else ((4,(Xo l b m (z+1) 0).1),(Xo l b m (z+1) 0).2)
 | .ex n p c,b,m,z,e=>if erS z e≠0 then ((5,[]),z+1,erS z e) else if (ovR b p).2≠0 then ((4,[]),z+1,(ovR b p).2)
  else ((4,((ovR b p).1.foldl (fun (s:List D×Int×Int) (o:Ov)=>if Jf b m n o then (s.1++[exD b (ovG b p o.1 o.2) (kD (sfM c (ovG b p o.1 o.2) (ovM b o.1 o.2) (s.2.1+1) s.2.2).1)],(sfM c (ovG b p o.1 o.2) (ovM b o.1 o.2) (s.2.1+1) s.2.2).2) else s) ([],z+1,0)).1),
   ((ovR b p).1.foldl (fun (s:List D×Int×Int) (o:Ov)=>if Jf b m n o then (s.1++[exD b (ovG b p o.1 o.2) (kD (sfM c (ovG b p o.1 o.2) (ovM b o.1 o.2) (s.2.1+1) s.2.2).1)],(sfM c (ovG b p o.1 o.2) (ovM b o.1 o.2) (s.2.1+1) s.2.2).2) else s) ([],z+1,0)).2)
def Xo:List Cnd→G→Mo→Int→Int→List D×Int×Int
 |[],_,_,z,e=>([],z,e)
 |c::l,b,m,z,e=>(kD (sfM c b m z e).1::(Xo l b m (sfM c b m z e).2.1 (sfM c b m z e).2.2).1,(Xo l b m (sfM c b m z e).2.1 (sfM c b m z e).2.2).2)
end
def sfS(c:Cnd)(b p:G)(m n:Mo)(s:List D×Int×Int)(o:Ov):List D×Int×Int:=
 if Jf b m n o then (s.1++[exD b (ovG b p o.1 o.2) (kD (sfM c (ovG b p o.1 o.2) (ovM b o.1 o.2) (s.2.1+1) s.2.2).1)],(sfM c (ovG b p o.1 o.2) (ovM b o.1 o.2) (s.2.1+1) s.2.2).2) else s
attribute [go_sem] QI5 QI6 QI7 QI8 QI9 QJa QJb QJc QJd QJe QJf QJg QJh QJi QJj QJk QJl QJm QJn QJo QJp QJq QJr QJs QJt QJu QJv QJw Qfb QJx QJy QJz QJA QJB QJC Qfc QJD QJE QJF QJG QJH QJI QJJ QJK Qfd
theorem Qfe(n:Mo)(p:G)(c:Cnd)(b:G)(m:Mo)(z e:Int):sfM (.ex n p c) b m z e=if erS z e≠0 then ((5,[]),z+1,erS z e) else if (ovR b p).2≠0 then ((4,[]),z+1,(ovR b p).2)
  else ((4,((ovR b p).1.foldl (sfS c b p m n) ([],z+1,0)).1),((ovR b p).1.foldl (sfS c b p m n) ([],z+1,0)).2):=by
 rw[sfM]
 rfl
theorem QJL(b:G)(m:Mo):∀(l1 l2:List Cnd)(z e:Int),Xo (l1++l2) b m z e=((Xo l1 b m z e).1++(Xo l2 b m (Xo l1 b m z e).2.1 (Xo l1 b m z e).2.2).1,(Xo l2 b m (Xo l1 b m z e).2.1 (Xo l1 b m z e).2.2).2)
 |[],l2,z,e=>by simp [Xo]
 |c::l1,l2,z,e=>by
  rw[List.cons_append,Xo,Xo,QJL b m l1 l2]
  rfl
theorem QZf{c:Cnd}(hk:Q9 c≠5)(b:G)(m:Mo)(z e:Int):sfM c b m z e=if erS z e≠0 then ((Q9 c,[]),z+1,erS z e) else ((Q9 c,(Xo (QU c) b m (z+1) 0).1),(Xo (QU c) b m (z+1) 0).2):=by
 cases c
 case ex=>simp [Q9] at hk
 case tt=>
  simp only[sfM,Q9,QU,Xo]
  split
  ·rfl
  ·rename_i h;rw[Qo.1 h]
 case no c=>simp only[sfM,Q9,QU,Xo]
 case an l=>simp only[sfM,Q9,QU]
 case or l=>simp only[sfM,Q9,QU]
section
variable (P:Program) (F:String→Nat)
def QlR(n:Nat):Prop:=∀(c:Cnd)(a b:G)(m:Mo)(z e:Int),csz c=n→n≤2000→Q3 a c→Emb a b m→0≤z→z+5000*n≤100000000→
 FC P (F "r") [.box [.int .i64 z,.int .i64 e],gD b,mD m,cnD c] (kD (sfM c b m z e).1) [(0,.box [.int .i64 (sfM c b m z e).2.1,.int .i64 (sfM c b m z e).2.2])]
def QlS:Prop:=∀n,QlR P F n
def QlT:Prop:=∀(c:Cnd)(a b:G)(m:Mo),csz c≤2000→Q3 a c→Emb a b m→
 FC P (F "aW") [gD b,mD m,cnD c] (.tup [if (sfM c b m 0 0).2.2≠0 then kD (0,[]) else kD (sfM c b m 0 0).1,.int .i64 (sfM c b m 0 0).2.2]) []
def QlU:Prop:=∀(c:Cnd)(a b:G)(m:Mo),csz c≤2000→cdp c≤3→Q3 a c→Emb a b m→
 FC P (F "O") [gD a,gD b,mD m,cnD c] (.tup [if (sfM c b m 0 0).2.2≠0 then kD (0,[]) else kD (sfM c b m 0 0).1,.int .i64 (sfM c b m 0 0).2.2]) []
end
section
theorem Qam{z e:Int}(h:erS z e=0):z+1≤2000∧e=0:=by
 unfold erS at h
 split at h
 ·omega
 ·exact⟨by omega,h⟩
theorem QJM(c:Cnd)(b:G)(m:Mo)(z e:Int)(h:erS z e≠0):(sfM c b m z e).2=(z+1,erS z e):=by
 cases c
 case tt=>rfl
 all_goals rw[sfM,if_pos h]
structure BdM(z:Int)(r:Int×Int)(k:Nat):Prop where
 lo:z<r.1
 ok:r.2=0→r.1≤2000
 hi:r.1≤max z 2000+4001*(k:Int)
theorem QlV{c:Cnd}{b p:G}{m n:Mo}{k:Nat}(hc:∀b m z e,0≤z→BdM z (sfM c b m z e).2 k):∀(l:List Ov)(s:List D×Int×Int),0≤s.2.1→(s.2.2=0→s.2.1≤2000)→
  s.2.1≤(l.foldl (sfS c b p m n) s).2.1∧((l.foldl (sfS c b p m n) s).2.2=0→(l.foldl (sfS c b p m n) s).2.1≤2000)∧(l.foldl (sfS c b p m n) s).2.1≤max s.2.1 (2000+4001*(k:Int))+2*l.length
 |[],s,h0,hs=>by simp only[List.foldl_nil,List.length_nil];exact⟨Int.le_refl _,hs,by omega⟩
 |o::l,s,h0,hs=>by
  rw[List.foldl_cons]
  have hstep:s.2.1≤(sfS c b p m n s o).2.1∧((sfS c b p m n s o).2.2=0→(sfS c b p m n s o).2.1≤2000)∧(sfS c b p m n s o).2.1≤max (s.2.1+2) (2000+4001*(k:Int)):=by
   unfold sfS
   split
   ·simp only
    obtain⟨b1,b2,b3⟩:=hc (ovG b p o.1 o.2) (ovM b o.1 o.2) (s.2.1+1) s.2.2 (by omega)
    by_cases he:erS (s.2.1+1) s.2.2=0
    ·have hz:=Qam he
     exact⟨by omega,b2,by omega⟩
    ·rw[QJM _ _ _ _ _ he] at b1 b2 b3 ⊢
     exact⟨by simp only;omega,fun h=>absurd h he,by simp only;omega⟩
   ·exact⟨Int.le_refl _,hs,by omega⟩
  obtain⟨h2,h3,h4⟩:=hstep
  have ih:=QlV (b:=b) (p:=p) (m:=m) (n:=n) hc l (sfS c b p m n s o) (by omega) h3
  simp only[List.length_cons]
  exact⟨by omega,ih.2.1,by omega⟩
theorem QJN(c:Cnd)(b p:G)(m n:Mo):∀(l:List Ov)(s:List D×Int×Int),(l.foldl (sfS c b p m n) s).1.length≤s.1.length+l.length
 |[],s=>Qf _
 |o::l,s=>by
  rw[List.foldl_cons]
  have:=QJN c b p m n l (sfS c b p m n s o)
  have h:(sfS c b p m n s o).1.length≤s.1.length+1:=by
   unfold sfS
   split
   ·simp
   ·omega
  rw[List.length_cons]
  omega
theorem QJO(b p:G):(ovR b p).1.length≤2000:=by
 unfold ovR
 split
 ·exact Nat.zero_le _
 ·split
  ·exact Nat.zero_le _
  ·rename_i h
   exact Nat.not_lt.1 h
mutual
theorem Qc6:∀(c:Cnd)(b:G)(m:Mo)(z e:Int),0≤z→BdM z (sfM c b m z e).2 (csz c)
 | .tt,b,m,z,e,h0=>by
  simp only[sfM,csz]
  exact⟨by simp only;omega,fun h=>by have:=Qam h;simp only;omega,by simp only;omega⟩
 | .no c,b,m,z,e,h0=>by
  simp only[sfM,csz]
  split
  ·rename_i h
   exact⟨by simp only;omega,fun h'=>absurd h' h,by simp only;omega⟩
  ·rename_i h
   have hz:=Qam (Qo.1 h)
   obtain⟨a1,a2,a3⟩:=Qc6 c b m (z+1) 0 (by omega)
   exact⟨by simp only;omega,a2,by simp only;omega⟩
 | .an l,b,m,z,e,h0=>by
  simp only[sfM,csz]
  split
  ·rename_i h
   exact⟨by simp only;omega,fun h'=>absurd h' h,by simp only;omega⟩
  ·rename_i h
   have hz:=Qam (Qo.1 h)
   obtain⟨a1,a2,a3⟩:=Qff l b m (z+1) 0 (by omega) (fun _=>by omega)
   exact⟨by simp only;omega,a2,by simp only;omega⟩
 | .or l,b,m,z,e,h0=>by
  simp only[sfM,csz]
  split
  ·rename_i h
   exact⟨by simp only;omega,fun h'=>absurd h' h,by simp only;omega⟩
  ·rename_i h
   have hz:=Qam (Qo.1 h)
   obtain⟨a1,a2,a3⟩:=Qff l b m (z+1) 0 (by omega) (fun _=>by omega)
   exact⟨by simp only;omega,a2,by simp only;omega⟩
 | .ex n p c,b,m,z,e,h0=>by
  rw[Qfe]
  simp only[csz]
  split
  ·rename_i h
   exact⟨by simp only;omega,fun h'=>absurd h' h,by simp only;omega⟩
  ·rename_i h
   have hz:=Qam (Qo.1 h)
   split
   ·rename_i h'
    exact⟨by simp only;omega,fun h2=>absurd h2 h',by simp only;omega⟩
   ·have:=QlV (b:=b) (p:=p) (m:=m) (n:=n) (k:=csz c) (fun b m z e h0=>Qc6 c b m z e h0) (ovR b p).1 ([],z+1,0) (by simp only;omega) (fun _=>by simp only;omega)
    have hl:=QJO b p
    simp only at this
    exact⟨by simp only;omega,this.2.1,by simp only;omega⟩
theorem Qff:∀(l:List Cnd)(b:G)(m:Mo)(z e:Int),0≤z→(e=0→z≤2000)→z≤(Xo l b m z e).2.1∧((Xo l b m z e).2.2=0→(Xo l b m z e).2.1≤2000)∧(Xo l b m z e).2.1≤max z 2000+4001*(Xu l:Int)
 |[],b,m,z,e,h0,h=>by simp only[Xo,Xu];exact⟨Int.le_refl _,h,by omega⟩
 |c::l,b,m,z,e,h0,h=>by
  simp only[Xo,Xu]
  obtain⟨a1,a2,a3⟩:=Qc6 c b m z e h0
  obtain⟨b1,b2,b3⟩:=Qff l b m (sfM c b m z e).2.1 (sfM c b m z e).2.2 (by omega) a2
  exact⟨by omega,b2,by omega⟩
end
end
section
variable {P:Program} {F:String→Nat} {α:Type}
theorem QZg(b:G)(m:Mo)(l:List Cnd)(z e:Int){i:Nat}(h:i<l.length):Xo (l.take (i+1)) b m z e=((Xo (l.take i) b m z e).1++[kD (sfM (gt l (i:Int)) b m (Xo (l.take i) b m z e).2.1 (Xo (l.take i) b m z e).2.2).1],(sfM (gt l (i:Int)) b m (Xo (l.take i) b m z e).2.1 (Xo (l.take i) b m z e).2.2).2):=by
 rw[Yk h,QJL]
 rfl
theorem QJP(b:G)(m:Mo):∀(l:List Cnd)(z e:Int),(Xo l b m z e).1.length=l.length
 |[],z,e=>rfl
 |c::l,z,e=>by rw[Xo,List.length_cons,List.length_cons,QJP b m l]
set_option maxRecDepth 100000 in
theorem QZh(ho:Qls P F)(ha:QlO P F)(n:Nat)(ih:∀m,m<n→QlR P F m)(c:Cnd)(a b:G)(m:Mo)(z e:Int)(hc:csz c=n)(hn:n≤2000)(hov:Q3 a c)(hm:Emb a b m)(h0:0≤z)(h1:z+5000*n≤100000000):
  W P (Qfb F) (DoneZ [.c 8 true 9] [0] (kD (sfM c b m z e).1) [(0,.box [.int .i64 (sfM c b m z e).2.1,.int .i64 (sfM c b m z e).2.2])]) (init [.box [.int .i64 z,.int .i64 e],gD b,mD m,cnD c]):=by
 refine ZH ?_
 have he:erS z e=if z+1>2000 then 3 else e:=rfl
 have e1:=JA c
 have hl:=Qal (QU c)
 have hl2:(QU c).length≤2000:=by omega
 have d0:decide ((0:Int)=0)=true:=rfl
 have d3:decide ((3:Int)=0)=false:=rfl
 by_cases c1:erS z e≠0
 ·have q:sfM c b m z e=((Q9 c,[]),z+1,erS z e):=by
   cases c
   case tt=>rfl
   all_goals rw[sfM,if_pos c1];rfl
  rw[q]
  rw[Q4]
  clear ih q hc e1
  generalize Q9 c=k at*
  generalize (Xn c).n=mn at*
  generalize (Xn c).e=me at*
  generalize (Xk c).n=pn at*
  generalize (Xk c).e=pe at*
  generalize QU c=l at*
  obtain⟨bn,be⟩:=b
  obtain⟨mmn,mme⟩:=m
  simp only[gD,mD] at*
  by_cases c2:z+1>2000
  ·rw[if_pos c2] at he
   rw[he]
   have g1:decide ((2000:Int)<z+1)=true:=Qd c2
   simp(disch:=omega)only[go_sem,g1,d3]
   rfl
  ·rw[if_neg c2] at he
   rw[he] at c1 ⊢
   have g1:decide ((2000:Int)<z+1)=false:=Qc c2
   have g2:decide (e=0)=false:=Qc c1
   simp(disch:=omega)only[go_sem,g1,g2]
   rfl
 ·obtain⟨cz,ce⟩:=Qam (Qo.1 c1)
  have g1:decide ((2000:Int)<z+1)=false:=Qc (by omega)
  by_cases hk5:Q9 c=5
  ·obtain⟨nm,p,d,rfl⟩:∃nm p d,c=.ex nm p d:=by
    cases c<;>simp [Q9] at hk5
    exact⟨_,_,_,rfl⟩
   simp only[Q3] at hov
   obtain⟨hnm,hd⟩:=hov
   have q:=Qfe nm p d b m z e
   rw[if_neg c1] at q
   have r1:=ho b p hm.ok.vb hnm.ok.vb
   have lb:=QJO b p
   have Z0:((ovR b p).1.take 0).foldl (sfS d b p m nm) ([],z+1,0)=([],z+1,0):=rfl
   have ZE:((ovR b p).1.take (ovR b p).1.length).foldl (sfS d b p m nm) ([],z+1,0)=(ovR b p).1.foldl (sfS d b p m nm) ([],z+1,0):=by rw[List.take_length]
   have ZS:∀i:Nat,i<(ovR b p).1.length→((ovR b p).1.take (i+1)).foldl (sfS d b p m nm) ([],z+1,0)=sfS d b p m nm (((ovR b p).1.take i).foldl (sfS d b p m nm) ([],z+1,0)) (gt (ovR b p).1 (i:Int)):=fun i hi=>by
    rw[Yk hi,List.foldl_append]
    rfl
   have ZB:∀i:Nat,i≤(ovR b p).1.length→0≤(((ovR b p).1.take i).foldl (sfS d b p m nm) ([],z+1,0)).2.1∧(((ovR b p).1.take i).foldl (sfS d b p m nm) ([],z+1,0)).2.1≤6000+4001*(csz d:Int):=fun i hi=>by
    obtain⟨x1,x2,x3⟩:=QlV (b:=b) (p:=p) (m:=m) (n:=nm) (k:=csz d) (fun b m z e h0=>Qc6 d b m z e h0) ((ovR b p).1.take i) ([],z+1,0) (by simp only;omega) (fun _=>by simp only;omega)
    rw[Qj] at x3
    simp only at x1 x3
    exact⟨by omega,by omega⟩
   have ZL:∀i:Nat,i≤(ovR b p).1.length→(((ovR b p).1.take i).foldl (sfS d b p m nm) ([],z+1,0)).1.length≤i:=fun i hi=>by
    have:=QJN d b p m nm ((ovR b p).1.take i) ([],z+1,0)
    rw[Qj] at this
    simp only[List.length_nil] at this
    omega
   have hsz:csz (.ex nm p d)=1+csz d:=by simp [csz]
   generalize hV:(fun i:Nat=>((ovR b p).1.take i).foldl (sfS d b p m nm) ([],z+1,0))=V
   have hV':∀i:Nat,((ovR b p).1.take i).foldl (sfS d b p m nm) ([],z+1,0)=V i:=fun i=>congrFun hV i
   simp only[hV'] at*
   have HO:(ovR b p).2=0→∀i:Nat,i<(ovR b p).1.length→Emb b (ovG b p (gt (ovR b p).1 (i:Int)).1 (gt (ovR b p).1 (i:Int)).2) (idM b)∧Emb p (ovG b p (gt (ovR b p).1 (i:Int)).1 (gt (ovR b p).1 (i:Int)).2) (ovM b (gt (ovR b p).1 (i:Int)).1 (gt (ovR b p).1 (i:Int)).2):=fun h2 i hi=>by
    have hm1:=gt_mem (l:=(ovR b p).1) (j:=(i:Int)) (by omega) (by omega)
    have hb:¬QaK b p:=fun h=>by unfold ovR at h2;rw[if_pos h] at h2;simp at h2
    have hR:(ovR b p).1=Z1 b p:=by
     unfold ovR at h2 ⊢
     rw[if_neg hb] at h2 ⊢
     split
     ·rename_i h;rw[if_pos h] at h2;simp at h2
     ·rfl
    rw[hR] at hm1 ⊢
    unfold QaK at hb
    exact QeR hm.ok.vb hnm.ok.vb (by omega) (by omega) (mem_lapL.1 hm1)
   have hk6:decide ((5:Int)=5)=true:=rfl
   have A1:(ovR b p).2=0→∀i:Nat,i<(ovR b p).1.length→FC P (F "x") [.lst 1 (QR m.n),.lst 1 (QR (idM b).n),.lst 1 (QR nm.n),.lst 1 (QR (ovM b (gt (ovR b p).1 (i:Int)).1 (gt (ovR b p).1 (i:Int)).2).n)] (.bool (ZM m.n (idM b).n nm.n (ovM b (gt (ovR b p).1 (i:Int)).1 (gt (ovR b p).1 (i:Int)).2).n)) []:=fun h2 i hi=>by
    obtain⟨f1,f2⟩:=HO h2 i hi
    have x1:=hm.ok.ln
    have x2:=hnm.ok.ln
    have x3:=f1.ok.ln
    have x4:=f2.ok.ln
    obtain⟨v1,_⟩:=Q8 hm.ok.va
    exact ha _ _ _ _ (by omega) (by omega) (fun j hj=>⟨by rw[x3];exact (hm.ok.nd j (by omega)).1,by rw[x4];exact (hnm.ok.nd j (by omega)).1⟩)
   have A2:(ovR b p).2=0→∀i:Nat,i<(ovR b p).1.length→FC P (F "x") [.lst 1 (QR m.e),.lst 1 (QR (idM b).e),.lst 1 (QR nm.e),.lst 1 (QR (ovM b (gt (ovR b p).1 (i:Int)).1 (gt (ovR b p).1 (i:Int)).2).e)] (.bool (ZM m.e (idM b).e nm.e (ovM b (gt (ovR b p).1 (i:Int)).1 (gt (ovR b p).1 (i:Int)).2).e)) []:=fun h2 i hi=>by
    obtain⟨f1,f2⟩:=HO h2 i hi
    have x1:=hm.ok.le
    have x2:=hnm.ok.le
    have x3:=f1.ok.le
    have x4:=f2.ok.le
    obtain⟨_,v1,_⟩:=Q8 hm.ok.va
    exact ha _ _ _ _ (by omega) (by omega) (fun j hj=>⟨by rw[x3];exact (hm.ok.ed j (by omega)).1,by rw[x4];exact (hnm.ok.ed j (by omega)).1⟩)
   have R:(ovR b p).2=0→∀i:Nat,i<(ovR b p).1.length→FC P (F "r") [.box [.int .i64 ((V i).2.1+1),.int .i64 (V i).2.2],gD (ovG b p (gt (ovR b p).1 (i:Int)).1 (gt (ovR b p).1 (i:Int)).2),mD (ovM b (gt (ovR b p).1 (i:Int)).1 (gt (ovR b p).1 (i:Int)).2),cnD d]
     (kD (sfM d (ovG b p (gt (ovR b p).1 (i:Int)).1 (gt (ovR b p).1 (i:Int)).2) (ovM b (gt (ovR b p).1 (i:Int)).1 (gt (ovR b p).1 (i:Int)).2) ((V i).2.1+1) (V i).2.2).1)
     [(0,.box [.int .i64 (sfM d (ovG b p (gt (ovR b p).1 (i:Int)).1 (gt (ovR b p).1 (i:Int)).2) (ovM b (gt (ovR b p).1 (i:Int)).1 (gt (ovR b p).1 (i:Int)).2) ((V i).2.1+1) (V i).2.2).2.1,.int .i64 (sfM d (ovG b p (gt (ovR b p).1 (i:Int)).1 (gt (ovR b p).1 (i:Int)).2) (ovM b (gt (ovR b p).1 (i:Int)).1 (gt (ovR b p).1 (i:Int)).2) ((V i).2.1+1) (V i).2.2).2.2])]:=fun h2 i hi=>by
    obtain⟨f1,f2⟩:=HO h2 i hi
    have hb:=ZB i (by omega)
    exact ih _ (by omega) d p _ _ _ _ rfl (by omega) hd f2 (by omega) (by omega)
   generalize hU:(fun i:Nat=>sfM d (ovG b p (gt (ovR b p).1 (i:Int)).1 (gt (ovR b p).1 (i:Int)).2) (ovM b (gt (ovR b p).1 (i:Int)).1 (gt (ovR b p).1 (i:Int)).2) ((V i).2.1+1) (V i).2.2)=U
   have hU':∀i:Nat,sfM d (ovG b p (gt (ovR b p).1 (i:Int)).1 (gt (ovR b p).1 (i:Int)).2) (ovM b (gt (ovR b p).1 (i:Int)).1 (gt (ovR b p).1 (i:Int)).2) ((V i).2.1+1) (V i).2.2=U i:=fun i=>congrFun hU i
   have ZT:∀i:Nat,i<(ovR b p).1.length→ZM m.n (idM b).n nm.n (ovM b (gt (ovR b p).1 (i:Int)).1 (gt (ovR b p).1 (i:Int)).2).n=true→ZM m.e (idM b).e nm.e (ovM b (gt (ovR b p).1 (i:Int)).1 (gt (ovR b p).1 (i:Int)).2).e=true→
     V (i+1)=((V i).1++[exD b (ovG b p (gt (ovR b p).1 (i:Int)).1 (gt (ovR b p).1 (i:Int)).2) (kD (U i).1)],(U i).2):=fun i hi h1 h2=>by
    rw[ZS i hi,sfS,if_pos (show Jf b m nm (gt (ovR b p).1 (i:Int))=true by unfold Jf;exact Bool.and_eq_true_iff.2 ⟨h1,h2⟩),hU']
   have ZF:∀i:Nat,i<(ovR b p).1.length→¬(ZM m.n (idM b).n nm.n (ovM b (gt (ovR b p).1 (i:Int)).1 (gt (ovR b p).1 (i:Int)).2).n=true∧ZM m.e (idM b).e nm.e (ovM b (gt (ovR b p).1 (i:Int)).1 (gt (ovR b p).1 (i:Int)).2).e=true)→
     V (i+1)=V i:=fun i hi h1=>by
    rw[ZS i hi,sfS,if_neg (fun h=>h1 (by unfold Jf at h;exact Bool.and_eq_true_iff.1 h))]
   simp only[hU'] at*
   have ZA:∀i:Nat,i<(ovR b p).1.length→(ZO b p (ovR b p).1)[i]?=_:=fun i hi=>QYW hi
   simp only[ovC] at ZA
   have hz:=Qbe (l:=[d]) (by simp)
   have hg:gt [d] 0=d:=rfl
   rw[hg] at hz
   rw[Q4]
   simp only[Q9,QU,Xn,Xk] at*
   rw[Q4] at R
   have hcd:csz d≤2000:=by omega
   clear hU hU' hV hV' ZS HO ih hd hm hnm hsz hc h1 he e1 hl hl2 ho ha
   generalize hRR:ovR b p=RR at*
   obtain⟨L,er⟩:=RR
   simp only at*
   obtain rfl:=ce
   by_cases c3:er=0
   ·rw[if_neg (fun h=>h c3)] at q
    rw[q,←ZE]
    subst c3
    simp only[gD,mD] at*
    simp(disch:=omega)only[go_sem,g1,d0,hk6]
    refine QT r1 ?_
    simp(disch:=omega)only[go_sem,d0]
    refine Q5 (fun i:Nat=>⟨[(0,.pt 0 0),(6,.pt 1 0),(7,.pt 2 0),(8,.pt 10 0),(9,.pt 18 0),(79,.lst 6 (ZO b p L)),(80,.int .i64 L.length),(81,.int .i64 i)],
     [(0,.box [.int .i64 (V i).2.1,.int .i64 (V i).2.2]),(1,.box [.lst 1 (QR m.n),.lst 1 (QR m.e)]),
     (2,.box [.int .i64 5,.lst 9 (cds [d]),.lst 1 (QR nm.n),.lst 1 (QR nm.e),.lst 1 (QR p.n),.lst 3 (eds p.e),.lst 4 [],.int .i64 0,.lst 5 []]),
     (3,.arr 9 []),(4,.arr 1 []),(5,.arr 1 []),(6,.arr 1 []),(7,.arr 3 []),(8,.arr 4 []),(9,.arr 5 []),
     (10,.box [.int .i64 0,.sl 3 0 0,.sl 4 0 0,.sl 5 0 0,.sl 6 0 0,.sl 7 0 0,.sl 8 0 0,.int .i64 0,.sl 9 0 0]),
     (11,.arr 9 (V i).1),(12,.arr 1 []),(13,.arr 1 []),(14,.arr 1 []),(15,.arr 3 []),(16,.arr 4 []),(17,.arr 5 []),
     (18,.box [.int .i64 4,.sl 11 0 (V i).1.length,.sl 12 0 0,.sl 13 0 0,.sl 14 0 0,.sl 15 0 0,.sl 16 0 0,.int .i64 0,.sl 17 0 0])],19⟩) (fun i=>i≤L.length) (fun i=>L.length-i) 0 ?_ ?_ ?_
    ·simp(disch:=omega)only[go_sem]
     rw[Z0]
     rfl
    ·omega
    ·intro i hi
     by_cases h:i<L.length
     ·have g2:decide ((i:Int)<L.length)=true:=Qd (by omega)
      have ra:=A1 trivial i h
      have rb:=A2 trivial i h
      have rr:=R trivial i h
      simp only[kD] at rr
      have za:=ZA i h
      have zt:=ZT i h
      have zf:=ZF i h
      have zb:=ZB i (by omega)
      have zl:=ZL i (by omega)
      cases h1:ZM m.n (idM b).n nm.n (ovM b (gt L (i:Int)).1 (gt L (i:Int)).2).n
      ·rw[h1] at ra zf
       simp(disch:=omega)only[go_sem,Qc5,g2,za]
       refine QT ra ?_
       simp(disch:=omega)only[go_sem]
       exact⟨i+1,by simp [zf],by omega,by omega⟩
      ·cases h2:ZM m.e (idM b).e nm.e (ovM b (gt L (i:Int)).1 (gt L (i:Int)).2).e
       ·rw[h1] at ra
        rw[h2] at rb zf
        simp(disch:=omega)only[go_sem,Qc5,g2,za]
        refine QT ra ?_
        simp(disch:=omega)only[go_sem]
        refine QT rb ?_
        simp(disch:=omega)only[go_sem]
        exact⟨i+1,by simp [zf],by omega,by omega⟩
       ·rw[h1] at ra
        rw[h2] at rb
        have zt:=zt h1 h2
        simp(disch:=omega)only[go_sem,Qc5,g2,za]
        refine QT ra ?_
        simp(disch:=omega)only[go_sem]
        refine QT rb ?_
        simp(disch:=omega)only[go_sem,hz]
        refine QT rr ?_
        simp(disch:=omega)only[go_sem]
        exact⟨i+1,by simp [zt,exD,kD],by omega,by omega⟩
     ·obtain rfl:i=L.length:=by omega
      have g2:decide ((L.length:Int)<L.length)=false:=Qc (by omega)
      simp(disch:=omega)only[go_sem,Qc5,g2]
      rfl
   ·rw[if_pos c3] at q
    rw[q]
    have g2:decide (er=0)=false:=Qc c3
    simp only[gD,mD] at*
    simp(disch:=omega)only[go_sem,g1,d0,hk6]
    refine QT r1 ?_
    simp(disch:=omega)only[go_sem,g2]
    rfl
  ·have q:sfM c b m z e=((Q9 c,(Xo (QU c) b m (z+1) 0).1),(Xo (QU c) b m (z+1) 0).2):=by
    rw[QZf hk5,if_neg c1]
   rw[q]
   rw[Q4]
   have S0:Xo ((QU c).take 0) b m (z+1) 0=([],z+1,0):=rfl
   have SE:Xo ((QU c).take (QU c).length) b m (z+1) 0=Xo (QU c) b m (z+1) 0:=by rw[List.take_length]
   have SL:∀i:Nat,i≤(QU c).length→(Xo ((QU c).take i) b m (z+1) 0).1.length=i:=fun i hi=>by rw[QJP,Qj];omega
   have SB:∀i:Nat,i≤(QU c).length→0≤(Xo ((QU c).take i) b m (z+1) 0).2.1∧(Xo ((QU c).take i) b m (z+1) 0).2.1≤2000+4001*(Xu ((QU c).take i):Int):=fun i hi=>by
    obtain⟨x1,x2,x3⟩:=Qff ((QU c).take i) b m (z+1) 0 (by omega) (fun _=>by omega)
    exact⟨by omega,by omega⟩
   have SS:=fun i (hi:i<(QU c).length)=>QZg b m (QU c) (z+1) 0 hi
   have hkid:∀i:Nat,i<(QU c).length→Q3 a (gt (QU c) (i:Int)):=fun i hi=>by
    have hm:=gt_mem (l:=QU c) (j:=(i:Int)) (by omega) (by omega)
    cases c
    case tt=>simp [QU] at hi
    case no c=>
     have hm':gt (QU (.no c)) (i:Int)=c:=by simpa only[QU,Qn] using hm
     rw[hm']
     simpa only[Q3] using hov
    case an l=>
     simp only[Q3,Ju,QU] at hov hm
     exact hov.2 _ hm
    case or l=>
     simp only[Q3,Ju,QU] at hov hm
     exact hov.2 _ hm
    case ex=>simp [Q9] at hk5
   have R:∀i:Nat,i<(QU c).length→FC P (F "r") [.box [.int .i64 (Xo ((QU c).take i) b m (z+1) 0).2.1,.int .i64 (Xo ((QU c).take i) b m (z+1) 0).2.2],gD b,mD m,cnD (gt (QU c) (i:Int))]
     (kD (sfM (gt (QU c) (i:Int)) b m (Xo ((QU c).take i) b m (z+1) 0).2.1 (Xo ((QU c).take i) b m (z+1) 0).2.2).1) [(0,.box [.int .i64 (Xo ((QU c).take (i+1)) b m (z+1) 0).2.1,.int .i64 (Xo ((QU c).take (i+1)) b m (z+1) 0).2.2])]:=fun i hi=>by
    rw[SS i hi]
    have hz:=J5 hi
    have h2:=Qk9 hi
    have h3:=Qla (QU c) (i+1)
    have hb:=SB i (by omega)
    exact ih _ (by omega) _ a b m _ _ rfl (by omega) (hkid i hi) hm (by omega) (by omega)
   have SS1:∀i:Nat,i<(QU c).length→(Xo ((QU c).take (i+1)) b m (z+1) 0).1=(Xo ((QU c).take i) b m (z+1) 0).1++[.agg [.int .i64 (sfM (gt (QU c) (i:Int)) b m (Xo ((QU c).take i) b m (z+1) 0).2.1 (Xo ((QU c).take i) b m (z+1) 0).2.2).1.1,.lst 9 (sfM (gt (QU c) (i:Int)) b m (Xo ((QU c).take i) b m (z+1) 0).2.1 (Xo ((QU c).take i) b m (z+1) 0).2.2).1.2,.lst 1 [],.lst 1 [],.lst 1 [],.lst 3 [],.lst 4 [],.int .i64 0,.lst 5 []]]:=fun i hi=>by rw[SS i hi];rfl
   try simp only[kD] at R
   have hk6:decide (Q9 c=5)=false:=Qc hk5
   generalize hX:Xo (QU c) b m (z+1) 0=X at*
   generalize hV:(fun i:Nat=>Xo ((QU c).take i) b m (z+1) 0)=V
   have hV':∀i:Nat,Xo ((QU c).take i) b m (z+1) 0=V i:=fun i=>congrFun hV i
   simp only[hV'] at*
   generalize hU:(fun i:Nat=>sfM (gt (QU c) (i:Int)) b m (V i).2.1 (V i).2.2)=U
   have hU':∀i:Nat,sfM (gt (QU c) (i:Int)) b m (V i).2.1 (V i).2.2=U i:=fun i=>congrFun hU i
   simp only[hU'] at*
   clear ih q hc e1 hV hV' SS hkid hov hU hU' hl hm he hX
   generalize Q9 c=k at*
   generalize (Xn c).n=mn at*
   generalize (Xn c).e=me at*
   generalize (Xk c).n=pn at*
   generalize (Xk c).e=pe at*
   generalize QU c=l at*
   obtain⟨bn,be⟩:=b
   obtain⟨mmn,mme⟩:=m
   obtain rfl:=ce
   simp only[gD,mD] at*
   simp(disch:=omega)only[go_sem,g1,d0,hk6]
   refine Q5 (fun i:Nat=>⟨[(0,.pt 0 0),(5,.pt 1 0),(6,.pt 2 0),(8,.pt 10 0),(9,.pt 18 0),(45,.lst 9 (cds l)),(46,.int .i64 l.length),(47,.int .i64 i)],
    [(0,.box [.int .i64 (V i).2.1,.int .i64 (V i).2.2]),(1,.box [.lst 1 (QR bn),.lst 3 (eds be)]),(2,.box [.lst 1 (QR mmn),.lst 1 (QR mme)]),
    (3,.arr 9 []),(4,.arr 1 []),(5,.arr 1 []),(6,.arr 1 []),(7,.arr 3 []),(8,.arr 4 []),(9,.arr 5 []),
    (10,.box [.int .i64 0,.sl 3 0 0,.sl 4 0 0,.sl 5 0 0,.sl 6 0 0,.sl 7 0 0,.sl 8 0 0,.int .i64 0,.sl 9 0 0]),
    (11,.arr 9 (V i).1),(12,.arr 1 []),(13,.arr 1 []),(14,.arr 1 []),(15,.arr 3 []),(16,.arr 4 []),(17,.arr 5 []),
    (18,.box [.int .i64 k,.sl 11 0 i,.sl 12 0 0,.sl 13 0 0,.sl 14 0 0,.sl 15 0 0,.sl 16 0 0,.int .i64 0,.sl 17 0 0])],19⟩) (fun i=>i≤l.length) (fun i=>l.length-i) 0 ?_ ?_ ?_
   ·simp(disch:=omega)only[go_sem]
    rw[S0]
    rfl
   ·omega
   ·intro i hi
    have hV:=SL i hi
    by_cases h:i<l.length
    ·have g2:decide ((i:Int)<l.length)=true:=Qd (by omega)
     have r:=R i h
     have s1:=SS1 i h
     rw[Q4] at r
     simp(disch:=omega)only[go_sem,QlQ,g2]
     refine QT r ?_
     simp(disch:=omega)only[go_sem]
     exact⟨i+1,by simp [s1],by omega,by omega⟩
    ·obtain rfl:i=l.length:=by omega
     have g2:decide ((l.length:Int)<l.length)=false:=Qc (by omega)
     subst SE
     simp(disch:=omega)only[go_sem,QlQ,g2]
     rfl
theorem QZi(hs:QlS P F)(c:Cnd)(a b:G)(m:Mo)(hc:csz c≤2000)(hov:Q3 a c)(hm:Emb a b m):
  W P (Qfc F) (DoneZ [.c 6 true 9,.t 7] [] (.tup [if (sfM c b m 0 0).2.2≠0 then kD (0,[]) else kD (sfM c b m 0 0).1,.int .i64 (sfM c b m 0 0).2.2]) []) (init [gD b,mD m,cnD c]):=by
 refine ZH ?_
 have r:=hs _ c a b m 0 0 rfl hc hov hm (by omega) (by omega)
 rw[Q4] at r ⊢
 generalize sfM c b m 0 0=R at*
 obtain⟨⟨k,l⟩,z,e⟩:=R
 by_cases h:e=0
 ·subst h
  have g:decide ((0:Int)=0)=true:=rfl
  rw[if_neg (fun h=>h rfl)]
  simp only[gD,mD,kD] at*
  simp(disch:=omega)only[go_sem]
  refine QT r ?_
  simp(disch:=omega)only[go_sem,g]
  rfl
 ·have g:decide (e=0)=false:=Qc h
  rw[if_pos h]
  simp only[gD,mD,kD] at*
  simp(disch:=omega)only[go_sem]
  refine QT r ?_
  simp(disch:=omega)only[go_sem,g]
  rfl
theorem QZj(hj:Qfa P F)(hv:Qc4 P F)(hs:QlT P F)(c:Cnd)(a b:G)(m:Mo)(hc:csz c≤2000)(hd:cdp c≤3)(hov:Q3 a c)(hm:Emb a b m):
  W P (Qfd F) (DoneZ [.c 8 true 9,.t 9] [] (.tup [if (sfM c b m 0 0).2.2≠0 then kD (0,[]) else kD (sfM c b m 0 0).1,.int .i64 (sfM c b m 0 0).2.2]) []) (init [gD a,gD b,mD m,cnD c]):=by
 refine ZH ?_
 have r1:=hj a b m hm
 have r2:=hv a c (by omega) hm.ok.va hov
 rw[show XV c=0 by unfold XV;rw[if_pos ⟨hc,hd⟩]] at r2
 have r3:=hs c a b m hc hov hm
 rw[Q4] at r2 r3 ⊢
 generalize hR:(if (sfM c b m 0 0).2.2≠0 then kD (0,[]) else kD (sfM c b m 0 0).1)=R at*
 have hR2:∃k l,R=kD (k,l):=by
  rw[←hR]
  split
  ·exact⟨_,_,rfl⟩
  ·exact⟨_,_,rfl⟩
 obtain⟨k,l,rfl⟩:=hR2
 have d0:decide ((0:Int)=0)=true:=rfl
 simp only[gD,mD,kD] at*
 simp(disch:=omega)only[go_sem]
 refine QT r1 ?_
 simp(disch:=omega)only[go_sem,d0]
 refine QT r2 ?_
 simp(disch:=omega)only[go_sem,d0]
 refine QT r3 ?_
 simp(disch:=omega)only[go_sem]
 try rfl
end
theorem Qan(c:Cnd)(k:Int)(l:List Cnd)(h1:Q9 c=k)(h2:QU c=l)(h3:Xn c=m0)(h4:Xk c=g0):kD (k,cds l)=cnD c:=by
 rw[Q4,h1,h2,h3,h4]
 rfl
theorem QZk(b g:G)(d:Cnd):exD b g (cnD d)=cnD (.ex (idM b) g d):=by
 rw[Q4 (.ex (idM b) g d)]
 rfl
structure SfOk(c:Cnd)(b:G)(m:Mo)(z:Int)(r:Kd×Int×Int):Prop where
 eq:kD r.1=cnD (shf c b m)
 sz:ZN c b m
 cnt:r.2.1=z+csz (shf c b m)
structure SfLOk(l:List Cnd)(b:G)(m:Mo)(z:Int)(r:List D×Int×Int):Prop where
 eq:r.1=cds (YL l b m)
 sz:QaI l b m
 cnt:r.2.1=z+Xu (YL l b m)
theorem Qb6{c:Cnd}{b:G}{m:Mo}{z e:Int}(h:(sfM c b m z e).2.2=0):erS z e=0:=by
 by_cases h1:erS z e=0
 ·exact h1
 ·rw[QJM _ _ _ _ _ h1] at h
  exact absurd h h1
theorem QJQ{c:Cnd}{b p:G}{m n:Mo}(hc:∀b m z e,(sfM c b m z e).2.2=0→SfOk c b m z (sfM c b m z e)):∀(l:List Ov)(s:List D×Int×Int),(l.foldl (sfS c b p m n) s).2.2=0→
  s.2.2=0∧(l.foldl (sfS c b p m n) s).1=s.1++cds ((l.filter (Jf b m n)).map fun o=>.ex (idM b) (ovG b p o.1 o.2) (shf c (ovG b p o.1 o.2) (ovM b o.1 o.2)))∧(∀o∈l.filter (Jf b m n),ZN c (ovG b p o.1 o.2) (ovM b o.1 o.2))∧
   (l.foldl (sfS c b p m n) s).2.1=s.2.1+Xu ((l.filter (Jf b m n)).map fun o=>.ex (idM b) (ovG b p o.1 o.2) (shf c (ovG b p o.1 o.2) (ovM b o.1 o.2)))
 |[],s,h=>by
  simp only[List.foldl_nil] at h ⊢
  exact⟨h,by simp [cds],by simp,by simp [Xu]⟩
 |o::l,s,h=>by
  rw[List.foldl_cons] at h ⊢
  obtain⟨h1,h2,h3,h4⟩:=QJQ (b:=b) (p:=p) (m:=m) (n:=n) hc l (sfS c b p m n s o) h
  rw[h2,h4]
  unfold sfS at h1 ⊢
  by_cases hg:Jf b m n o=true
  ·rw[if_pos hg] at h1 ⊢
   rw[List.filter_cons_of_pos hg]
   simp only at h1 ⊢
   have hz:=Qam (Qb6 h1)
   obtain⟨q1,q2,q3⟩:=hc _ _ _ _ h1
   refine⟨hz.2,?_,fun x hx=>?_,?_⟩
   ·rw[q1,QZk]
    simp [cds]
   ·rcases Qh.1 hx with rfl|hx
    ·exact q2
    ·exact h3 x hx
   ·rw[q3]
    simp only[List.map_cons,Xu,csz]
    omega
  ·rw[if_neg hg] at h1 ⊢
   rw[List.filter_cons_of_neg hg]
   exact⟨h1,rfl,h3,rfl⟩
theorem QZl{b p:G}(h:(ovR b p).2=0):(ovR b p).1=Z1 b p∧b.n.length+p.n.length≤40∧b.e.length+p.e.length≤80:=by
 have hb:¬QaK b p:=fun h'=>by unfold ovR at h;rw[if_pos h'] at h;simp at h
 unfold ovR at h ⊢
 rw[if_neg hb] at h ⊢
 unfold QaK at hb
 refine⟨?_,by omega,by omega⟩
 split
 ·rename_i h';rw[if_pos h'] at h;simp at h
 ·rfl
mutual
theorem Qfg:∀(c:Cnd)(b:G)(m:Mo)(z e:Int),(sfM c b m z e).2.2=0→SfOk c b m z (sfM c b m z e)
 | .tt,b,m,z,e,h=>by
  rw[sfM]
  exact⟨Qan .tt 1 [] rfl rfl rfl rfl,by simp [ZN],by simp [shf,csz]⟩
 | .no c,b,m,z,e,h=>by
  have h0:=Qb6 h
  rw[sfM,if_neg (fun h'=>h' h0)] at h ⊢
  simp only at h
  obtain⟨q1,q2,q3⟩:=Qfg c b m (z+1) 0 h
  refine⟨?_,by simpa only[ZN] using q2,?_⟩
  ·simp only[shf]
   rw[q1,←Qbd]
   exact Qan (.no _) 2 _ rfl rfl rfl rfl
  ·simp only[shf,csz]
   rw[q3]
   omega
 | .an l,b,m,z,e,h=>by
  have h0:=Qb6 h
  rw[sfM,if_neg (fun h'=>h' h0)] at h ⊢
  simp only at h
  obtain⟨_,q1,q2,q3⟩:=QlW l b m (z+1) 0 h
  refine⟨?_,by simpa only[ZN] using q2,?_⟩
  ·simp only[shf]
   rw[q1]
   exact Qan (.an _) 3 _ rfl rfl rfl rfl
  ·simp only[shf,csz]
   rw[q3]
   omega
 | .or l,b,m,z,e,h=>by
  have h0:=Qb6 h
  rw[sfM,if_neg (fun h'=>h' h0)] at h ⊢
  simp only at h
  obtain⟨_,q1,q2,q3⟩:=QlW l b m (z+1) 0 h
  refine⟨?_,by simpa only[ZN] using q2,?_⟩
  ·simp only[shf]
   rw[q1]
   exact Qan (.or _) 4 _ rfl rfl rfl rfl
  ·simp only[shf,csz]
   rw[q3]
   omega
 | .ex n p c,b,m,z,e,h=>by
  have h0:=Qb6 h
  rw[Qfe,if_neg (fun h'=>h' h0)] at h ⊢
  by_cases h2:(ovR b p).2=0
  ·rw[if_neg (fun h'=>h' h2)] at h ⊢
   obtain⟨_,q1,q2,q3⟩:=QJQ (b:=b) (p:=p) (m:=m) (n:=n) (c:=c) (fun b m z e h=>Qfg c b m z e h) (ovR b p).1 ([],z+1,0) h
   obtain⟨r1,r2,r3⟩:=QZl h2
   rw[r1] at q1 q2 q3 ⊢
   refine⟨?_,by simp only[ZN];exact⟨⟨r2,r3⟩,q2⟩,?_⟩
   ·simp only[shf]
    rw[q1,List.nil_append]
    exact Qan (.or _) 4 _ rfl rfl rfl rfl
   ·simp only[shf,csz]
    rw[q3]
    simp only[ovA]
    omega
  ·rw[if_pos h2] at h
   exact absurd h h2
theorem QlW:∀(l:List Cnd)(b:G)(m:Mo)(z e:Int),(Xo l b m z e).2.2=0→e=0∧SfLOk l b m z (Xo l b m z e)
 |[],b,m,z,e,h=>by
  simp only[Xo] at h ⊢
  exact⟨h,⟨by simp [YL,cds],by simp [QaI],by simp [YL,Xu]⟩⟩
 |c::l,b,m,z,e,h=>by
  simp only[Xo] at h ⊢
  obtain⟨h1,h2,h3,h4⟩:=QlW l b m _ _ h
  have hz:=Qam (Qb6 h1)
  obtain⟨q1,q2,q3⟩:=Qfg c b m z e h1
  refine⟨hz.2,⟨?_,by simp only[QaI];exact⟨q2,h3⟩,?_⟩⟩
  ·rw[q1,h2]
   simp [YL,cds]
  ·simp only
   rw[h4,q3]
   simp only[YL,Xu]
   omega
end
def JK(e:Int):Prop:=e=0∨e=3
theorem Qc7(z e:Int)(h:JK e):JK (erS z e):=by
 unfold erS
 split
 ·exact .inr rfl
 ·exact h
theorem QZm(b p:G):JK (ovR b p).2:=by
 unfold ovR
 split
 ·exact .inr rfl
 ·split
  ·exact .inr rfl
  ·exact .inl rfl
theorem QJR{c:Cnd}{b p:G}{m n:Mo}(hc:∀b m z e,JK e→JK (sfM c b m z e).2.2):∀(l:List Ov)(s:List D×Int×Int),JK s.2.2→JK (l.foldl (sfS c b p m n) s).2.2
 |[],s,h=>h
 |o::l,s,h=>by
  rw[List.foldl_cons]
  refine QJR (b:=b) (p:=p) (m:=m) (n:=n) hc l _ ?_
  unfold sfS
  split
  ·exact hc _ _ _ _ h
  ·exact h
mutual
theorem Qfh:∀(c:Cnd)(b:G)(m:Mo)(z e:Int),JK e→JK (sfM c b m z e).2.2
 | .tt,b,m,z,e,h=>by rw[sfM];exact Qc7 _ _ h
 | .no c,b,m,z,e,h=>by
  rw[sfM]
  split
  ·exact Qc7 _ _ h
  ·exact Qfh c b m _ _ (.inl rfl)
 | .an l,b,m,z,e,h=>by
  rw[sfM]
  split
  ·exact Qc7 _ _ h
  ·exact QlX l b m _ _ (.inl rfl)
 | .or l,b,m,z,e,h=>by
  rw[sfM]
  split
  ·exact Qc7 _ _ h
  ·exact QlX l b m _ _ (.inl rfl)
 | .ex n p c,b,m,z,e,h=>by
  rw[Qfe]
  split
  ·exact Qc7 _ _ h
  ·split
   ·exact QZm b p
   ·exact QJR (fun b m z e h=>Qfh c b m z e h) _ _ (.inl rfl)
theorem QlX:∀(l:List Cnd)(b:G)(m:Mo)(z e:Int),JK e→JK (Xo l b m z e).2.2
 |[],b,m,z,e,h=>h
 |c::l,b,m,z,e,h=>by
  simp only[Xo]
  exact QlX l b m _ _ (Qfh c b m z e h)
end
theorem QJS{a b:G}{m:Mo}{c:Cnd}(ho:Q3 a c)(hm:Emb a b m):(sfM c b m 0 0).2.2=3∨((sfM c b m 0 0).2.2=0∧kD (sfM c b m 0 0).1=cnD (shf c b m)∧csz (shf c b m)≤2000∧Q3 b (shf c b m)∧∀x h,Emb b x h→(XK x (shf c b m) h↔XK x c (QY m h))):=by
 rcases Qfh c b m 0 0 (.inl rfl) with h|h
 ·obtain⟨q1,q2,q3⟩:=Qfg c b m 0 0 h
  have hb:=(Qc6 c b m 0 0 (by omega)).ok h
  obtain⟨s1,s2⟩:=Qb5 c ho hm q2
  exact .inr ⟨h,q1,by omega,s1,s2⟩
 ·exact .inl h
def QJT:LL:=[qQp 4 (.mov (.k (.int .u64 (0)))),qQp 5 (.mov (.k (.int .u64 (0))))]
def QJU:LL:=[qm 14 0,qQp 15 (.bin .and (.t 14) (.k (.int .u64 (4294967295)))),qm 6 15]
def QJV:LL:=[qm 16 0,qQp 17 (.bin .shr (.t 16) (.k (.int .u64 (32)))),qm 7 17]
def QJW:LL:=[qm 18 1,qQp 19 (.bin .and (.t 18) (.k (.int .u64 (4294967295)))),qm 8 19]
def QJX:LL:=[qm 20 1,qQp 21 (.bin .shr (.t 20) (.k (.int .u64 (32)))),qm 9 21]
def QJY:LL:=[qm 22 6,qm 23 8,qo .mul 24 22 23,qm 10 24]
def QJZ:LL:=[qm 25 7,qm 26 8,qo .mul 27 25 26,qm 28 10,qQp 29 (.bin .shr (.t 28) (.k (.int .u64 (32)))),qo .add 30 27 29,qm 11 30]
def QJ0:LL:=[qm 31 11,qQp 32 (.bin .and (.t 31) (.k (.int .u64 (4294967295)))),qm 12 32]
def QJ1:LL:=[qm 33 11,qQp 34 (.bin .shr (.t 33) (.k (.int .u64 (32)))),qm 13 34]
def QJ2:LL:=[qm 35 12,qm 36 6,qm 37 9,qo .mul 38 36 37,qo .add 39 35 38,qm 12 39]
def QJ3:LL:=[qm 40 7,qm 41 9,qo .mul 42 40 41,qm 43 13,qo .add 44 42 43,qm 45 12,qQp 46 (.bin .shr (.t 45) (.k (.int .u64 (32)))),qo .add 47 44 46,qm 4 47]
def QJ4:LL:=[qm 48 0,qm 49 1,qo .mul 50 48 49,qm 5 50]
def QlY(F:Fn):LC:=QQ [.reg QJT [0,1],.reg QJU [0,1,6],.reg QJV [0,1,6,7],.reg QJW [0,1,6,7,8],.reg QJX [0,1,6,7,8,9],.reg QJY [0,1,6,7,8,9,10],.reg QJZ [0,1,6,7,9,11],.reg QJ0 [0,1,6,7,9,11,12],.reg QJ1 [0,1,6,7,9,12,13],.reg QJ2 [0,1,7,9,12,13],.reg QJ3 [0,1,4],.reg QJ4 [4,5],.ret]
def QJ5:LL:=[qQp 4 (.mov (.k (.int .u64 (0)))),qQp 5 (.mov (.k (.int .u64 (0))))]
def QJ6(F:Fn):LL:=[qm 11 0,qQp 12 (.conv .u32 (.t 11)),qm 13 1,qQp 14 (.conv .u32 (.t 13)),qc 15 (F "cf") [.t 12,.t 14],qm 10 15,qx 16 10 0,qx 17 10 1,qm 6 16,qm 7 17]
def QJ7:LL:=[qm 18 6,qQp 19 (.conv .u64 (.t 18)),qm 20 7,qQp 21 (.conv .u64 (.t 20)),qm 4 19,qm 5 21]
def QJ8(F:Fn):LL:=[qm 23 0,qm 24 1,qc 25 (F "bM") [.t 23,.t 24],qm 22 25,qx 26 22 0,qx 27 22 1,qm 8 26,qm 9 27]
def QJ9:LL:=[qm 28 8,qm 29 9,qm 4 28,qm 5 29]
def QlZ(F:Fn):LC:=QQ [.reg QJ5 [0,1],.cond (.k (.bool false)) (QQ [.reg (QJ6 F) [6,7],.reg QJ7 [4,5],.ret]) .skip,.reg (QJ8 F) [8,9],.reg QJ9 [4,5],.ret]
def QKa:LL:=[qn 4 1]
def QKb:LL:=[qm 9 1,qk .lss 10 9 0]
def QKc:LL:=[qQp 11 (.bad),qQn (.bad)]
def QKd(F:Fn):LL:=[qm 13 0,qz 14 13,qQp 15 (.conv .u64 (.t 14)),qm 16 1,qQp 17 (.conv .u64 (.t 16)),qc 18 (F "bK") [.t 15,.t 17],qm 12 18,qx 19 12 0,qx 20 12 1,qm 5 19,qm 6 20]
def QKe:LL:=[qm 21 5,qQp 22 (.bin .gtr (.t 21) (.k (.int .u64 (0)))),qm 23 22,qg 23 false (qm 24 6),⟨some 25,.bin .gtr (.t 24) (.k (.int .u64 (9223372036854775807))),some (23,false)⟩,
 qQ 26 23 25]
def QKf:LL:=[qQp 27 (.bad),qQn (.bad)]
def QKg:LL:=[qm 28 6,qQp 29 (.conv .i64 (.t 28)),qQp 30 (.makeSl 1 8 (.int .i64 (0)) (.t 29)),qm 7 30]
def QKh:LL:=[qm 31 7,qm 32 0,qQp 33 (.cpy 1 (.t 31) (.t 32)),qm 8 33]
def QKi:LL:=[qm 34 8,qm 35 7,qz 36 35,qo .lss 37 34 36]
def QKj:LL:=[qm 38 8,qm 39 7,qm 40 8,qQp 41 (.slc 1 (.t 39) (some (.t 40)) none),qm 42 7,qm 43 8,qQp 44 (.slc 1 (.t 42) none (some (.t 43))),
 qQp 45 (.cpy 1 (.t 41) (.t 44)),qo .add 46 38 45,qm 8 46]
def Ql0:LC:=QQ [QQ [.reg QKi [7,8,37],.cond (.t 37) .skip (.exit 0)],.block 1 (.dreg [] QKj [7,8])]
def QKk:LL:=[qm 47 7,qm 4 47]
def Ql1(F:Fn):LC:=QQ [.reg QKa [0,1],QQ [.reg QKb [0,1,10],.cond (.t 10) (.reg QKc [0,1]) .skip],.reg (QKd F) [0,5,6],QQ [.reg QKe [0,6,26],.cond (.t 26) (.reg QKf [0,6]) .skip],.reg QKg [0,7],.reg QKh [7,8],.block 0 (.loop [7,8] Ql0),.reg QKk [4],.ret]
def QKl:LL:=[qn 6 1]
def QKm(F:Fn):LL:=[qQp 10 (.buildSl 1 8 (.int .i64 (0)) 1 [(0,.k (.int .i64 (-1)))]),qm 11 0,qc 12 (F "bO") [.t 10,.t 11],qm 7 12]
def QKn:LL:=[qm 13 1,qz 14 13,qi 15 0]
def QKo:LL:=[qo .lss 16 15 14]
def QKp:LL:=[qm 17 15,qd 18 1 13 15,ql 19 1 18,qm 8 17,qm 9 19]
def QKq:LL:=[qm 20 7,qm 21 9,qm 22 2,qm 23 8,qd 24 1 22 23,ql 25 1 24,qd 26 1 20 21,qs 1 26 25]
def QKr:LL:=[qk .add 27 15 1,qm 15 27]
def Ql2:LC:=QQ [.reg QKo [2,7,13,14,15,16],.cond (.t 16) .skip (.exit 0),.block 1 (QQ [.reg QKp [2,7,8,9,13,14,15],.reg QKq [2,7,13,14,15]]),.reg QKr [2,7,13,14,15]]
def QKs:LL:=[qm 28 7,qm 6 28]
def Ql3(F:Fn):LC:=QQ [.reg QKl [0,1,2],.reg (QKm F) [1,2,7],QQ [.reg QKn [2,7,13,14,15],.block 0 (.loop [2,7,13,14,15] Ql2)],.reg QKs [6],.ret]
def Yv(n:Nat)(q m:List Int):List Int:=XR m q (List.replicate n (-1)) q.length
attribute [go_sem] QJT QJU QJV QJW QJX QJY QJZ QJ0 QJ1 QJ2 QJ3 QJ4 QlY QJ5 QJ6 QJ7 QJ8 QJ9 QlZ QKa QKb QKc QKd QKe QKf QKg QKh QKi QKj QKk Ql1 QKl QKm QKn QKo QKp QKq QKr QKs Ql3
section
variable (P:Program) (F:String→Nat)
def Ql4:Prop:=∀n:Int,0≤n→n≤1000000→FC P (F "bM") [.int .u64 1,.int .u64 n] (.tup [.int .u64 0,.int .u64 n]) []
def Ql5:Prop:=∀n:Int,0≤n→n≤1000000→FC P (F "bK") [.int .u64 1,.int .u64 n] (.tup [.int .u64 0,.int .u64 n]) []
def Ql6:Prop:=∀(n:Nat)(q m:List Int),n≤1000→q.length≤1000→q.length≤m.length→(∀i:Nat,i<q.length→0≤gt q (i:Int)∧gt q (i:Int)<n)→
 FC P (F "aN") [.int .i64 n,.lst 1 (QR q),.lst 1 (QR m)] (.arr 1 (QR (Yv n q m))) []
def Ql7:Prop:=∀(v:Int)(n:Nat),n≤1000000→FC P (F "bO") [.lst 1 (QR [v]),.int .i64 n] (.arr 1 (QR (List.replicate n v))) []
end
section
variable {P:Program} {F:String→Nat} {α:Type}
theorem Qfi{n:Int}(h0:0≤n)(h1:n≤1000000):IntKind.u64.wrap n=n:=by
 have:IntKind.u64.wrap n=n%18446744073709551616:=rfl
 omega
theorem QZn{n:Int}(h0:0≤n)(h1:n≤1000000):IntKind.u64.wrap ((BitVec.ofInt 64 n&&&BitVec.ofInt 64 4294967295).toNat:Int)=n:=by
 obtain⟨k,rfl⟩:=Qz h0
 have:(BitVec.ofInt 64 (k:Int)&&&BitVec.ofInt 64 4294967295).toNat=k:=by
  rw[BitVec.ofInt_natCast,BitVec.toNat_and,BitVec.toNat_ofNat]
  have e:(BitVec.ofInt 64 4294967295).toNat=2 ^ 32-1:=rfl
  rw[e,Nat.and_two_pow_sub_one_eq_mod]
  omega
 rw[this]
 exact Qfi h0 h1
theorem QKt{n:Int}(h0:0≤n)(h1:n≤1000000):Int.fdiv n (2 ^ min 32 64)=0:=by
 rw[Int.fdiv_eq_ediv_of_nonneg _ (by decide)]
 have:(2:Int) ^ min 32 64=4294967296:=by decide
 rw[this]
 omega
theorem QZo{n:Int}(h0:0≤n)(h1:n≤1000000):IntKind.u64.wrap (IntKind.u64.wrap (0+(IntKind.u64.wrap (IntKind.u64.wrap (0*IntKind.u64.wrap ((BitVec.ofInt 64 n&&&BitVec.ofInt 64 4294967295).toNat:Int))+(IntKind.u64.wrap (IntKind.u64.wrap ((BitVec.ofInt 64 1&&&BitVec.ofInt 64 4294967295).toNat:Int)*IntKind.u64.wrap ((BitVec.ofInt 64 n&&&BitVec.ofInt 64 4294967295).toNat:Int))).fdiv (2 ^ min 32 64))).fdiv (2 ^ min 32 64))+(IntKind.u64.wrap (IntKind.u64.wrap ((BitVec.ofInt 64 (IntKind.u64.wrap (IntKind.u64.wrap (0*IntKind.u64.wrap ((BitVec.ofInt 64 n&&&BitVec.ofInt 64 4294967295).toNat:Int))+(IntKind.u64.wrap (IntKind.u64.wrap ((BitVec.ofInt 64 1&&&BitVec.ofInt 64 4294967295).toNat:Int)*IntKind.u64.wrap ((BitVec.ofInt 64 n&&&BitVec.ofInt 64 4294967295).toNat:Int))).fdiv (2 ^ min 32 64)))&&&BitVec.ofInt 64 4294967295).toNat:Int)+IntKind.u64.wrap (IntKind.u64.wrap ((BitVec.ofInt 64 1&&&BitVec.ofInt 64 4294967295).toNat:Int)*0))).fdiv (2 ^ min 32 64))=0:=by
 have a1:IntKind.u64.wrap ((BitVec.ofInt 64 1&&&BitVec.ofInt 64 4294967295).toNat:Int)=1:=by decide
 have a4:Int.fdiv n (2 ^ min 32 64)=0:=QKt h0 h1
 have a5:IntKind.u64.wrap (1*n)=n:=by rw[Int.one_mul];exact Qfi h0 h1
 have a6:IntKind.u64.wrap (0*n)=0:=by rw[Int.zero_mul];rfl
 rw[QZn h0 h1,a1,a5,a6,a4]
 decide
theorem QZp(n:Int)(h0:0≤n)(h1:n≤1000000):W P (QlY F) (Done [.t 4,.t 5] [] (.tup [.int .u64 0,.int .u64 n]) []) (init [.int .u64 1,.int .u64 n]):=by
 refine QZ ?_
 have h32:((32:Int)<0)=False:=by simp
 have a2:Int.fdiv 1 (2 ^ min 32 64)=0:=by decide
 have a4:Int.fdiv n (2 ^ min 32 64)=0:=QKt h0 h1
 have a5:IntKind.u64.wrap (1*n)=n:=by rw[Int.one_mul];exact Qfi h0 h1
 have b2:IntKind.u64.wrap (0*0)=0:=rfl
 simp(disch:=omega)only[go_sem,h32,a2,a4,a5,b2]
 exact congrArg (fun x=>some (D.tup [.int .u64 x,.int .u64 n],([]:List (Nat×D)))) (QZo h0 h1)
theorem QZq(hm:Ql4 P F)(n:Int)(h0:0≤n)(h1:n≤1000000):W P (QlZ F) (Done [.t 4,.t 5] [] (.tup [.int .u64 0,.int .u64 n]) []) (init [.int .u64 1,.int .u64 n]):=by
 refine QZ ?_
 have r:=hm n h0 h1
 simp(disch:=omega)only[go_sem]
 refine QT r ?_
 simp(disch:=omega)only[go_sem]
def rpK(v:Int)(n k:Nat):List D:=QR (List.replicate k v++List.replicate (n-k) 0)
theorem QZr{v:Int}{n k:Nat}(h:k≤n):(rpK v n k).length=n:=by simp [rpK,QR];omega
theorem QZs{v:Int}{n k:Nat}:(rpK v n k).take k=QR (List.replicate k v):=by
 simp [rpK,QR]
theorem QZt(v:Int)(n:Nat):List.take (min 1 n) [v]++List.drop (List.take (min 1 n) [v]).length (List.replicate n (0:Int))=List.replicate (min 1 n) v++List.replicate (n-min 1 n) 0:=by
 cases n with
 |zero=>rfl
 |succ n=>
  have:min 1 (n+1)=1:=by omega
  rw[this]
  simp
theorem QZu{v:Int}{n:Nat}:rpK v n n=QR (List.replicate n v):=by simp [rpK]
theorem QZv{v:Int}{n k:Nat}(h:k<n):(rpK v n k).take k++(QR (List.replicate (min k (n-k)) v)++(rpK v n k).drop (k+min k (n-k)))=rpK v n (k+min k (n-k)):=by
 apply List.ext_getElem?
 intro i
 simp only[rpK,QR,List.map_append,List.map_replicate,List.take_append,List.drop_append,List.take_replicate,List.drop_replicate,List.length_replicate,List.getElem?_append,List.getElem?_replicate,Ql]
 repeat' split
 all_goals first|rfl|omega
theorem QZw(hm:Ql5 P F)(v:Int)(n:Nat)(hn:n≤1000000):W P (Ql1 F) (Done [.t 4] [] (.arr 1 (QR (List.replicate n v))) []) (init [.lst 1 (QR [v]),.int .i64 n]):=by
 refine QZ ?_
 have r:=hm n (by omega) (by omega)
 have c1:IntKind.u64.wrap 1=1:=rfl
 have c2:IntKind.u64.wrap (n:Int)=n:=Qfi (by omega) (by omega)
 have g0:decide ((n:Int)<0)=false:=Qc (by omega)
 have g1:decide ((0:Int)<0)=false:=rfl
 have g2:decide ((9223372036854775807:Int)<n)=false:=Qc (by omega)
 simp(disch:=omega)only[go_sem,g0,c1,c2]
 refine QT r ?_
 simp(disch:=omega)only[go_sem,g1,g2]
 refine Q5 (fun k:Nat=>⟨[(7,.sl 0 0 n),(8,.int .i64 k)],[(0,.arr 1 (rpK v n k))],1⟩) (fun k=>k≤n∧(k=0→n=0)) (fun k=>n-k) (min 1 n) ?_ ?_ ?_
 ·simp(disch:=omega)only[go_sem]
  rw[QZt]
  rfl
 ·omega
 ·rintro k ⟨hk,h0⟩
  by_cases h:k<n
  ·have g3:decide ((k:Int)<n)=true:=Qd (by omega)
   have e1:=QZr (v:=v) hk
   have e0:k-0=k:=Nat.sub_zero k
   have e2:(k=n)=False:=eq_false (by omega)
   have e3:(List.take k (rpK v n k)).length=k:=by rw[Qj,e1];omega
   have e4:List.take (min k (n-k)) (List.take k (rpK v n k))=QR (List.replicate (min k (n-k)) v):=by
    rw[QZs]
    simp only[QR,List.map_replicate,List.take_replicate]
    rw[show min (min k (n-k)) k=min k (n-k) by omega]
   have e5:(List.replicate (min k (n-k)) v).length=min k (n-k):=List.length_replicate
   have e6:=QZv (v:=v) h
   have e7:(List.take k (rpK v n k)++QR (List.replicate (min k (n-k)) v)++List.drop (k+min k (n-k)) (rpK v n k))=rpK v n (k+min k (n-k)):=by rw[QC];exact e6
   simp(disch:=omega)only[go_sem,Ql0,g3,e0,e1,e2,e3,e4,e5,e7]
   exact⟨k+min k (n-k),by simp,by omega,by omega⟩
  ·obtain rfl:k=n:=by omega
   have g3:decide ((k:Int)<k)=false:=Qc (by omega)
   simp(disch:=omega)only[go_sem,Ql0,g3,QZu]
theorem QZx(hr:Ql7 P F)(n:Nat)(q m:List Int)(hn:n≤1000)(hq:q.length≤1000)(hm:q.length≤m.length)(hb:∀i:Nat,i<q.length→0≤gt q (i:Int)∧gt q (i:Int)<n):
  W P (Ql3 F) (Done [.t 6] [] (.arr 1 (QR (Yv n q m))) []) (init [.int .i64 n,.lst 1 (QR q),.lst 1 (QR m)]):=by
 refine QZ ?_
 have r:=hr (-1) n (by omega)
 have e0:XR m q (List.replicate n (-1)) 0=List.replicate n (-1):=rfl
 have eS:∀i,XR m q (List.replicate n (-1)) (i+1)=(XR m q (List.replicate n (-1)) i).set (gt q i).toNat (gt m i):=fun i=>rfl
 have eL:∀i,(XR m q (List.replicate n (-1)) i).length=n:=fun i=>by rw[Z9,List.length_replicate]
 have eE:XR m q (List.replicate n (-1)) q.length=Yv n q m:=rfl
 generalize XR m q (List.replicate n (-1))=V at*
 generalize Yv n q m=R at*
 rw[←e0] at r
 simp(disch:=omega)only[go_sem]
 refine QT r ?_
 simp(disch:=omega)only[go_sem]
 refine Q5 (fun i:Nat=>⟨[(2,.lst 1 (QR m)),(7,.sl 0 0 n),(13,.lst 1 (QR q)),(14,.int .i64 q.length),(15,.int .i64 i)],[(0,.arr 1 (QR (V i)))],1⟩) (fun i=>i≤q.length) (fun i=>q.length-i) 0 ?_ ?_ ?_
 ·simp(disch:=omega)only[go_sem,eL]
  rfl
 ·simp
 ·intro i hi
  have hl:=eL i
  by_cases h:i<q.length
  ·have g1:decide ((i:Int)<q.length)=true:=Qd (by omega)
   obtain⟨q1,q2⟩:=hb i h
   have z1:=YI (l:=q) h
   have z2:=YI (l:=m) (i:=i) (by omega)
   have z3:=Zp (l:=V i) (j:=gt q (i:Int)) q1 (by omega)
   simp(disch:=omega)only[go_sem,Ql2,g1,z1,z2,z3,hl]
   exact⟨i+1,by simp [eS],by omega,by omega⟩
  ·obtain rfl:i=q.length:=by omega
   have g1:decide ((q.length:Int)<q.length)=false:=Qc (by omega)
   simp(disch:=omega)only[go_sem,Ql2,g1,hl]
   rw[eE]
end
def QKu:LL:=[qi 4 0]
def QKv:LL:=[qm 6 0,qz 7 6,qi 8 0]
def QKw:LL:=[qo .lss 9 8 7]
def QKx:LL:=[qm 10 8,qm 5 10]
def QKy:LL:=[qm 11 1,qm 12 0,qm 13 5,qd 14 9 12 13,qL 15 9 14,qQp 16 (.callv (.t 11) [.t 15])]
def QKz:LL:=[qm 17 5,qm 4 17]
def QKA:LL:=[qk .add 18 8 1,qm 8 18]
def Ql8:LC:=QQ [.reg QKw [0,1,7,8,9],.cond (.t 9) .skip (.exit 0),.block 1 (QQ [.reg QKx [0,1,5,7,8],.reg QKy [0,1,5,7,8,16],.cond (.t 16) (QQ [.reg QKz [4],.ret]) .skip]),.reg QKA [0,1,7,8]]
def QKB:LL:=[qi 4 (-1)]
def Ql9(F:Fn):LC:=QQ [.reg QKu [0,1],QQ [.reg QKv [0,1,7,8],.block 0 (.loop [0,1,7,8] Ql8)],.reg QKB [4],.ret]
def QKC:LL:=[qb 4 false]
def QKD(F:Fn):LL:=[qm 5 0,qm 6 1,qc 7 (F "cb") [.t 5,.t 6],qk .geq 8 7 0,qm 4 8]
def Qma(F:Fn):LC:=QQ [.reg QKC [0,1],.reg (QKD F) [4],.ret]
attribute [go_sem] QKu QKv QKw QKx QKy QKz QKA QKB Ql9 QKC QKD Qma
section
variable (P:Program) (F:String→Nat)
def Qmb:Prop:=∀(l:List Cnd),l.length≤QW→∀(g:Nat)(cs:List D),cs.all Yp=true→∀p:Cnd→Bool,(∀x,x∈l→FC P g (cnD x::cs) (.bool (p x)) [])→FC P (F "cb") [.lst 9 (cds l),.clo g cs] (.int .i64 (idx p l 0)) []
def Qmc:Prop:=∀(l:List Cnd),l.length≤QW→∀(g:Nat)(cs:List D),cs.all Yp=true→∀p:Cnd→Bool,(∀x,x∈l→FC P g (cnD x::cs) (.bool (p x)) [])→FC P (F "aO") [.lst 9 (cds l),.clo g cs] (.bool (l.any p)) []
end
section
variable {P:Program} {F:String→Nat} {α:Type}
theorem QZy(l:List Cnd)(hl:l.length≤QW)(g:Nat)(cs:List D)(hcs:cs.all Yp=true)(p:Cnd→Bool)(hg:∀x,x∈l→FC P g (cnD x::cs) (.bool (p x)) []):W P (Ql9 F) (Done [.t 4] [] (.int .i64 (idx p l 0)) []) (init [.lst 9 (cds l),.clo g cs]):=by
 refine QZ ?_
 unfold QW at hl
 have e1:=Qgo hcs
 have e2:=Qgp hcs
 have pl:=Qk7 l
 simp(disch:=omega)only[go_sem,pl]
 refine Q5 (fun i:Nat=>⟨[(0,.lst 9 (cds l)),(1,.clo g cs),(7,.int .i64 l.length),(8,.int .i64 i)],[],0⟩) (fun i=>i≤l.length∧idx p l 0=idx p (l.drop i) i) (fun i=>l.length-i) 0 ?_ ?_ ?_
 ·simp(disch:=omega)only[go_sem,e2,pl]
  rfl
 ·simp
 ·intro i hi
  by_cases h:i<l.length
  ·have d1:decide ((i:Int)<l.length)=true:=Qd (by omega)
   have hd:=Qcu p l i (by omega)
   have r:=hg _ (gt_mem (l:=l) (j:=(i:Int)) (by omega) (by omega))
   rw[Q4] at r
   simp(disch:=omega)only[go_sem,Ql8,d1,e1,pl]
   refine QT r ?_
   simp(disch:=omega)only[go_sem]
   refine Qac (fun h2=>?_) (fun h2=>?_)
   ·simp(disch:=omega)only[go_sem]
    rw[hi.2,hd,if_pos h2]
   ·simp(disch:=omega)only[go_sem,e2]
    exact⟨i+1,by simp,⟨by omega,by rw[hi.2,hd,if_neg (by simp [h2])]⟩,by omega⟩
  ·have d1:decide ((i:Int)<l.length)=false:=Qc (by omega)
   simp(disch:=omega)only[go_sem,Ql8,d1]
   rw[hi.2,QB (by omega)]
   rfl
theorem QZz(hi:Qmb P F)(l:List Cnd)(hl:l.length≤QW)(g:Nat)(cs:List D)(hcs:cs.all Yp=true)(p:Cnd→Bool)(hg:∀x,x∈l→FC P g (cnD x::cs) (.bool (p x)) []):W P (Qma F) (Done [.t 4] [] (.bool (l.any p)) []) (init [.lst 9 (cds l),.clo g cs]):=by
 refine QZ ?_
 have r:=hi l hl g cs hcs p hg
 have hge:=QbC p l 0 (by omega)
 have e0:=Qgn hcs
 generalize idx p l 0=ix at*
 simp(disch:=omega)only[go_sem,e0]
 refine QT r ?_
 simp(disch:=omega)only[go_sem]
 try rw[hge]
end
def QKE:LL:=[qb 4 false]
def QKF:LL:=[qm 9 1,qm 10 0,qf 11 0 10,qf 12 0 11,qf 13 1 12,ql 14 1 13,qz 15 14,qo .eql 16 9 15]
def QKG(F:Fn):LL:=[qm 17 0,qf 18 0 17,qf 19 6 18,ql 20 1 19,qm 21 0,qf 22 0 21,qf 23 4 22,ql 24 1 23,qc 25 (F "a") [.t 24],qm 26 0,qf 27 0 26,qf 28 5 27,ql 29 1 28,qc 30 (F "a") [.t 29],
 qu 31 [.nl 1,.nl 1] [(0,1,.t 25),(1,1,.t 30)],qQp 32 (.callv (.t 20) [.t 31]),qm 4 32]
def QKH:LL:=[qm 33 0,qf 34 0 33,qf 35 5 34,ql 36 1 35,qm 37 1,qd 38 1 36 37,ql 39 1 38,qk .geq 40 39 0]
def QKI(F:Fn):LL:=[qm 41 0,qm 42 1,qk .add 43 42 1,qQp 44 (.call (F "k") [.t 41,.t 43] [.mp,.rd]),qm 4 44]
def QKJ:LL:=[qm 45 0,qf 46 0 45,qf 47 0 46,qf 48 1 47,ql 49 1 48,qm 50 1,qd 51 3 49 50,qL 52 3 51,qa 5 [.int .i64 (0),.int .i64 (0),.int .i64 (0)],qs 3 5 52]
def QKK:LL:=[qf 53 0 5,ql 54 1 53,qm 55 0,qf 56 0 55,qf 57 4 56,ql 58 1 57,qf 59 1 5,ql 60 1 59,qd 61 1 58 60,ql 62 1 61,qm 63 0,qf 64 0 63,qf 65 4 64,ql 66 1 65,qf 67 2 5,ql 68 1 67,
 qd 69 1 66 68,ql 70 1 69,qu 71 [.int .i64 (0),.int .i64 (0),.int .i64 (0)] [(0,1,.t 54),(1,1,.t 62),(2,1,.t 70)],qa 6 [.int .i64 (0),.int .i64 (0),.int .i64 (0)],
 qs 3 6 71]
def QKL:LL:=[qm 72 0,qf 73 0 72,qf 74 2 73,qf 75 1 74,ql 76 1 75,qz 77 76,qi 78 0]
def QKM:LL:=[qo .lss 79 78 77]
def QKN:LL:=[qm 80 78,qd 81 3 76 78,qL 82 3 81,qa 8 [.int .i64 (0),.int .i64 (0),.int .i64 (0)],qm 7 80,qs 3 8 82]
def QKO(F:Fn):LL:=[qL 83 3 8,qL 84 3 6,qQp 85 (.eqA 3 true (.t 83) (.t 84)),qm 86 85,qg 86 false (qm 87 0),qg 86 false (qf 88 0 87),qg 86 false (qf 89 5 88),qg 86 false (ql 90 1 89),
 qg 86 false (qm 91 7),qg 86 false (qc 92 (F "b") [.t 90,.t 91]),qQ 93 86 92]
def QKP:LL:=[qm 94 0,qf 95 0 94,qf 96 5 95,ql 97 1 96,qm 98 1,qm 99 7,qd 100 1 97 98,qs 1 100 99]
def QKQ(F:Fn):LL:=[qm 101 0,qm 102 1,qk .add 103 102 1,qQp 104 (.call (F "k") [.t 101,.t 103] [.mp,.rd])]
def QKR:LL:=[qb 4 true]
def QKS:LL:=[qm 105 0,qf 106 0 105,qf 107 5 106,ql 108 1 107,qm 109 1,qd 110 1 108 109,qQn (.store 1 (.t 110) (.k (.int .i64 (-1))))]
def QKT:LL:=[qk .add 111 78 1,qm 78 111]
def Qb7(F:Fn):LC:=QQ [.reg QKM [0,1,6,76,77,78,79],.cond (.t 79) .skip (.exit 0),.block 1 (QQ [.reg QKN [0,1,6,7,8,76,77,78],QQ [.reg (QKO F) [0,1,6,7,76,77,78,93],.cond (.t 93) (.exit 1) .skip],.reg QKP [0,1,6,76,77,78],QQ [.reg (QKQ F) [0,1,6,76,77,78,104],.cond (.t 104) (QQ [.reg QKR [0,4],.ret]) .skip],.reg QKS [0,1,6,76,77,78]]),.reg QKT [0,1,6,76,77,78]]
def QKU:LL:=[qb 4 false]
def Qfj(F:Fn):LC:=QQ [.reg QKE [0,1],QQ [.reg QKF [0,1,16],.cond (.t 16) (QQ [.dreg [(3,none,[],true),(8,none,[3],true),(12,(some 3584),[8],false),(13,none,[3],false)] (QKG F) [0,4],.ret]) .skip],QQ [.reg QKH [0,1,40],.cond (.t 40) (QQ [.reg (QKI F) [0,4],.ret]) .skip],.reg QKJ [0,1,5],.dreg [] QKK [0,1,6],QQ [.reg QKL [0,1,6,76,77,78],.block 0 (.loop [0,1,6,76,77,78] (Qb7 F))],.reg QKU [0,4],.ret]
def QZA:Hints:=hOf [0] (Qfj fun _=>0)
def QKV:LL:=[qb 4 false]
def QKW:LL:=[qm 7 1,qm 8 0,qf 9 0 8,qf 10 0 9,qf 11 0 10,ql 12 1 11,qz 13 12,qo .eql 14 7 13]
def QKX(F:Fn):LL:=[qm 15 0,qQp 16 (.call (F "k") [.t 15,.k (.int .i64 (0))] [.mp,.rd]),qm 4 16]
def QKY:LL:=[qm 17 0,qf 18 0 17,qf 19 4 18,ql 20 1 19,qm 21 1,qd 22 1 20 21,ql 23 1 22,qk .geq 24 23 0]
def QKZ(F:Fn):LL:=[qm 25 0,qm 26 1,qk .add 27 26 1,qQp 28 (.call (F "g") [.t 25,.t 27] [.mp,.rd]),qm 4 28]
def QK0:LL:=[qm 29 0,qf 30 0 29,qf 31 2 30,qf 32 0 31,ql 33 1 32,qz 34 33,qi 35 0]
def QK1:LL:=[qo .lss 36 35 34]
def QK2:LL:=[qm 37 35,qd 38 1 33 35,ql 39 1 38,qm 5 37,qm 6 39]
def QK3(F:Fn):LL:=[qm 40 6,qm 41 0,qf 42 0 41,qf 43 0 42,qf 44 0 43,ql 45 1 44,qm 46 1,qd 47 1 45 46,ql 48 1 47,qo .neq 49 40 48,qm 50 49,qg 50 false (qm 51 0),qg 50 false (qf 52 0 51),
 qg 50 false (qf 53 4 52),qg 50 false (ql 54 1 53),qg 50 false (qm 55 5),qg 50 false (qc 56 (F "b") [.t 54,.t 55]),qQ 57 50 56]
def QK4:LL:=[qm 58 0,qf 59 0 58,qf 60 4 59,ql 61 1 60,qm 62 1,qm 63 5,qd 64 1 61 62,qs 1 64 63]
def QK5(F:Fn):LL:=[qm 65 0,qm 66 1,qk .add 67 66 1,qQp 68 (.call (F "g") [.t 65,.t 67] [.mp,.rd])]
def QK6:LL:=[qb 4 true]
def QK7:LL:=[qm 69 0,qf 70 0 69,qf 71 4 70,ql 72 1 71,qm 73 1,qd 74 1 72 73,qQn (.store 1 (.t 74) (.k (.int .i64 (-1))))]
def QK8:LL:=[qk .add 75 35 1,qm 35 75]
def Qb8(F:Fn):LC:=QQ [.reg QK1 [0,1,33,34,35,36],.cond (.t 36) .skip (.exit 0),.block 1 (QQ [.reg QK2 [0,1,5,6,33,34,35],QQ [.reg (QK3 F) [0,1,5,33,34,35,57],.cond (.t 57) (.exit 1) .skip],.reg QK4 [0,1,33,34,35],QQ [.reg (QK5 F) [0,1,33,34,35,68],.cond (.t 68) (QQ [.reg QK6 [0,4],.ret]) .skip],.reg QK7 [0,1,33,34,35]]),.reg QK8 [0,1,33,34,35]]
def QK9:LL:=[qb 4 false]
def Qfk(F:Fn):LC:=QQ [.reg QKV [0,1],QQ [.reg QKW [0,1,14],.cond (.t 14) (QQ [.reg (QKX F) [0,4],.ret]) .skip],QQ [.reg QKY [0,1,24],.cond (.t 24) (QQ [.reg (QKZ F) [0,4],.ret]) .skip],QQ [.reg QK0 [0,1,33,34,35],.block 0 (.loop [0,1,33,34,35] (Qb8 F))],.reg QK9 [0,4],.ret]
def QZB:Hints:=hOf [0] (Qfk fun _=>0)
def Jj{β:Type}(n:Nat)(f:Nat→Option β):Option β:=(List.range n).findSome? f
attribute [go_sem] QKE QKF QKG QKH QKI QKJ QKK QKL QKM QKN QKO QKP QKQ QKR QKS QKT QKU Qfj QKV QKW QKX QKY QKZ QK0 QK1 QK2 QK3 QK4 QK5 QK6 QK7 QK8 QK9 Qfk
theorem fst_none{β:Type}{n:Nat}{f:Nat→Option β}:Jj n f=none↔∀z,z<n→f z=none:=by
 unfold Jj
 rw[List.findSome?_eq_none_iff]
 simp only[List.mem_range]
theorem QLa{β:Type}{n:Nat}{f:Nat→Option β}{z:Nat}{x:β}(hz:z<n)(h:∀y,y<z→f y=none)(hx:f z=some x):Jj n f=some x:=by
 induction n with
 |zero=>omega
 |succ n ih=>
  unfold Jj at ih ⊢
  rw[List.range_succ,List.findSome?_append]
  by_cases c:z<n
  ·rw[ih c];rfl
  ·obtain rfl:z=n:=by omega
   have:=(fst_none (n:=z) (f:=f)).2 h
   unfold Jj at this
   rw[this]
   simp [hx]
theorem QZC{β:Type}{n:Nat}{f:Nat→Option β}{x:β}(h:Jj n f=some x):∃z,z<n∧f z=some x:=by
 unfold Jj at h
 obtain⟨z,hz,h⟩:=List.exists_of_findSome?_eq_some h
 exact⟨z,List.mem_range.1 hz,h⟩
def JL(g p:G)(N E:List Int)(i z:Nat):Bool:=(decide ((gt g.e (z:Int)).t=(gt p.e (i:Int)).t)&&(decide ((gt g.e (z:Int)).f=gt N (gt p.e (i:Int)).f)&&decide ((gt g.e (z:Int)).o=gt N (gt p.e (i:Int)).o)))&&!decide ((z:Int)∈E)
def exE(g p:G)(N:List Int)(acc:Mo→Bool):Nat→Nat→List Int→Option (List Int)
 |0,i,E=>if acc ⟨N,E⟩ then some E else none
 |k+1,i,E=>if 0≤gt E (i:Int) then exE g p N acc k (i+1) E else Jj g.e.length fun z=>if JL g p N E i z then exE g p N acc k (i+1) (E.set i z) else none
def JM(g p:G)(N:List Int)(i z:Nat):Bool:=decide (gt g.n (z:Int)=gt p.n (i:Int))&&!decide ((z:Int)∈N)
def exN(g p:G)(E:List Int)(acc:Mo→Bool):Nat→Nat→List Int→Option (List Int×List Int)
 |0,i,N=>(exE g p N acc p.e.length 0 E).map fun e=>(N,e)
 |k+1,i,N=>if 0≤gt N (i:Int) then exN g p E acc k (i+1) N else Jj g.n.length fun z=>if JM g p N i z then exN g p E acc k (i+1) (N.set i z) else none
def exB(p g:G)(N E:List Int)(f:Nat)(ca cb:List D):D:=.box [.lst 1 (QR p.n),.lst 3 (eds p.e),.lst 1 (QR g.n),.lst 3 (eds g.e),.arr 1 (QR N),.arr 1 (QR E),.clo f [.ref ca,.ref cb]]
section
variable (P:Program) (F:String→Nat)
def Qmd(k:Nat):Prop:=∀(p g:G)(N E:List Int)(i:Nat)(f:Nat)(ca cb:List D)(acc:Mo→Bool),i+k=p.e.length→OvOk g p N E→QX p=0→QX g=0→(∀j:Nat,j<p.n.length→0≤gt N (j:Int))→(∀j:Nat,j<i→0≤gt E (j:Int))→
 (∀q,Emb p g q→FC P f [mD q,.ref ca,.ref cb] (.bool (acc q)) [])→
 FC P (F "k") [exB p g N E f ca cb,.int .i64 i] (.bool (exE g p N acc k i E).isSome) [(0,exB p g N ((exE g p N acc k i E).getD E) f ca cb)]
def Qme:Prop:=∀k,Qmd P F k
def Qmf(k:Nat):Prop:=∀(p g:G)(N E:List Int)(i:Nat)(f:Nat)(ca cb:List D)(acc:Mo→Bool),i+k=p.n.length→OvOk g p N E→QX p=0→QX g=0→(∀j:Nat,j<i→0≤gt N (j:Int))→
 (∀q,Emb p g q→FC P f [mD q,.ref ca,.ref cb] (.bool (acc q)) [])→
 FC P (F "g") [exB p g N E f ca cb,.int .i64 i] (.bool (exN g p E acc k i N).isSome) [(0,exB p g ((exN g p E acc k i N).getD (N,E)).1 ((exN g p E acc k i N).getD (N,E)).2 f ca cb)]
def Qmg:Prop:=∀k,Qmf P F k
end
section
theorem QLb{l:List Int}{i:Nat}{v:Int}(h:gt l (i:Int)=v):l.set i v=l:=by
 by_cases c:i<l.length
 ·rw[Xc c] at h
  rw[←h]
  exact List.set_getElem_self c
 ·exact List.set_eq_of_length_le (by omega)
theorem QLc{g p:G}{N E:List Int}(vp:QX p=0)(vg:QX g=0)(h:OvOk g p N E)(hn:∀j:Nat,j<p.n.length→0≤gt N (j:Int))(he:∀j:Nat,j<p.e.length→0≤gt E (j:Int)):Emb p g ⟨N,E⟩:=by
 have h1:=h.ln
 have h2:=h.le
 have n1:∀i:Nat,i<p.n.length→(0≤gt N (i:Int)∧gt N (i:Int)<g.n.length)∧gt g.n (gt N (i:Int))=gt p.n (i:Int):=fun i hi=>by
  have:=hn i hi
  rcases h.nb i hi with x|x
  ·omega
  ·exact x
 have e1:∀i:Nat,i<p.e.length→(0≤gt E (i:Int)∧gt E (i:Int)<g.e.length)∧gt g.e (gt E (i:Int))=Ym N (gt p.e (i:Int)):=fun i hi=>by
  have:=he i hi
  rcases h.eb i hi with x|x
  ·omega
  ·exact x
 refine⟨⟨vp,vg,h1,h2,n1,fun i hi=>?_⟩,fun i k hi hk e=>h.nj i k hi hk (hn i hi) e,fun i k hi hk e=>h.ej i k hi hk (he i hi) e⟩
 obtain⟨x1,x2⟩:=e1 i hi
 refine⟨x1,?_⟩
 simp only
 rw[x2]
 exact⟨rfl,rfl,rfl⟩
theorem OvOk.neg{g p:G}{N E:List Int}(h:OvOk g p N E){i:Nat}(hi:i<p.e.length)(hc:¬0≤gt E (i:Int)):gt E (i:Int)= -1:=by
 rcases h.eb i hi with x|x
 ·exact x
 ·omega
theorem OvOk.negN{g p:G}{N E:List Int}(h:OvOk g p N E){i:Nat}(hi:i<p.n.length)(hc:¬0≤gt N (i:Int)):gt N (i:Int)= -1:=by
 rcases h.nb i hi with x|x
 ·exact x
 ·omega
theorem okXe_spec{g p:G}{N E:List Int}{i z:Nat}:JL g p N E i z=true↔gt g.e (z:Int)=Ym N (gt p.e (i:Int))∧(z:Int)∉E:=by
 unfold JL Ym
 simp only[Qi,Qk,Bool.not_eq_true',QE,Qe6]
theorem OvOk.setE{g p:G}{N E:List Int}(h:OvOk g p N E){i z:Nat}(hi:i<p.e.length)(hz:z<g.e.length)(hx:JL g p N E i z=true):OvOk g p N (E.set i z):=by
 have h2:=h.le
 obtain⟨x1,x2⟩:=okXe_spec.1 hx
 have hgt:∀j:Nat,j<p.e.length→gt (E.set i z) (j:Int)=if i=j then (z:Int) else gt E (j:Int):=fun j hj=>Y2 (by omega)
 have hne:∀j:Nat,j<p.e.length→gt E (j:Int)≠(z:Int):=fun j hj e=>x2 (by rw[←e];exact gt_mem (by omega) (by omega))
 refine⟨h.ln,by rw[QJ];exact h2,h.nb,h.nj,fun j hj=>?_,fun j k hj hk=>?_⟩
 ·rw[hgt j hj]
  split
  ·rename_i e;subst e
   exact .inr ⟨⟨by omega,by omega⟩,x1⟩
  ·exact h.eb j hj
 ·rw[hgt j hj,hgt k hk]
  intro a b
  by_cases c:i=j
  ·by_cases d:i=k
   ·omega
   ·rw[if_pos c,if_neg d] at b;exact absurd b.symm (hne k hk)
  ·rw[if_neg c] at a b
   by_cases d:i=k
   ·rw[if_pos d] at b;exact absurd b (hne j hj)
   ·rw[if_neg d] at b;exact h.ej j k hj hk a b
theorem OvOk.setN{g p:G}{N E:List Int}(h:OvOk g p N E)(vp:QX p=0)(vg:QX g=0){i z:Nat}(hi:i<p.n.length)(hm:gt N (i:Int)= -1)(hz:z<g.n.length)(hx:JM g p N i z=true):OvOk g p (N.set i z) E:=by
 have h1:=h.ln
 simp only[JM,Qi,Qk,Bool.not_eq_true',QE] at hx
 obtain⟨x1,x2⟩:=hx
 have hgt:∀j:Nat,j<p.n.length→gt (N.set i z) (j:Int)=if i=j then (z:Int) else gt N (j:Int):=fun j hj=>Y2 (by omega)
 have hne:∀j:Nat,j<p.n.length→gt N (j:Int)≠(z:Int):=fun j hj e=>x2 (by rw[←e];exact gt_mem (by omega) (by omega))
 obtain⟨_,_,_,p4⟩:=Q8 vp
 obtain⟨_,_,_,g4⟩:=Q8 vg
 refine⟨by rw[QJ];exact h1,h.le,fun j hj=>?_,fun j k hj hk=>?_,fun j hj=>?_,h.ej⟩
 ·rw[hgt j hj]
  split
  ·rename_i e;subst e
   exact .inr ⟨⟨by omega,by omega⟩,x1⟩
  ·exact h.nb j hj
 ·rw[hgt j hj,hgt k hk]
  intro a b
  by_cases c:i=j
  ·by_cases d:i=k
   ·omega
   ·rw[if_pos c,if_neg d] at b;exact absurd b.symm (hne k hk)
  ·rw[if_neg c] at a b
   by_cases d:i=k
   ·rw[if_pos d] at b;exact absurd b (hne j hj)
   ·rw[if_neg d] at b;exact h.nj j k hj hk a b
 ·rcases h.eb j hj with y|⟨y1,y2⟩
  ·exact .inl y
  ·refine .inr ⟨y1,?_⟩
   have q1:=YZ (p4 _ (gt_mem (l:=p.e) (j:=(j:Int)) (by omega) (by omega)))
   have q2:=YZ (g4 _ (gt_mem (l:=g.e) (j:=gt E (j:Int)) y1.1 y1.2))
   rw[y2] at q2 ⊢
   simp only[Ym] at q2 ⊢
   obtain⟨_,r2,r3⟩:=q1
   obtain⟨_,s2,s3⟩:=q2
   obtain⟨a,ha⟩:=Qz r2.1
   obtain⟨b,hb⟩:=Qz r3.1
   rw[ha] at s2 r2 ⊢
   rw[hb] at s3 r3 ⊢
   rw[hgt a (by omega),hgt b (by omega)]
   have na:i≠a:=fun e=>by subst e;rw[hm] at s2;omega
   have nb:i≠b:=fun e=>by subst e;rw[hm] at s3;omega
   rw[if_neg na,if_neg nb]
end
section
variable {P:Program} {F:String→Nat} {α:Type}
set_option maxRecDepth 100000 in
theorem QZD(hc:Qag P F)(hn:JX P F)(k:Nat)(ih:∀m,m<k→Qmd P F m)(p g:G)(N E:List Int)(i:Nat)(f:Nat)(ca cb:List D)(acc:Mo→Bool)(hk:i+k=p.e.length)(ho:OvOk g p N E)(vp:QX p=0)(vg:QX g=0)(hN:∀j:Nat,j<p.n.length→0≤gt N (j:Int))(hE:∀j:Nat,j<i→0≤gt E (j:Int))
  (ha:∀q,Emb p g q→FC P f [mD q,.ref ca,.ref cb] (.bool (acc q)) []):
  W P (Qfj F) (Done [.t 4] [0] (.bool (exE g p N acc k i E).isSome) [(0,exB p g N ((exE g p N acc k i E).getD E) f ca cb)]) (init [exB p g N E f ca cb,.int .i64 i]):=by
 refine QZ ?_
 obtain⟨p1,p2,_,p4⟩:=Q8 vp
 obtain⟨g1,g2,_⟩:=Q8 vg
 have l1:=ho.ln
 have l2:=ho.le
 cases k with
 |zero=>
  have r1:=hc N (by omega)
  have r2:=hc E (by omega)
  have r3:=ha ⟨N,E⟩ (QLc vp vg ho hN (fun j hj=>hE j (by omega)))
  have e:exE g p N acc 0 i E=if acc ⟨N,E⟩ then some E else none:=rfl
  rw[e]
  have hq:(if acc ⟨N,E⟩ then some E else none).getD E=E:=by split<;>rfl
  have hs:(if acc ⟨N,E⟩ then some E else none).isSome=acc ⟨N,E⟩:=by cases acc ⟨N,E⟩<;>rfl
  rw[hq,hs]
  have d1:decide ((i:Int)=p.e.length)=true:=Qd (by omega)
  generalize acc ⟨N,E⟩=R at*
  simp only[exB,mD] at*
  simp(disch:=omega)only[go_sem,d1]
  refine QT r1 ?_
  simp(disch:=omega)only[go_sem]
  refine QT r2 ?_
  simp(disch:=omega)only[go_sem]
  refine QT r3 ?_
  simp(disch:=omega)only[go_sem]
  rfl
 |succ k=>
  have d1:decide ((i:Int)=p.e.length)=false:=Qc (by omega)
  have zi:=YI (l:=E) (i:=i) (by omega)
  by_cases c:0≤gt E (i:Int)
  ·have e:exE g p N acc (k+1) i E=exE g p N acc k (i+1) E:=by rw[exE,if_pos c]
   rw[e]
   have r:FC P (F "k") [exB p g N E f ca cb,.int .i64 ((i:Int)+1)] _ _:=ih k (by omega) p g N E (i+1) f ca cb acc (by omega) ho vp vg hN (fun j hj=>by
    by_cases x:j=i
    ·subst x;exact c
    ·exact hE j (by omega)) ha
   have d2:decide (0≤gt E (i:Int))=true:=Qd c
   generalize exE g p N acc k (i+1) E=Q at*
   simp only[exB] at*
   simp(disch:=omega)only[go_sem,d1,zi,d2]
   refine QT r ?_
   simp(disch:=omega)only[go_sem]
   rfl
  ·have e:exE g p N acc (k+1) i E=Jj g.e.length fun z=>if JL g p N E i z then exE g p N acc k (i+1) (E.set i z) else none:=by rw[exE,if_neg c]
   have hm:=ho.neg (by omega) c
   have r:∀z:Nat,z<g.e.length→JL g p N E i z=true→FC P (F "k") [exB p g N (E.set i z) f ca cb,.int .i64 ((i:Int)+1)] (.bool (exE g p N acc k (i+1) (E.set i z)).isSome) [(0,exB p g N ((exE g p N acc k (i+1) (E.set i z)).getD (E.set i z)) f ca cb)]:=fun z hz hx=>
    ih k (by omega) p g N (E.set i z) (i+1) f ca cb acc (by omega) (ho.setE (by omega) hz hx) vp vg hN (fun j hj=>by
     rw[Y2 (by omega)]
     split
     ·omega
     ·exact hE j (by omega)) ha
   have d2:decide (0≤gt E (i:Int))=false:=Qc c
   have hx:=YZ (p4 _ (gt_mem (l:=p.e) (j:=(i:Int)) (by omega) (by omega)))
   have rcn:=fun z:Int=>hn E z (by unfold QW;omega)
   have hset:∀z:Int,(E.set i z).set i (-1)=E:=fun z=>by
    rw[List.set_set]
    exact QLb hm
   have hzs:∀z:Int,(QR (E.set i z))[i]?=some (.int .i64 z):=fun z=>by
    have:=YI (l:=E.set i z) (i:=i) (by rw[QJ];omega)
    rw[Y2 (by omega),if_pos rfl] at this
    exact this
   have hy:=Qcn (l:=p.e) (i:=i) (by omega)
   have hok:∀z:Nat,JL g p N E i z=((decide ((gt g.e (z:Int)).t=(gt p.e (i:Int)).t)&&(decide ((gt g.e (z:Int)).f=gt N (gt p.e (i:Int)).f)&&decide ((gt g.e (z:Int)).o=gt N (gt p.e (i:Int)).o)))&&!decide ((z:Int)∈E)):=fun z=>rfl
   generalize exE g p N acc (k+1) i E=Q at*
   generalize hR:(fun z:Nat=>exE g p N acc k (i+1) (E.set i z))=R at*
   have hR':∀z:Nat,exE g p N acc k (i+1) (E.set i z)=R z:=fun z=>congrFun hR z
   simp only[hR'] at*
   generalize JL g p N E i=ok at*
   have dn:decide ((0:Int)≤ -1)=false:=rfl
   clear hR hR' ih hc hn ha
   simp only[exB] at*
   have hxx:=gt p.e (i:Int)
   obtain⟨q1,q2,q3⟩:=hx
   generalize gt p.e (i:Int)=x at*
   obtain⟨xt,xf,xo⟩:=x
   simp only at*
   have hf:=Zp (l:=N) (j:=xf) q2.1 (by omega)
   have ho':=Zp (l:=N) (j:=xo) q3.1 (by omega)
   simp(disch:=omega)only[go_sem,d1,zi,d2,hy,hf,ho']
   refine Q5 (fun z:Nat=>⟨[(0,.pt 2 0),(1,.int .i64 i),(6,.pt 3 0),(76,.lst 3 (eds g.e)),(77,.int .i64 g.e.length),(78,.int .i64 z)],
    [(0,.arr 1 (QR N)),(1,.arr 1 (QR E)),(2,.box [.lst 1 (QR p.n),.lst 3 (eds p.e),.lst 1 (QR g.n),.lst 3 (eds g.e),.sl 0 0 N.length,.sl 1 0 E.length,.clo f [.ref ca,.ref cb]]),(3,.box [.int .i64 xt,.int .i64 (gt N xf),.int .i64 (gt N xo)])],4⟩)
    (fun z=>z≤g.e.length∧∀y:Nat,y<z→(if ok y=true then R y else none)=none) (fun z=>g.e.length-z) 0 ?_ ?_ ?_
   ·simp(disch:=omega)only[go_sem]
    rfl
   ·exact⟨Nat.zero_le _,fun y hy=>by omega⟩
   ·rintro z ⟨hz,hb⟩
    by_cases h:z<g.e.length
    ·have g3:decide ((z:Int)<g.e.length)=true:=Qd (by omega)
     have hoz:=hok z
     have hrz:=r z h
     have hy2:=Qcn (l:=g.e) (i:=z) h
     have hz':=hset z
     generalize gt g.e (z:Int)=y at*
     obtain⟨yt,yf,yo⟩:=y
     simp only at*
     have rc:=rcn z
     cases he:(decide (yt=xt)&&(decide (yf=gt N xf)&&decide (yo=gt N xo))) with
     |false=>
      rw[he,Bool.false_and] at hoz
      simp(disch:=omega)only[go_sem,Qb7,g3,hy2,he]
      exact⟨z+1,by simp,⟨by omega,fun y hy=>by
       by_cases c:y=z
       ·subst c;rw[if_neg (by simp [hoz])]
       ·exact hb y (by omega)⟩,by omega⟩
     |true=>
      rw[he,Bool.true_and] at hoz
      by_cases hm:(z:Int)∈E
      ·have d3:=Qd hm
       rw[d3] at hoz rc
       simp(disch:=omega)only[go_sem,Qb7,g3,hy2,he]
       refine QT rc ?_
       simp(disch:=omega)only[go_sem]
       exact⟨z+1,by simp,⟨by omega,fun y hy=>by
        by_cases c:y=z
        ·subst c;rw[if_neg (by simp [hoz])]
        ·exact hb y (by omega)⟩,by omega⟩
      ·have d3:=Qc hm
       rw[d3] at hoz rc
       have hoz:ok z=true:=hoz
       have hrz:=hrz hoz
       have hbz:(if ok z=true then R z else none)=R z:=if_pos hoz
       generalize hY:R z=Y at hbz hrz
       cases Y with
       |none=>
        simp only[Option.isSome_none,Option.getD_none] at hrz
        simp(disch:=omega)only[go_sem,Qb7,g3,hy2,he]
        refine QT rc ?_
        simp(disch:=omega)only[go_sem]
        refine QT hrz ?_
        simp(disch:=omega)only[go_sem,hz',hzs]
        exact⟨z+1,by simp,⟨by omega,fun y hy=>by
         by_cases c:y=z
         ·subst c;rw[if_pos hoz,hY]
         ·exact hb y (by omega)⟩,by omega⟩
       |some Y=>
        have hQ:Q=some Y:=by rw[e];exact QLa h hb (by rw[if_pos hoz,hY])
        simp only[Option.isSome_some,Option.getD_some] at hrz
        subst hQ
        simp(disch:=omega)only[go_sem,Qb7,g3,hy2,he]
        refine QT rc ?_
        simp(disch:=omega)only[go_sem]
        refine QT hrz ?_
        simp(disch:=omega)only[go_sem]
        rfl
    ·obtain rfl:z=g.e.length:=by omega
     have g3:decide ((g.e.length:Int)<g.e.length)=false:=Qc (by omega)
     have hQ:Q=none:=by rw[e];exact fst_none.2 hb
     subst hQ
     simp(disch:=omega)only[go_sem,Qb7,g3]
     rfl
set_option maxRecDepth 100000 in
theorem QZE(he:Qme P F)(hn:JX P F)(k:Nat)(ih:∀m,m<k→Qmf P F m)(p g:G)(N E:List Int)(i:Nat)(f:Nat)(ca cb:List D)(acc:Mo→Bool)(hk:i+k=p.n.length)(ho:OvOk g p N E)(vp:QX p=0)(vg:QX g=0)(hN:∀j:Nat,j<i→0≤gt N (j:Int))
  (ha:∀q,Emb p g q→FC P f [mD q,.ref ca,.ref cb] (.bool (acc q)) []):
  W P (Qfk F) (Done [.t 4] [0] (.bool (exN g p E acc k i N).isSome) [(0,exB p g ((exN g p E acc k i N).getD (N,E)).1 ((exN g p E acc k i N).getD (N,E)).2 f ca cb)]) (init [exB p g N E f ca cb,.int .i64 i]):=by
 refine QZ ?_
 obtain⟨p1,p2,_,p4⟩:=Q8 vp
 obtain⟨g1,g2,_⟩:=Q8 vg
 have l1:=ho.ln
 have l2:=ho.le
 cases k with
 |zero=>
  have r:FC P (F "k") [exB p g N E f ca cb,.int .i64 0] _ _:=he p.e.length p g N E 0 f ca cb acc (by omega) ho vp vg (fun j hj=>hN j (by omega)) (fun j hj=>by omega) ha
  have e:exN g p E acc 0 i N=(exE g p N acc p.e.length 0 E).map fun e=>(N,e):=rfl
  rw[e]
  have h1:(((exE g p N acc p.e.length 0 E).map fun e=>(N,e)).getD (N,E)).1=N:=by cases exE g p N acc p.e.length 0 E<;>rfl
  have h2:(((exE g p N acc p.e.length 0 E).map fun e=>(N,e)).getD (N,E)).2=(exE g p N acc p.e.length 0 E).getD E:=by cases exE g p N acc p.e.length 0 E<;>rfl
  rw[h1,h2,Option.isSome_map]
  have d1:decide ((i:Int)=p.n.length)=true:=Qd (by omega)
  generalize exE g p N acc p.e.length 0 E=Q at*
  simp only[exB] at*
  simp(disch:=omega)only[go_sem,d1]
  refine QT r ?_
  simp(disch:=omega)only[go_sem]
  rfl
 |succ k=>
  have d1:decide ((i:Int)=p.n.length)=false:=Qc (by omega)
  have zi:=YI (l:=N) (i:=i) (by omega)
  by_cases c:0≤gt N (i:Int)
  ·have e:exN g p E acc (k+1) i N=exN g p E acc k (i+1) N:=by rw[exN,if_pos c]
   rw[e]
   have r:FC P (F "g") [exB p g N E f ca cb,.int .i64 ((i:Int)+1)] _ _:=ih k (by omega) p g N E (i+1) f ca cb acc (by omega) ho vp vg (fun j hj=>by
    by_cases x:j=i
    ·subst x;exact c
    ·exact hN j (by omega)) ha
   have d2:decide (0≤gt N (i:Int))=true:=Qd c
   generalize exN g p E acc k (i+1) N=Q at*
   simp only[exB] at*
   simp(disch:=omega)only[go_sem,d1,zi,d2]
   refine QT r ?_
   simp(disch:=omega)only[go_sem]
   rfl
  ·have e:exN g p E acc (k+1) i N=Jj g.n.length fun z=>if JM g p N i z then exN g p E acc k (i+1) (N.set i z) else none:=by rw[exN,if_neg c]
   have hm:=ho.negN (by omega) c
   have r:∀z:Nat,z<g.n.length→JM g p N i z=true→FC P (F "g") [exB p g (N.set i z) E f ca cb,.int .i64 ((i:Int)+1)] (.bool (exN g p E acc k (i+1) (N.set i z)).isSome) [(0,exB p g ((exN g p E acc k (i+1) (N.set i z)).getD (N.set i z,E)).1 ((exN g p E acc k (i+1) (N.set i z)).getD (N.set i z,E)).2 f ca cb)]:=fun z hz hx=>
    ih k (by omega) p g (N.set i z) E (i+1) f ca cb acc (by omega) (ho.setN vp vg (by omega) hm hz hx) vp vg (fun j hj=>by
     rw[Y2 (by omega)]
     split
     ·omega
     ·exact hN j (by omega)) ha
   have d2:decide (0≤gt N (i:Int))=false:=Qc c
   have rcn:=fun z:Int=>hn N z (by unfold QW;omega)
   have hset:∀z:Int,(N.set i z).set i (-1)=N:=fun z=>by
    rw[List.set_set]
    exact QLb hm
   have hzs:∀z:Int,(QR (N.set i z))[i]?=some (.int .i64 z):=fun z=>by
    have:=YI (l:=N.set i z) (i:=i) (by rw[QJ];omega)
    rw[Y2 (by omega),if_pos rfl] at this
    exact this
   have hy:=YI (l:=p.n) (i:=i) (by omega)
   have hok:∀z:Nat,JM g p N i z=(decide (gt g.n (z:Int)=gt p.n (i:Int))&&!decide ((z:Int)∈N)):=fun z=>rfl
   generalize exN g p E acc (k+1) i N=Q at*
   generalize hR:(fun z:Nat=>exN g p E acc k (i+1) (N.set i z))=R at*
   have hR':∀z:Nat,exN g p E acc k (i+1) (N.set i z)=R z:=fun z=>congrFun hR z
   simp only[hR'] at*
   generalize JM g p N i=ok at*
   clear hR hR' ih he hn ha
   simp only[exB] at*
   simp(disch:=omega)only[go_sem,d1,zi,d2]
   refine Q5 (fun z:Nat=>⟨[(0,.pt 2 0),(1,.int .i64 i),(33,.lst 1 (QR g.n)),(34,.int .i64 g.n.length),(35,.int .i64 z)],
    [(0,.arr 1 (QR N)),(1,.arr 1 (QR E)),(2,.box [.lst 1 (QR p.n),.lst 3 (eds p.e),.lst 1 (QR g.n),.lst 3 (eds g.e),.sl 0 0 N.length,.sl 1 0 E.length,.clo f [.ref ca,.ref cb]])],3⟩)
    (fun z=>z≤g.n.length∧∀y:Nat,y<z→(if ok y=true then R y else none)=none) (fun z=>g.n.length-z) 0 ?_ ?_ ?_
   ·simp(disch:=omega)only[go_sem]
    rfl
   ·exact⟨Nat.zero_le _,fun y hy=>by omega⟩
   ·rintro z ⟨hz,hb⟩
    by_cases h:z<g.n.length
    ·have g3:decide ((z:Int)<g.n.length)=true:=Qd (by omega)
     have hoz:=hok z
     have hrz:=r z h
     have hy2:=YI (l:=g.n) (i:=z) h
     have hz':=hset z
     have rc:=rcn z
     cases he:decide (gt g.n (z:Int)=gt p.n (i:Int)) with
     |false=>
      rw[he,Bool.false_and] at hoz
      simp(disch:=omega)only[go_sem,Qb8,g3,hy,hy2,he]
      exact⟨z+1,by simp,⟨by omega,fun y hy=>by
       by_cases c:y=z
       ·subst c;rw[if_neg (by simp [hoz])]
       ·exact hb y (by omega)⟩,by omega⟩
     |true=>
      rw[he,Bool.true_and] at hoz
      by_cases hm:(z:Int)∈N
      ·have d3:=Qd hm
       rw[d3] at hoz rc
       simp(disch:=omega)only[go_sem,Qb8,g3,hy,hy2,he]
       refine QT rc ?_
       simp(disch:=omega)only[go_sem]
       exact⟨z+1,by simp,⟨by omega,fun y hy=>by
        by_cases c:y=z
        ·subst c;rw[if_neg (by simp [hoz])]
        ·exact hb y (by omega)⟩,by omega⟩
      ·have d3:=Qc hm
       rw[d3] at hoz rc
       have hoz:ok z=true:=hoz
       have hrz:=hrz hoz
       have hbz:(if ok z=true then R z else none)=R z:=if_pos hoz
       generalize hY:R z=Y at hbz hrz
       cases Y with
       |none=>
        simp only[Option.isSome_none,Option.getD_none] at hrz
        simp(disch:=omega)only[go_sem,Qb8,g3,hy,hy2,he]
        refine QT rc ?_
        simp(disch:=omega)only[go_sem]
        refine QT hrz ?_
        simp(disch:=omega)only[go_sem,hz',hzs]
        exact⟨z+1,by simp,⟨by omega,fun y hy=>by
         by_cases c:y=z
         ·subst c;rw[if_pos hoz,hY]
         ·exact hb y (by omega)⟩,by omega⟩
       |some Y=>
        have hQ:Q=some Y:=by rw[e];exact QLa h hb (by rw[if_pos hoz,hY])
        simp only[Option.isSome_some,Option.getD_some] at hrz
        subst hQ
        simp(disch:=omega)only[go_sem,Qb8,g3,hy,hy2,he]
        refine QT rc ?_
        simp(disch:=omega)only[go_sem]
        refine QT hrz ?_
        simp(disch:=omega)only[go_sem]
        rfl
    ·obtain rfl:z=g.n.length:=by omega
     have g3:decide ((g.n.length:Int)<g.n.length)=false:=Qc (by omega)
     have hQ:Q=none:=by rw[e];exact fst_none.2 hb
     subst hQ
     simp(disch:=omega)only[go_sem,Qb8,g3]
     rfl
end
end Go.Am
