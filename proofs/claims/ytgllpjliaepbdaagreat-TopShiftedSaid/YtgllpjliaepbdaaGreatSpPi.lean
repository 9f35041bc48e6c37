/- Overlaps: what the program lists. -/
import Derived.Test.YtgllpjliaepbdaaGreatSpPa
import Derived.Test.YtgllpjliaepbdaaGreatSpPb
import Derived.Test.YtgllpjliaepbdaaGreatSpPc
import Derived.Test.YtgllpjliaepbdaaGreatSpPd
import Derived.Test.YtgllpjliaepbdaaGreatSpPe
import Derived.Test.YtgllpjliaepbdaaGreatSpPf
import Derived.Test.YtgllpjliaepbdaaGreatSpPg
import Derived.Test.YtgllpjliaepbdaaGreatSpPh
namespace Go.Am
open Go
set_option linter.unusedVariables false
set_option linter.unusedSimpArgs false
attribute [local irreducible] W
def QGM:LL:=[qB 4 0,qB 5 1,qa 8 [.nl 1,.nl 3,.nl 1,.nl 1,.nl 1,.nl 1]]
def QGN(F:Fn):LL:=[qL 18 2 4,qc 19 (F "bE") [.t 18],qm 17 19,qx 20 17 0,qx 21 17 1,qa 9 [.nl 1,.nl 1],qs 2 9 20,qm 10 21]
def QGO(F:Fn):LL:=[qf 22 0 4,ql 23 1 22,qc 24 (F "a") [.t 23],qf 25 1 4,ql 26 1 25,qc 27 (F "Z") [.t 26],qu 28 [.nl 1,.nl 3] [(0,1,.t 24),(1,1,.t 27)],qL 29 2 9,
 qu 30 [.nl 1,.nl 3,.nl 1,.nl 1,.nl 1,.nl 1] [(0,2,.t 28),(2,2,.t 29)],qa 11 [.nl 1,.nl 3,.nl 1,.nl 1,.nl 1,.nl 1],qs 6 11 30]
def QGP:LL:=[qm 31 2,qz 32 31,qi 33 0]
def QGQ:LL:=[qo .lss 34 33 32]
def QGR:LL:=[qm 35 33,qd 36 1 31 33,ql 37 1 36,qm 12 35,qm 13 37]
def QGS:LL:=[qm 38 13,qk .lss 39 38 0]
def QGT:LL:=[qf 40 0 11,qf 41 0 40,ql 42 1 41,qz 43 42,qm 13 43]
def QGU:LL:=[qf 44 0 11,qf 45 0 44,ql 46 1 45,qf 47 0 5,ql 48 1 47,qm 49 12,qd 50 1 48 49,ql 51 1 50,qQp 52 (.buildSl 1 8 (.int .i64 (0)) 1 [(0,.t 51)]),qp 53 1 8 46 52,qf 54 0 11,
 qf 55 0 54,qs 1 55 53]
def QGV:LL:=[qf 56 4 11,qf 57 0 56,ql 58 1 57,qm 59 13,qQp 60 (.buildSl 1 8 (.int .i64 (0)) 1 [(0,.t 59)]),qp 61 1 8 58 60,qf 62 4 11,qf 63 0 62,qs 1 63 61]
def QGW:LL:=[qk .add 64 33 1,qm 33 64]
def QeZ:LC:=QQ [.reg QGQ [3,5,8,11,31,32,33,34],.cond (.t 34) .skip (.exit 0),.block 1 (QQ [.reg QGR [3,5,8,11,12,13,31,32,33],QQ [.reg QGS [3,5,8,11,12,13,31,32,33,39],.cond (.t 39) (QQ [.reg QGT [3,5,8,11,12,13,31,32,33],.dreg [(2,none,[],true),(8,none,[2],false)] QGU [3,5,8,11,13,31,32,33]]) .skip],.reg QGV [3,5,8,11,31,32,33]]),.reg QGW [3,5,8,11,31,32,33]]
def QGX:LL:=[qm 65 3,qz 66 65,qi 67 0]
def QGY:LL:=[qo .lss 68 67 66]
def QGZ:LL:=[qm 69 67,qd 70 1 65 67,ql 71 1 70,qm 14 69,qm 15 71]
def QG0:LL:=[qm 72 15,qk .lss 73 72 0]
def QG1:LL:=[qf 74 0 11,qf 75 1 74,ql 76 1 75,qz 77 76,qm 15 77]
def QG2:LL:=[qf 78 1 5,ql 79 1 78,qm 80 14,qd 81 3 79 80,qL 82 3 81,qa 16 [.int .i64 (0),.int .i64 (0),.int .i64 (0)],qs 3 16 82]
def QG3:LL:=[qf 83 0 11,qf 84 1 83,ql 85 1 84,qf 86 0 16,ql 87 1 86,qf 88 4 11,qf 89 0 88,ql 90 1 89,qf 91 1 16,ql 92 1 91,qd 93 1 90 92,ql 94 1 93,qf 95 4 11,qf 96 0 95,ql 97 1 96,qf 98 2 16,
 ql 99 1 98,qd 100 1 97 99,ql 101 1 100,qu 102 [.int .i64 (0),.int .i64 (0),.int .i64 (0)] [(0,1,.t 87),(1,1,.t 94),(2,1,.t 101)],
 qQp 103 (.buildSl 3 24 (.agg [.int .i64 (0),.int .i64 (0),.int .i64 (0)]) 1 [(0,.t 102)]),qp 104 3 24 85 103,qf 105 0 11,qf 106 1 105,qs 1 106 104]
def QG4:LL:=[qf 107 4 11,qf 108 1 107,ql 109 1 108,qm 110 15,qQp 111 (.buildSl 1 8 (.int .i64 (0)) 1 [(0,.t 110)]),qp 112 1 8 109 111,qf 113 4 11,qf 114 1 113,qs 1 114 112]
def QG5:LL:=[qk .add 115 67 1,qm 67 115]
def Qe0:LC:=QQ [.reg QGY [5,8,11,65,66,67,68],.cond (.t 68) .skip (.exit 2),.block 3 (QQ [.reg QGZ [5,8,11,14,15,65,66,67],QQ [.reg QG0 [5,8,11,14,15,65,66,67,73],.cond (.t 73) (QQ [.reg QG1 [5,8,11,14,15,65,66,67],.reg QG2 [5,8,11,15,16,65,66,67],.dreg [(2,none,[],true),(20,none,[2],false)] QG3 [5,8,11,15,65,66,67]]) .skip],.reg QG4 [5,8,11,65,66,67]]),.reg QG5 [5,8,11,65,66,67]]
def QG6:LL:=[qL 116 6 11,qs 6 8 116]
def Qll(F:Fn):LC:=QQ [.reg QGM [2,3,4,5,8],.reg (QGN F) [2,3,4,5,8,9],.dreg [(2,none,[],true),(4,(some 8),[2],false),(5,none,[],true),(7,(some 0),[2,5],false)] (QGO F) [2,3,5,8,11],QQ [.reg QGP [3,5,8,11,31,32,33],.block 0 (.loop [3,5,8,11,31,32,33] QeZ)],QQ [.reg QGX [5,8,11,65,66,67],.block 2 (.loop [5,8,11,65,66,67] Qe0)],.reg QG6 [8],.ret]
def QG7:LL:=[qm 10 0,qf 11 0 10,qf 12 4 11,ql 13 1 12,qz 14 13,qk .gtr 15 14 2000]
def QG8:LL:=[qm 16 2,qz 17 16,qm 18 0,qf 19 0 18,qf 20 2 19,qf 21 1 20,ql 22 1 21,qz 23 22,qo .eql 24 17 23]
def QG9(F:Fn):LL:=[qm 25 0,qm 26 0,qf 27 0 26,qf 28 4 27,ql 29 1 28,qm 30 0,qf 31 0 30,qf 32 0 31,qL 33 2 32,qm 34 0,qf 35 0 34,qf 36 2 35,qL 37 2 36,qm 38 1,qm 39 2,
 qc 40 (F "aZ") [.t 33,.t 37,.t 38,.t 39],qQp 41 (.buildSl 6 144 (.agg [.lst 1 [],.lst 3 [],.lst 1 [],.lst 1 [],.lst 1 [],.lst 1 []]) 1 [(0,.t 40)]),qp 42 6 144 29 41,
 qf 43 0 25,qf 44 4 43,qs 1 44 42]
def QHa:LL:=[qm 45 0,qf 46 0 45,qf 47 2 46,qf 48 1 47,ql 49 1 48,qm 50 2,qz 51 50,qd 52 3 49 51,qL 53 3 52,qa 6 [.int .i64 (0),.int .i64 (0),.int .i64 (0)],qs 3 6 53]
def QHb:LL:=[qf 54 0 6,ql 55 1 54,qm 56 1,qf 57 1 6,ql 58 1 57,qd 59 1 56 58,ql 60 1 59,qm 61 1,qf 62 2 6,ql 63 1 62,qd 64 1 61 63,ql 65 1 64,
 qu 66 [.int .i64 (0),.int .i64 (0),.int .i64 (0)] [(0,1,.t 55),(1,1,.t 60),(2,1,.t 65)],qa 7 [.int .i64 (0),.int .i64 (0),.int .i64 (0)],qs 3 7 66]
def QHc(F:Fn):LL:=[qm 67 0,qm 68 1,qm 69 2,qc 70 (F "a") [.t 69],qQp 71 (.buildSl 1 8 (.int .i64 (0)) 1 [(0,.k (.int .i64 (-1)))]),qp 72 1 8 70 71,
 qQp 73 (.call (F "H") [.t 67,.t 68,.t 72] [.mp,.rd,.rd])]
def QHd:LL:=[qm 74 0,qf 75 0 74,qf 76 0 75,qf 77 1 76,ql 78 1 77,qz 79 78,qi 80 0]
def QHe:LL:=[qo .lss 81 80 79]
def QHf:LL:=[qm 82 80,qd 83 3 78 80,qL 84 3 83,qa 9 [.int .i64 (0),.int .i64 (0),.int .i64 (0)],qm 8 82,qs 3 9 84]
def QHg(F:Fn):LL:=[qL 85 3 9,qL 86 3 7,qQp 87 (.eqA 3 false (.t 85) (.t 86)),qm 88 87,qg 88 true (qm 89 2),qg 88 true (qm 90 8),qg 88 true (qc 91 (F "b") [.t 89,.t 90]),qg 88 true (qv 92 91),
 qP 93 88 92]
def QHh(F:Fn):LL:=[qm 94 0,qm 95 1,qm 96 2,qc 97 (F "a") [.t 96],qm 98 8,qQp 99 (.buildSl 1 8 (.int .i64 (0)) 1 [(0,.t 98)]),qp 100 1 8 97 99,
 qQp 101 (.call (F "H") [.t 94,.t 95,.t 100] [.mp,.rd,.rd])]
def QHi:LL:=[qk .add 102 80 1,qm 80 102]
def Qc1(F:Fn):LC:=QQ [.reg QHe [0,1,2,7,78,79,80,81],.cond (.t 81) .skip (.exit 0),.block 1 (QQ [.reg QHf [0,1,2,7,8,9,78,79,80],.reg (QHg F) [0,1,2,7,8,78,79,80,93],.cond (.t 93) (.reg (QHh F) [0,1,2,7,78,79,80]) .skip]),.reg QHi [0,1,2,7,78,79,80]]
def Qe1(F:Fn):LC:=QQ [QQ [.reg QG7 [0,1,2,15],.cond (.t 15) .ret .skip],QQ [.reg QG8 [0,1,2,24],.cond (.t 24) (QQ [.dreg [(4,none,[],true),(15,none,[4],false),(16,none,[4],false)] (QG9 F) [0],.ret]) .skip],.reg QHa [0,1,2,6],.dreg [] QHb [0,1,2,7],.reg (QHc F) [0,1,2,7],.reg QHd [0,1,2,7,78,79,80],.block 0 (.loop [0,1,2,7,78,79,80] (Qc1 F))]
def QYR:Hints:=hOf [0] (Qe1 fun _=>0)
def QHj:LL:=[qm 6 0,qf 7 0 6,qf 8 4 7,ql 9 1 8,qz 10 9,qk .gtr 11 10 2000]
def QHk:LL:=[qm 12 1,qz 13 12,qm 14 0,qf 15 0 14,qf 16 2 15,qf 17 0 16,ql 18 1 17,qz 19 18,qo .eql 20 13 19]
def QHl(F:Fn):LL:=[qm 21 0,qm 22 1,qQp 23 (.call (F "H") [.t 21,.t 22,.k (.nl 0)] [.mp,.rd,.rd])]
def QHm(F:Fn):LL:=[qm 24 0,qm 25 1,qc 26 (F "a") [.t 25],qQp 27 (.buildSl 1 8 (.int .i64 (0)) 1 [(0,.k (.int .i64 (-1)))]),qp 28 1 8 26 27,
 qQp 29 (.call (F "E") [.t 24,.t 28] [.mp,.rd])]
def QHn:LL:=[qm 30 0,qf 31 0 30,qf 32 0 31,qf 33 0 32,ql 34 1 33,qz 35 34,qi 36 0]
def QHo:LL:=[qo .lss 37 36 35]
def QHp:LL:=[qm 38 36,qd 39 1 34 36,ql 40 1 39,qm 4 38,qm 5 40]
def QHq(F:Fn):LL:=[qm 41 5,qm 42 0,qf 43 0 42,qf 44 2 43,qf 45 0 44,ql 46 1 45,qm 47 1,qz 48 47,qd 49 1 46 48,ql 50 1 49,qo .eql 51 41 50,qm 52 51,qg 52 true (qm 53 1),qg 52 true (qm 54 4),
 qg 52 true (qc 55 (F "b") [.t 53,.t 54]),qg 52 true (qv 56 55),qP 57 52 56]
def QHr(F:Fn):LL:=[qm 58 0,qm 59 1,qc 60 (F "a") [.t 59],qm 61 4,qQp 62 (.buildSl 1 8 (.int .i64 (0)) 1 [(0,.t 61)]),qp 63 1 8 60 62,qQp 64 (.call (F "E") [.t 58,.t 63] [.mp,.rd])]
def QHs:LL:=[qk .add 65 36 1,qm 36 65]
def Qc2(F:Fn):LC:=QQ [.reg QHo [0,1,34,35,36,37],.cond (.t 37) .skip (.exit 0),.block 1 (QQ [.reg QHp [0,1,4,5,34,35,36],.reg (QHq F) [0,1,4,34,35,36,57],.cond (.t 57) (.reg (QHr F) [0,1,34,35,36]) .skip]),.reg QHs [0,1,34,35,36]]
def Qe2(F:Fn):LC:=QQ [QQ [.reg QHj [0,1,11],.cond (.t 11) .ret .skip],QQ [.reg QHk [0,1,20],.cond (.t 20) (QQ [.reg (QHl F) [0],.ret]) .skip],.reg (QHm F) [0,1],.reg QHn [0,1,34,35,36],.block 0 (.loop [0,1,34,35,36] (Qc2 F))]
def QYS:Hints:=hOf [0] (Qe2 fun _=>0)
def QHt:LL:=[qB 2 0,qB 3 1,qn 4 6,qi 5 0]
def QHu:LL:=[qL 10 2 2,qL 11 2 3,qQp 12 (.buildSl 2 48 (.agg [.lst 1 [],.lst 3 []]) 2 [(0,.t 10),(1,.t 11)]),qz 13 12,qi 14 0]
def QHv:LL:=[qo .lss 15 14 13]
def QHw:LL:=[qd 16 2 12 14,qL 17 2 16,qa 7 [.nl 1,.nl 3],qs 2 7 17]
def QHx(F:Fn):LL:=[qL 18 2 7,qc 19 (F "c") [.t 18],qm 8 19]
def QHy:LL:=[qm 20 8,qk .neq 21 20 0]
def QHz:LL:=[qm 22 8,qn 4 6,qm 5 22]
def QHA:LL:=[qk .add 23 14 1,qm 14 23]
def Qbg(F:Fn):LC:=QQ [.reg QHv [2,3,12,13,14,15],.cond (.t 15) .skip (.exit 0),.block 1 (QQ [.reg QHw [2,3,7,12,13,14],.reg (QHx F) [2,3,8,12,13,14],.reg QHy [2,3,8,12,13,14,21],.cond (.t 21) (QQ [.reg QHz [4,5],.ret]) .skip]),.reg QHA [2,3,12,13,14]]
def QHB:LL:=[qf 24 0 2,ql 25 1 24,qz 26 25,qf 27 0 3,ql 28 1 27,qz 29 28,qo .add 30 26 29,qk .gtr 31 30 40,qm 32 31,qg 32 false (qf 33 1 2),qg 32 false (ql 34 1 33),qg 32 false (qz 35 34),
 qg 32 false (qf 36 1 3),qg 32 false (ql 37 1 36),qg 32 false (qz 38 37),qg 32 false (qo .add 39 35 38),qg 32 false (qk .gtr 40 39 80),qQ 41 32 40]
def QHC:LL:=[qn 4 6,qi 5 3]
def QHD:LL:=[qL 42 2 2,qL 43 2 3,qu 44 [.nl 1,.nl 3,.nl 1,.nl 3,.nl 6] [(0,2,.t 42),(2,2,.t 43)],qB 45 44,qm 9 45]
def QHE(F:Fn):LL:=[qm 46 9,qQp 47 (.call (F "E") [.t 46,.k (.nl 0)] [.mp,.rd])]
def QHF:LL:=[qm 48 9,qf 49 0 48,qf 50 4 49,ql 51 1 50,qz 52 51,qk .gtr 53 52 2000]
def QHG:LL:=[qn 4 6,qi 5 3]
def QHH:LL:=[qm 54 9,qf 55 0 54,qf 56 4 55,ql 57 1 56,qm 4 57,qi 5 0]
def Qe3(F:Fn):LC:=QQ [.reg QHt [2,3],QQ [.reg QHu [2,3,12,13,14],.block 0 (.loop [2,3,12,13,14] (Qbg F))],QQ [.reg QHB [2,3,41],.cond (.t 41) (QQ [.reg QHC [4,5],.ret]) .skip],.reg QHD [9],.reg (QHE F) [9],QQ [.reg QHF [9,53],.cond (.t 53) (QQ [.reg QHG [4,5],.ret]) .skip],.reg QHH [4,5],.ret]
def QYT:Hints:=hOf [] (Qe3 fun _=>0)
abbrev Ov:=List Int×List Int
def ovC(b p:G)(o:Ov):D:=.agg [.lst 1 (QR (ovG b p o.1 o.2).n),.lst 3 (eds (ovG b p o.1 o.2).e),.lst 1 (QR (idM b).n),.lst 1 (QR (idM b).e),.lst 1 (QR (ovM b o.1 o.2).n),.lst 1 (QR (ovM b o.1 o.2).e)]
def ZO(b p:G)(l:List Ov):List D:=l.map (ovC b p)
attribute [go_sem] QGM QGN QGO QGP QGQ QGR QGS QGT QGU QGV QGW QGX QGY QGZ QG0 QG1 QG2 QG3 QG4 QG5 QG6 Qll QG7 QG8 QG9 QHa QHb QHc QHd QHe QHf QHg QHh QHi Qe1 QHj QHk QHl QHm QHn QHo QHp QHq QHr QHs Qe2 QHt QHu QHv QHw QHx QHy QHz QHA QHB QHC QHD QHE QHF QHG QHH Qe3
theorem Qlm(b p:G)(l:List Ov):(ZO b p l).length=l.length:=by simp [ZO]
theorem QYU(b p:G)(l:List Ov)(ns es:List Int):ZO b p l++[.agg [.lst 1 (QR (ovG b p ns es).n),.lst 3 (eds (ovG b p ns es).e),.lst 1 (QR (idM b).n),.lst 1 (QR (idM b).e),.lst 1 (QR (ovM b ns es).n),.lst 1 (QR (ovM b ns es).e)]]=ZO b p (l++[(ns,es)]):=by simp [ZO,ovC]
theorem QYV(b p:G):ZO b p []=[]:=rfl
instance:Inhabited Ov:=⟨([],[])⟩
theorem QYW{b p:G}{l:List Ov}{i:Nat}(h:i<l.length):(ZO b p l)[i]?=some (ovC b p (gt l (i:Int))):=by rw[Xc h];simp [ZO,h]
attribute [go_sem] Qlm
def eOv(b p:G)(ns:List Int):Nat→List Int→List Ov→List Ov
 |0,es,out=>if 2000<out.length then out else out++[(ns,es)]
 |k+1,es,out=>if 2000<out.length then out else (YU b.e.length).foldl (fun o n=>if Y7 b p ns es n then eOv b p ns k (es++[n]) o else o) out
def nOv(b p:G):Nat→List Int→List Ov→List Ov
 |0,ns,out=>if 2000<out.length then out else eOv b p ns p.e.length [] out
 |k+1,ns,out=>if 2000<out.length then out else (YU b.n.length).foldl (fun o n=>if Y6 b p ns n then nOv b p k (ns++[n]) o else o) out
def QaK(b p:G):Prop:=40<b.n.length+p.n.length∨80<b.e.length+p.e.length
instance (b p:G):Decidable (QaK b p):=inferInstanceAs (Decidable (_∨_))
def ovR(b p:G):List Ov×Int:=if QaK b p then ([],3) else if 2000<(Z1 b p).length then ([],3) else (Z1 b p,0)
def ovB(b p:G)(out:List Ov):D:=.box [.lst 1 (QR b.n),.lst 3 (eds b.e),.lst 1 (QR p.n),.lst 3 (eds p.e),.arr 6 (ZO b p out)]
section
variable (P:Program) (F:String→Nat)
def Qln:Prop:=∀(b p:G)(ns es:List Int),QX b=0→QX p=0→ns.length=p.n.length→es.length=p.e.length→
 FC P (F "aZ") [gD b,gD p,.lst 1 (QR ns),.lst 1 (QR es)] (.agg [.arr 1 (QR (ovG b p ns es).n),.arr 3 (eds (ovG b p ns es).e),.arr 1 (QR (idM b).n),.arr 1 (QR (idM b).e),.arr 1 (QR (ovM b ns es).n),.arr 1 (QR (ovM b ns es).e)]) []
def Qlo(n:Nat):Prop:=∀(b p:G)(ns es:List Int)(out:List Ov),QX b=0→QX p=0→ns.length=p.n.length→es.length+n=p.e.length→out.length≤2001→
 FC P (F "H") [ovB b p out,.lst 1 (QR ns),.lst 1 (QR es)] (.tup []) [(0,ovB b p (eOv b p ns n es out))]
def Qlp:Prop:=∀n,Qlo P F n
def Qlq(n:Nat):Prop:=∀(b p:G)(ns:List Int)(out:List Ov),QX b=0→QX p=0→ns.length+n=p.n.length→out.length≤2001→
 FC P (F "E") [ovB b p out,.lst 1 (QR ns)] (.tup []) [(0,ovB b p (nOv b p n ns out))]
def Qlr:Prop:=∀n,Qlq P F n
def Qls:Prop:=∀b p:G,QX b=0→QX p=0→FC P (F "aU") [gD b,gD p] (.tup [.lst 6 (ZO b p (ovR b p).1),.int .i64 (ovR b p).2]) []
end
section
theorem QYX{β:Type}(A B:List β)(M:Nat):(A.take M++B).take M=(A++B).take M:=by
 rw[List.take_append,List.take_append,List.take_take,Nat.min_self,Qj]
 rcases Nat.le_total M A.length with h|h
 ·rw[show M-min M A.length=0 by omega,show M-A.length=0 by omega]
 ·rw[show min M A.length=A.length by omega]
theorem Qlt{β γ:Type}{f:List β→γ→List β}{g:γ→List β}{M:Nat}(hf:∀o x,o.length≤M→f o x=(o++g x).take M):∀(l:List γ)(o:List β),o.length≤M→l.foldl f o=(o++l.flatMap g).take M
 |[],o,h=>by rw[List.foldl_nil,List.flatMap_nil,List.append_nil,QA h]
 |x::l,o,h=>by
  rw[List.foldl_cons,hf o x h,Qlt hf l _ (by rw[Qj];omega),List.flatMap_cons,←QC,QYX]
theorem Qe4{β:Type}{o:List β}(X:List β){M:Nat}(h:o.length=M):(o++X).take M=o:=by
 rw[List.take_append_of_le_length (by omega),QA (by omega)]
theorem Qlu(b p:G)(ns:List Int):∀(k:Nat)(es:List Int)(out:List Ov),out.length≤2001→eOv b p ns k es out=(out++(Zx (YU b.e.length) (Y7 b p ns) k es).map fun es=>(ns,es)).take 2001
 |0,es,out,h=>by
  simp only[eOv,Zx,List.map_cons,List.map_nil]
  split
  ·rw[Qe4 _ (by omega)]
  ·rw[QA (by simp;omega)]
 |k+1,es,out,h=>by
  simp only[eOv]
  split
  ·rw[Qe4 _ (by omega)]
  ·rw[Qlt (g:=fun n=>(if Y7 b p ns es n then Zx (YU b.e.length) (Y7 b p ns) k (es++[n]) else []).map fun es=>((ns,es):Ov)) (M:=2001) _ _ _ h]
   ·rw[Zx,List.map_flatMap]
   ·intro o n ho
    split
    ·exact Qlu b p ns k _ o ho
    ·rw[List.map_nil,List.append_nil,QA ho]
theorem Qlv(b p:G):∀(k:Nat)(ns:List Int)(out:List Ov),out.length≤2001→nOv b p k ns out=(out++(Zx (YU b.n.length) (Y6 b p) k ns).flatMap (QeO b p)).take 2001
 |0,ns,out,h=>by
  simp only[nOv,Zx,List.flatMap_cons,List.flatMap_nil,List.append_nil]
  split
  ·rw[Qe4 _ (by omega)]
  ·rw[Qlu _ _ _ _ _ _ h]
   rfl
 |k+1,ns,out,h=>by
  simp only[nOv]
  split
  ·rw[Qe4 _ (by omega)]
  ·rw[Qlt (g:=fun n=>(if Y6 b p ns n then Zx (YU b.n.length) (Y6 b p) k (ns++[n]) else []).flatMap (QeO b p)) (M:=2001) _ _ _ h]
   ·rw[Zx,List.flatMap_assoc]
   ·intro o n ho
    split
    ·exact Qlv b p k _ o ho
    ·rw[List.flatMap_nil,List.append_nil,QA ho]
theorem QHI(b p:G)(ns:List Int)(k:Nat)(es:List Int)(out:List Ov)(h:out.length≤2001):(eOv b p ns k es out).length≤2001:=by
 rw[Qlu _ _ _ _ _ _ h,Qj];omega
theorem Qlw(b p:G)(k:Nat)(ns:List Int)(out:List Ov)(h:out.length≤2001):(nOv b p k ns out).length≤2001:=by
 rw[Qlv _ _ _ _ _ h,Qj];omega
theorem Qlx{α:Type}[Inhabited α]:∀{l:List Int}{v:List α}{i:Nat},i<l.length→i<v.length→nwL (l.take (i+1)) v=nwL (l.take i) v++(if gt l (i:Int)<0 then [gt v (i:Int)] else [])
 |[],v,i,h,_=>by simp at h
 |k::l,[],i,_,h=>by simp at h
 |k::l,w::v,0,_,_=>by
  rw[Yx,Yx]
  simp only[List.take_succ_cons,List.take_zero,nwL]
  cases v<;>simp [nwL]
 |k::l,w::v,i+1,h1,h2=>by
  rw[X0,X0,List.take_succ_cons,List.take_succ_cons,nwL,nwL,Qlx (by simpa using h1) (by simpa using h2)]
  split<;>simp
theorem Qe5{α:Type}:∀{l:List Int}{v:List α}{n i:Nat},i<l.length→l.length≤v.length→Xy n (l.take (i+1))=Xy n (l.take i)++[if gt l (i:Int)<0 then ((n+(nwL (l.take i) v).length:Nat):Int) else gt l (i:Int)]
 |[],v,n,i,h,_=>by simp at h
 |k::l,[],n,i,_,h=>by simp at h
 |k::l,w::v,n,0,_,_=>by
  rw[Yx]
  simp only[List.take_succ_cons,List.take_zero,Xy,nwL,List.length_nil,Nat.add_zero,List.nil_append]
  split<;>rfl
 |k::l,w::v,n,i+1,h1,h2=>by
  rw[X0,List.take_succ_cons,List.take_succ_cons,Xy,Xy,nwL]
  split
  ·rw[Qe5 (v:=v) (by simpa using h1) (by simpa using h2)]
   simp only[List.cons_append,List.length_cons]
   rw[show n+1+(nwL (l.take i) v).length=n+((nwL (l.take i) v).length+1) by omega]
  ·rw[Qe5 (v:=v) (by simpa using h1) (by simpa using h2)]
   rfl
end
section
variable {P:Program} {F:String→Nat} {α:Type}
set_option maxRecDepth 100000 in
theorem QYY(hi:Qia P F)(hc:Qag P F)(he:QdW P F)(b p:G)(ns es:List Int)(vb:QX b=0)(vp:QX p=0)(l1:ns.length=p.n.length)(l2:es.length=p.e.length):
  W P (Qll F) (Done [.c 8 true 6] [] (.agg [.arr 1 (QR (ovG b p ns es).n),.arr 3 (eds (ovG b p ns es).e),.arr 1 (QR (idM b).n),.arr 1 (QR (idM b).e),.arr 1 (QR (ovM b ns es).n),.arr 1 (QR (ovM b ns es).e)]) []) (init [gD b,gD p,.lst 1 (QR ns),.lst 1 (QR es)]):=by
 refine QZ ?_
 have r1:=hi b
 unfold idE at r1
 rw[if_neg (by simp [vb])] at r1
 obtain⟨b1,b2,_⟩:=Q8 vb
 obtain⟨p1,p2,_,p4⟩:=Q8 vp
 have r2:=hc b.n (by omega)
 have r3:=he b.e (by omega)
 have i1:(idM b).n.length=b.n.length:=Xh _ _
 have i2:(idM b).e.length=b.e.length:=Xh _ _
 obtain⟨GN,hGN⟩:∃GN:Nat→List Int,∀i,b.n++nwL (ns.take i) p.n=GN i:=⟨_,fun _=>rfl⟩
 obtain⟨RN,hRN⟩:∃RN:Nat→List Int,∀i,Xy b.n.length (ns.take i)=RN i:=⟨_,fun _=>rfl⟩
 obtain⟨GE,hGE⟩:∃GE:Nat→List E,∀i,b.e++nwL (es.take i) (p.e.map (Ym (Xy b.n.length ns)))=GE i:=⟨_,fun _=>rfl⟩
 obtain⟨RE,hRE⟩:∃RE:Nat→List Int,∀i,Xy b.e.length (es.take i)=RE i:=⟨_,fun _=>rfl⟩
 have gN0:GN 0=b.n:=by rw[←hGN];cases p.n<;>simp [nwL]
 have rN0:RN 0=[]:=by rw[←hRN];rfl
 have gE0:GE 0=b.e:=by rw[←hGE];cases p.e<;>simp [nwL]
 have rE0:RE 0=[]:=by rw[←hRE];rfl
 have gNS:∀i:Nat,i<ns.length→GN (i+1)=if gt ns (i:Int)<0 then GN i++[gt p.n (i:Int)] else GN i:=fun i h=>by
  rw[←hGN,←hGN,Qlx h (by omega)]
  split<;>simp
 have rNS:∀i:Nat,i<ns.length→RN (i+1)=RN i++[if gt ns (i:Int)<0 then ((GN i).length:Int) else gt ns (i:Int)]:=fun i h=>by
  rw[←hRN,←hRN,Qe5 (v:=p.n) h (by omega),←hGN]
  simp
 have gES:∀i:Nat,i<es.length→GE (i+1)=if gt es (i:Int)<0 then GE i++[Ym (RN ns.length) (gt p.e (i:Int))] else GE i:=fun i h=>by
  rw[←hGE,←hGE,Qlx h (by simp;omega),JZ (by omega),←hRN,List.take_length]
  split<;>simp
 have rES:∀i:Nat,i<es.length→RE (i+1)=RE i++[if gt es (i:Int)<0 then ((GE i).length:Int) else gt es (i:Int)]:=fun i h=>by
  rw[←hRE,←hRE,Qe5 (v:=p.e.map (Ym (Xy b.n.length ns))) h (by simp;omega),←hGE]
  simp
 have gNl:∀i,(GN i).length≤b.n.length+p.n.length:=fun i=>by rw[←hGN,Ql];have:=QcV (ns.take i) p.n;omega
 have gEl:∀i,(GE i).length≤b.e.length+p.e.length:=fun i=>by
  rw[←hGE,Ql]
  have:=QcV (es.take i) (p.e.map (Ym (Xy b.n.length ns)))
  rw[Qv] at this
  omega
 have rNl:∀i:Nat,i≤ns.length→(RN i).length=i:=fun i h=>by rw[←hRN,JI,Qj];omega
 have rEl:∀i:Nat,i≤es.length→(RE i).length=i:=fun i h=>by rw[←hRE,JI,Qj];omega
 have f1:(ovG b p ns es).n=GN ns.length:=by rw[←hGN,List.take_length];rfl
 have f2:(ovG b p ns es).e=GE es.length:=by rw[←hGE,List.take_length];rfl
 have f3:(ovM b ns es).n=RN ns.length:=by rw[←hRN,List.take_length];rfl
 have f4:(ovM b ns es).e=RE es.length:=by rw[←hRE,List.take_length];rfl
 rw[f1,f2,f3,f4]
 have pb:=fun (i:Nat) (hi:i<p.e.length)=>YZ (p4 _ (gt_mem (l:=p.e) (j:=(i:Int)) (by omega) (by omega)))
 clear hGN hRN hGE hRE f1 f2 f3 f4 p4
 generalize idM b=im at*
 obtain⟨imn,ime⟩:=im
 obtain⟨bn,be⟩:=b
 obtain⟨pn,pe⟩:=p
 simp only[gD,mA] at*
 simp(disch:=omega)only[go_sem]
 refine QT r1 ?_
 simp(disch:=omega)only[go_sem]
 refine QT r2 ?_
 simp(disch:=omega)only[go_sem]
 refine QT r3 ?_
 simp(disch:=omega)only[go_sem]
 refine Q5 (fun i:Nat=>⟨[(3,.lst 1 (QR es)),(5,.pt 0 0),(8,.pt 7 0),(11,.pt 14 0),(31,.lst 1 (QR ns)),(32,.int .i64 ns.length),(33,.int .i64 i)],
  [(0,.box [.lst 1 (QR pn),.lst 3 (eds pe)]),(1,.arr 1 []),(2,.arr 3 []),(3,.arr 1 []),(4,.arr 1 []),(5,.arr 1 []),(6,.arr 1 []),(7,.box [.sl 1 0 0,.sl 2 0 0,.sl 3 0 0,.sl 4 0 0,.sl 5 0 0,.sl 6 0 0]),
   (8,.arr 1 (QR (GN i))),(9,.arr 3 (eds be)),(10,.arr 1 (QR imn)),(11,.arr 1 (QR ime)),(12,.arr 1 (QR (RN i))),(13,.arr 1 []),(14,.box [.sl 8 0 (GN i).length,.sl 9 0 be.length,.sl 10 0 imn.length,.sl 11 0 ime.length,.sl 12 0 (RN i).length,.sl 13 0 0])],15⟩) (fun i=>i≤ns.length) (fun i=>ns.length-i) 0 ?_ ?_ ?_
 ·simp(disch:=omega)only[go_sem,gN0,rN0]
  rfl
 ·simp
 ·intro i hi
  by_cases h:i<ns.length
  ·have g1:decide ((i:Int)<ns.length)=true:=Qd (by omega)
   have e1:=gNS i h
   have e2:=rNS i h
   have e3:=gNl i
   have e4:=rNl i (by omega)
   have hz:=YI (l:=ns) h
   have hy:=YI (l:=pn) (i:=i) (by omega)
   by_cases h2:gt ns (i:Int)<0
   ·have g2:decide (gt ns (i:Int)<0)=true:=Qd h2
    rw[if_pos h2] at e1 e2
    simp(disch:=omega)only[go_sem,QeZ,g1,hz,g2,hy]
    exact⟨i+1,by rw[e1,e2];simp,by omega,by omega⟩
   ·have g2:decide (gt ns (i:Int)<0)=false:=Qc h2
    rw[if_neg h2] at e1 e2
    simp(disch:=omega)only[go_sem,QeZ,g1,hz,g2]
    exact⟨i+1,by rw[e1,e2];simp,by omega,by omega⟩
  ·obtain rfl:i=ns.length:=by omega
   have g1:decide ((ns.length:Int)<ns.length)=false:=Qc (by omega)
   have e5:=gNl ns.length
   have e6:=rNl ns.length (Qf _)
   generalize GN ns.length=gn at*
   generalize RN ns.length=rn at*
   clear gNS rNS gNl rNl gN0 rN0
   simp(disch:=omega)only[go_sem,QeZ,g1]
   refine Q5 (fun i:Nat=>⟨[(5,.pt 0 0),(8,.pt 7 0),(11,.pt 14 0),(65,.lst 1 (QR es)),(66,.int .i64 es.length),(67,.int .i64 i)],
    [(0,.box [.lst 1 (QR pn),.lst 3 (eds pe)]),(1,.arr 1 []),(2,.arr 3 []),(3,.arr 1 []),(4,.arr 1 []),(5,.arr 1 []),(6,.arr 1 []),(7,.box [.sl 1 0 0,.sl 2 0 0,.sl 3 0 0,.sl 4 0 0,.sl 5 0 0,.sl 6 0 0]),
     (8,.arr 1 (QR gn)),(9,.arr 3 (eds (GE i))),(10,.arr 1 (QR imn)),(11,.arr 1 (QR ime)),(12,.arr 1 (QR rn)),(13,.arr 1 (QR (RE i))),(14,.box [.sl 8 0 gn.length,.sl 9 0 (GE i).length,.sl 10 0 imn.length,.sl 11 0 ime.length,.sl 12 0 rn.length,.sl 13 0 (RE i).length])],15⟩) (fun i=>i≤es.length) (fun i=>es.length-i) 0 ?_ ?_ ?_
   ·simp(disch:=omega)only[go_sem,gE0,rE0]
    rfl
   ·simp
   ·intro i hi
    by_cases h:i<es.length
    ·have g1:decide ((i:Int)<es.length)=true:=Qd (by omega)
     have e1:=gES i h
     have e2:=rES i h
     have e3:=gEl i
     have e4:=rEl i (by omega)
     have hz:=YI (l:=es) h
     by_cases h2:gt es (i:Int)<0
     ·have g2:decide (gt es (i:Int)<0)=true:=Qd h2
      rw[if_pos h2] at e1 e2
      have hy:=Qcn (l:=pe) (i:=i) (by omega)
      obtain⟨_,q2,q3⟩:=pb i (by omega)
      generalize gt pe (i:Int)=x at*
      obtain⟨xt,xf,xo⟩:=x
      simp only[Ym] at*
      have hf:=Zp (l:=rn) (j:=xf) q2.1 (by omega)
      have ho:=Zp (l:=rn) (j:=xo) q3.1 (by omega)
      simp(disch:=omega)only[go_sem,Qe0,g1,hz,g2,hy,hf,ho]
      exact⟨i+1,by rw[e1,e2];simp,by omega,by omega⟩
     ·have g2:decide (gt es (i:Int)<0)=false:=Qc h2
      rw[if_neg h2] at e1 e2
      simp(disch:=omega)only[go_sem,Qe0,g1,hz,g2]
      exact⟨i+1,by rw[e1,e2];simp,by omega,by omega⟩
    ·obtain rfl:i=es.length:=by omega
     have g1:decide ((es.length:Int)<es.length)=false:=Qc (by omega)
     simp(disch:=omega)only[go_sem,Qe0,g1]
     try rfl
theorem QHJ(n:Nat):(YU n).length=n+1:=by simp [YU,Xh]
theorem QYZ{n i:Nat}(h:i<n):gt (YU n) ((i:Int)+1)=i:=by
 rw[YU,show ((i:Int)+1)=((i+1:Nat):Int) by omega,X0,XN h]
def YG{β:Type}(f:List β→Int→List β)(n:Nat)(o:List β)(i:Nat):List β:=((YU n).take (i+1)).foldl f o
theorem QHK{β:Type}(f:List β→Int→List β)(n:Nat)(o:List β):YG f n o 0=f o (-1):=by simp [YG,YU]
theorem QHL{β:Type}(f:List β→Int→List β)(n:Nat)(o:List β){i:Nat}(h:i<n):YG f n o (i+1)=f (YG f n o i) i:=by
 rw[YG,Yk (by rw[QHJ];omega),List.foldl_append,show (((i+1:Nat)):Int)=(i:Int)+1 by omega,QYZ h]
 rfl
theorem QHM{β:Type}(f:List β→Int→List β)(n:Nat)(o:List β):YG f n o n=(YU n).foldl f o:=by
 rw[YG,QA (by rw[QHJ];omega)]
theorem Qe6(x y:E):(x=y)↔(x.t=y.t∧x.f=y.f∧x.o=y.o):=by
 obtain⟨a,b,c⟩:=x
 obtain⟨d,e,f⟩:=y
 simp
def Jh(b p:G)(ns:List Int)(n:Nat)(es:List Int)(o:List Ov)(k:Int):List Ov:=if Y7 b p ns es k then eOv b p ns n (es++[k]) o else o
def Ji(b p:G)(n:Nat)(ns:List Int)(o:List Ov)(k:Int):List Ov:=if Y6 b p ns k then nOv b p n (ns++[k]) o else o
set_option maxRecDepth 100000 in
theorem QY0(hg:Qln P F)(hc:Qag P F)(hn:JX P F)(n:Nat)(ih:∀m,m<n→Qlo P F m)(b p:G)(ns es:List Int)(out:List Ov)(vb:QX b=0)(vp:QX p=0)(h1:ns.length=p.n.length)(h2:es.length+n=p.e.length)(h5:out.length≤2001):
  W P (Qe1 F) (Done [] [0] (.tup []) [(0,ovB b p (eOv b p ns n es out))]) (init [ovB b p out,.lst 1 (QR ns),.lst 1 (QR es)]):=by
 refine QZ ?_
 obtain⟨b1,b2,_⟩:=Q8 vb
 obtain⟨p1,p2,_,p4⟩:=Q8 vp
 have rc:=hc es (by omega)
 cases n with
 |zero=>
  have hE:eOv b p ns 0 es out=if 2000<out.length then out else out++[(ns,es)]:=rfl
  generalize eOv b p ns 0 es out=Q at*
  have hcs:=QYU b p out ns es
  have rg:=hg b p ns es vb vp h1 (by omega)
  have sO:=Qlm b p out
  generalize ovM b ns es=om at*
  generalize ovG b p ns es=og at*
  generalize idM b=im at*
  obtain⟨omn,ome⟩:=om
  obtain⟨ogn,oge⟩:=og
  obtain⟨imn,ime⟩:=im
  obtain⟨bn,be⟩:=b
  obtain⟨pn,pe⟩:=p
  simp only[gD,gA,mA,ovB] at*
  by_cases c:2000<out.length
  ·rw[if_pos c] at hE
   have g1:decide ((2000:Int)<out.length)=true:=Qd (by omega)
   subst hE
   simp(disch:=omega)only[go_sem,g1]
   rfl
  ·rw[if_neg c] at hE
   subst hE
   have g1:decide ((2000:Int)<out.length)=false:=Qc (by omega)
   have g2:decide ((es.length:Int)=pe.length)=true:=Qd (by omega)
   simp(disch:=omega)only[go_sem,g1,g2]
   refine QT rg ?_
   simp(disch:=omega)only[go_sem,hcs]
   rfl
 |succ n=>
  have hE:eOv b p ns (n+1) es out=if 2000<out.length then out else YG (Jh b p ns n es) b.e.length out b.e.length:=by
   rw[QHM];rfl
  have a0:=QHK (Jh b p ns n es) b.e.length out
  have aS:=fun i (hi:i<b.e.length)=>QHL (Jh b p ns n es) b.e.length out hi
  have ok0:Y7 b p ns es (-1)=true:=by simp [Y7]
  rw[Jh,if_pos ok0] at a0
  have hlen:∀i,i≤b.e.length→(YG (Jh b p ns n es) b.e.length out i).length≤2001:=fun i=>by
   induction i with
   |zero=>intro _;rw[a0];exact QHI _ _ _ _ _ _ h5
   |succ i ihi=>
    intro hi
    rw[aS i (by omega),Jh]
    split
    ·exact QHI _ _ _ _ _ _ (ihi (by omega))
    ·exact ihi (by omega)
  have hr0:=ih n (by omega) b p ns (es++[-1]) out vb vp h1 (by simp;omega) h5
  rw[←a0] at hr0
  have hr:∀i:Nat,i<b.e.length→Y7 b p ns es i=true→FC P (F "H") [ovB b p (YG (Jh b p ns n es) b.e.length out i),.lst 1 (QR ns),.lst 1 (QR (es++[(i:Int)]))] (.tup []) [(0,ovB b p (YG (Jh b p ns n es) b.e.length out (i+1)))]:=fun i hi ho=>by
   rw[aS i hi,Jh,if_pos ho]
   exact ih n (by omega) b p ns (es++[(i:Int)]) _ vb vp h1 (by simp;omega) (hlen i (by omega))
  have hno:∀i:Nat,i<b.e.length→Y7 b p ns es i=false→YG (Jh b p ns n es) b.e.length out (i+1)=YG (Jh b p ns n es) b.e.length out i:=fun i hi ho=>by
   rw[aS i hi,Jh,if_neg (by simp [ho])]
  have hx:=YZ (p4 _ (gt_mem (l:=p.e) (j:=(es.length:Int)) (by omega) (by omega)))
  have hok:∀i:Nat,Y7 b p ns es i=((decide ((gt b.e (i:Int)).t=(gt p.e es.length).t)&&(decide ((gt b.e (i:Int)).f=gt ns (gt p.e es.length).f)&&decide ((gt b.e (i:Int)).o=gt ns (gt p.e es.length).o)))&&!decide ((i:Int)∈es)):=fun i=>by
   unfold Y7
   rw[show decide ((i:Int)<0)=false from Qc (by omega),Bool.false_or]
   congr 1
   rw[Bool.eq_iff_iff]
   simp only[Qi,Qk,Qe6,Ym]
  have rcn:=fun i:Int=>hn es i (by unfold QW;omega)
  generalize eOv b p ns (n+1) es out=Q at*
  generalize Y7 b p ns es=ok at*
  generalize YG (Jh b p ns n es) b.e.length out=acc at*
  clear ih hg hc hn a0 aS ok0 p4
  obtain⟨bn,be⟩:=b
  obtain⟨pn,pe⟩:=p
  have sO:=fun l=>Qlm ⟨bn,be⟩ ⟨pn,pe⟩ l
  simp only[ovB] at*
  by_cases c:2000<out.length
  ·rw[if_pos c] at hE
   have g1:decide ((2000:Int)<out.length)=true:=Qd (by omega)
   subst hE
   simp(disch:=omega)only[go_sem,g1]
   rfl
  ·rw[if_neg c] at hE
   subst hE
   have g1:decide ((2000:Int)<out.length)=false:=Qc (by omega)
   have g2:decide ((es.length:Int)=pe.length)=false:=Qc (by omega)
   have hy:=Qgm (l:=pe) (j:=(es.length:Int)) (by omega) (by omega)
   have hz:((es.length:Int)).toNat=es.length:=by simp
   rw[hz] at hy
   obtain⟨q1,q2,q3⟩:=hx
   generalize gt pe (es.length:Int)=x at*
   obtain⟨xt,xf,xo⟩:=x
   simp only at*
   have hf:=Zp (l:=ns) (j:=xf) q2.1 (by omega)
   have ho:=Zp (l:=ns) (j:=xo) q3.1 (by omega)
   simp(disch:=omega)only[go_sem,g1,g2,hy,hf,ho]
   refine QT rc ?_
   simp(disch:=omega)only[go_sem]
   refine JV hr0 ?_
   simp(disch:=omega)only[go_sem]
   refine Q5 (fun i:Nat=>⟨[(0,.pt 1 0),(1,.lst 1 (QR ns)),(2,.lst 1 (QR es)),(7,.pt 2 0),(78,.lst 3 (eds be)),(79,.int .i64 be.length),(80,.int .i64 i)],
    [(0,.arr 6 (ZO ⟨bn,be⟩ ⟨pn,pe⟩ (acc i))),(1,.box [.lst 1 (QR bn),.lst 3 (eds be),.lst 1 (QR pn),.lst 3 (eds pe),.sl 0 0 (acc i).length]),(2,.box [.int .i64 xt,.int .i64 (gt ns xf),.int .i64 (gt ns xo)])],3⟩) (fun i=>i≤be.length) (fun i=>be.length-i) 0 ?_ ?_ ?_
   ·simp(disch:=omega)only[go_sem]
    rfl
   ·simp
   ·intro i hi
    by_cases h:i<be.length
    ·have g1:decide ((i:Int)<be.length)=true:=Qd (by omega)
     have hoi:=hok i
     have hl1:=hlen i (by omega)
     have hl2:=hlen (i+1) (by omega)
     have hri:=hr i h
     have hni:=hno i h
     have hz:=Qcn (l:=be) h
     generalize gt be (i:Int)=y at*
     obtain⟨yt,yf,yo⟩:=y
     simp only at*
     cases he:(decide (yt=xt)&&(decide (yf=gt ns xf)&&decide (yo=gt ns xo))) with
     |false=>
      rw[he] at hoi
      have hni:=hni hoi
      simp(disch:=omega)only[go_sem,Qc1,g1,hz,he]
      exact⟨i+1,by simp [hni],by omega,by omega⟩
     |true=>
      rw[he,Bool.true_and] at hoi
      have q:=rcn i
      by_cases hm:(i:Int)∈es
      ·have d1:=Qd hm
       rw[d1] at hoi q
       have hni:=hni hoi
       simp(disch:=omega)only[go_sem,Qc1,g1,hz,he]
       refine QT q ?_
       simp(disch:=omega)only[go_sem]
       exact⟨i+1,by simp [hni],by omega,by omega⟩
      ·have d1:=Qc hm
       rw[d1] at hoi q
       have hri:=hri hoi
       simp(disch:=omega)only[go_sem,Qc1,g1,hz,he]
       refine QT q ?_
       simp(disch:=omega)only[go_sem]
       refine QT rc ?_
       simp(disch:=omega)only[go_sem]
       refine JV hri ?_
       simp(disch:=omega)only[go_sem]
       exact⟨i+1,by simp,by omega,by omega⟩
    ·obtain rfl:i=be.length:=by omega
     have g1:decide ((be.length:Int)<be.length)=false:=Qc (by omega)
     simp(disch:=omega)only[go_sem,Qc1,g1]
     rfl
set_option maxRecDepth 100000 in
theorem QY1(he:Qlp P F)(hc:Qag P F)(hn:JX P F)(n:Nat)(ih:∀m,m<n→Qlq P F m)(b p:G)(ns:List Int)(out:List Ov)(vb:QX b=0)(vp:QX p=0)(h2:ns.length+n=p.n.length)(h5:out.length≤2001):
  W P (Qe2 F) (Done [] [0] (.tup []) [(0,ovB b p (nOv b p n ns out))]) (init [ovB b p out,.lst 1 (QR ns)]):=by
 refine QZ ?_
 obtain⟨b1,b2,_⟩:=Q8 vb
 obtain⟨p1,p2,_,p4⟩:=Q8 vp
 have rc:=hc ns (by omega)
 cases n with
 |zero=>
  have hE:nOv b p 0 ns out=if 2000<out.length then out else eOv b p ns p.e.length [] out:=rfl
  have re:=he p.e.length b p ns [] out vb vp (by omega) (by simp) h5
  have re:=FC.nils (a:=[ovB b p out,.lst 1 (QR ns),.nl 0]) re (by simp [QaZ,QR])
  generalize nOv b p 0 ns out=Q at*
  generalize eOv b p ns p.e.length [] out=R at*
  obtain⟨bn,be⟩:=b
  obtain⟨pn,pe⟩:=p
  simp only[ovB] at*
  by_cases c:2000<out.length
  ·rw[if_pos c] at hE
   have g1:decide ((2000:Int)<out.length)=true:=Qd (by omega)
   subst hE
   simp(disch:=omega)only[go_sem,g1]
   rfl
  ·rw[if_neg c] at hE
   have g1:decide ((2000:Int)<out.length)=false:=Qc (by omega)
   have g2:decide ((ns.length:Int)=pn.length)=true:=Qd (by omega)
   subst hE
   simp(disch:=omega)only[go_sem,g1,g2]
   refine JV re ?_
   simp(disch:=omega)only[go_sem]
   rfl
 |succ n=>
  have hE:nOv b p (n+1) ns out=if 2000<out.length then out else YG (Ji b p n ns) b.n.length out b.n.length:=by
   rw[QHM];rfl
  have a0:=QHK (Ji b p n ns) b.n.length out
  have aS:=fun i (hi:i<b.n.length)=>QHL (Ji b p n ns) b.n.length out hi
  have ok0:Y6 b p ns (-1)=true:=by simp [Y6]
  rw[Ji,if_pos ok0] at a0
  have hlen:∀i,i≤b.n.length→(YG (Ji b p n ns) b.n.length out i).length≤2001:=fun i=>by
   induction i with
   |zero=>intro _;rw[a0];exact Qlw _ _ _ _ _ h5
   |succ i ihi=>
    intro hi
    rw[aS i (by omega),Ji]
    split
    ·exact Qlw _ _ _ _ _ (ihi (by omega))
    ·exact ihi (by omega)
  have hr0:=ih n (by omega) b p (ns++[-1]) out vb vp (by simp;omega) h5
  rw[←a0] at hr0
  have hr:∀i:Nat,i<b.n.length→Y6 b p ns i=true→FC P (F "E") [ovB b p (YG (Ji b p n ns) b.n.length out i),.lst 1 (QR (ns++[(i:Int)]))] (.tup []) [(0,ovB b p (YG (Ji b p n ns) b.n.length out (i+1)))]:=fun i hi ho=>by
   rw[aS i hi,Ji,if_pos ho]
   exact ih n (by omega) b p (ns++[(i:Int)]) _ vb vp (by simp;omega) (hlen i (by omega))
  have hno:∀i:Nat,i<b.n.length→Y6 b p ns i=false→YG (Ji b p n ns) b.n.length out (i+1)=YG (Ji b p n ns) b.n.length out i:=fun i hi ho=>by
   rw[aS i hi,Ji,if_neg (by simp [ho])]
  have hok:∀i:Nat,Y6 b p ns i=(decide (gt b.n (i:Int)=gt p.n ns.length)&&!decide ((i:Int)∈ns)):=fun i=>by
   unfold Y6
   rw[show decide ((i:Int)<0)=false from Qc (by omega),Bool.false_or]
  have rcn:=fun i:Int=>hn ns i (by unfold QW;omega)
  generalize nOv b p (n+1) ns out=Q at*
  generalize Y6 b p ns=ok at*
  generalize YG (Ji b p n ns) b.n.length out=acc at*
  clear ih he hc hn a0 aS ok0 p4
  obtain⟨bn,be⟩:=b
  obtain⟨pn,pe⟩:=p
  simp only[ovB] at*
  by_cases c:2000<out.length
  ·rw[if_pos c] at hE
   have g1:decide ((2000:Int)<out.length)=true:=Qd (by omega)
   subst hE
   simp(disch:=omega)only[go_sem,g1]
   rfl
  ·rw[if_neg c] at hE
   have g1:decide ((2000:Int)<out.length)=false:=Qc (by omega)
   subst hE
   have g2:decide ((ns.length:Int)=pn.length)=false:=Qc (by omega)
   have hy:=Zp (l:=pn) (j:=(ns.length:Int)) (by omega) (by omega)
   have hz:((ns.length:Int)).toNat=ns.length:=by simp
   rw[hz] at hy
   simp(disch:=omega)only[go_sem,g1,g2]
   refine QT rc ?_
   simp(disch:=omega)only[go_sem]
   refine JV hr0 ?_
   simp(disch:=omega)only[go_sem]
   refine Q5 (fun i:Nat=>⟨[(0,.pt 1 0),(1,.lst 1 (QR ns)),(34,.lst 1 (QR bn)),(35,.int .i64 bn.length),(36,.int .i64 i)],
    [(0,.arr 6 (ZO ⟨bn,be⟩ ⟨pn,pe⟩ (acc i))),(1,.box [.lst 1 (QR bn),.lst 3 (eds be),.lst 1 (QR pn),.lst 3 (eds pe),.sl 0 0 (acc i).length])],2⟩) (fun i=>i≤bn.length) (fun i=>bn.length-i) 0 ?_ ?_ ?_
   ·simp(disch:=omega)only[go_sem]
    rfl
   ·simp
   ·intro i hi
    by_cases h:i<bn.length
    ·have g1:decide ((i:Int)<bn.length)=true:=Qd (by omega)
     have hoi:=hok i
     have hl1:=hlen i (by omega)
     have hl2:=hlen (i+1) (by omega)
     have hri:=hr i h
     have hni:=hno i h
     have hz:=YI (l:=bn) h
     generalize gt bn (i:Int)=y at*
     cases he:decide (y=gt pn (ns.length:Int)) with
     |false=>
      rw[he] at hoi
      have hni:=hni hoi
      simp(disch:=omega)only[go_sem,Qc2,g1,hz,hy,he]
      exact⟨i+1,by simp [hni],by omega,by omega⟩
     |true=>
      rw[he,Bool.true_and] at hoi
      have q:=rcn i
      by_cases hm:(i:Int)∈ns
      ·have d1:=Qd hm
       rw[d1] at hoi q
       have hni:=hni hoi
       simp(disch:=omega)only[go_sem,Qc2,g1,hz,hy,he]
       refine QT q ?_
       simp(disch:=omega)only[go_sem]
       exact⟨i+1,by simp [hni],by omega,by omega⟩
      ·have d1:=Qc hm
       rw[d1] at hoi q
       have hri:=hri hoi
       simp(disch:=omega)only[go_sem,Qc2,g1,hz,hy,he]
       refine QT q ?_
       simp(disch:=omega)only[go_sem]
       refine QT rc ?_
       simp(disch:=omega)only[go_sem]
       refine JV hri ?_
       simp(disch:=omega)only[go_sem]
       exact⟨i+1,by simp,by omega,by omega⟩
    ·obtain rfl:i=bn.length:=by omega
     have g1:decide ((bn.length:Int)<bn.length)=false:=Qc (by omega)
     simp(disch:=omega)only[go_sem,Qc2,g1]
     rfl
set_option maxRecDepth 100000 in
theorem QY2(hv:Qad P F)(hn:Qlr P F)(b p:G)(vb:QX b=0)(vp:QX p=0):W P (Qe3 F) (DoneZ [.t 4,.t 5] [] (.tup [.lst 6 (ZO b p (ovR b p).1),.int .i64 (ovR b p).2]) []) (init [gD b,gD p]):=by
 refine ZH ?_
 obtain⟨b1,b2,_⟩:=Q8 vb
 obtain⟨p1,p2,_⟩:=Q8 vp
 have r1:=hv b
 have r2:=hv p
 rw[vb] at r1
 rw[vp] at r2
 have r3:=hn p.n.length b p [] [] vb vp (by simp) (by simp)
 have r3:=FC.nils (a:=[ovB b p [],.nl 0]) r3 (by simp [QaZ,QR])
 have hL:nOv b p p.n.length [] []=(Z1 b p).take 2001:=by
  rw[Qlv _ _ _ _ _ (by simp)]
  rfl
 have hl:=Qlw b p p.n.length [] [] (by simp)
 have e:ovR b p=if QaK b p then ([],3) else if 2000<(Z1 b p).length then ([],3) else (Z1 b p,0):=rfl
 have hbig:QaK b p↔(40<b.n.length+p.n.length∨80<b.e.length+p.e.length):=Iff.rfl
 have hlen:(nOv b p p.n.length [] []).length=min 2001 (Z1 b p).length:=by rw[hL,Qj]
 generalize ovR b p=R at*
 generalize nOv b p p.n.length [] []=N at*
 generalize Z1 b p=L at*
 obtain⟨bn,be⟩:=b
 obtain⟨pn,pe⟩:=p
 simp only[gD,ovB,QYV] at*
 have d0:decide ((0:Int)=0)=true:=rfl
 simp(disch:=omega)only[go_sem]
 have g0:decide (((0:Nat):Int)<((2:Nat):Int))=true:=rfl
 have g1:decide (((1:Nat):Int)<((2:Nat):Int))=true:=rfl
 have g2:decide (((2:Nat):Int)<((2:Nat):Int))=false:=rfl
 have x0:([.agg [.lst 1 (QR bn),.lst 3 (eds be)],.agg [.lst 1 (QR pn),.lst 3 (eds pe)]]:List D)[0]?=some (.agg [.lst 1 (QR bn),.lst 3 (eds be)]):=rfl
 have x1:([.agg [.lst 1 (QR bn),.lst 3 (eds be)],.agg [.lst 1 (QR pn),.lst 3 (eds pe)]]:List D)[1]?=some (.agg [.lst 1 (QR pn),.lst 3 (eds pe)]):=rfl
 have t0:((0:Nat):Int).toNat=0:=rfl
 have t1:((1:Nat):Int).toNat=1:=rfl
 have lt2:∀i:Nat,i≤2→i=0∨i=1∨i=2:=by omega
 refine Q5 (fun i:Nat=>⟨[(2,.pt 0 0),(3,.pt 1 0),(12,.sl 2 0 2),(13,.int .i64 ((2:Nat):Int)),(14,.int .i64 i)],
  [(0,.box [.lst 1 (QR bn),.lst 3 (eds be)]),(1,.box [.lst 1 (QR pn),.lst 3 (eds pe)]),(2,.arr 2 [.agg [.lst 1 (QR bn),.lst 3 (eds be)],.agg [.lst 1 (QR pn),.lst 3 (eds pe)]])],3⟩) (fun i=>i≤2) (fun i=>2-i) 0 ?_ ?_ ?_
 ·simp(disch:=omega)only[go_sem]
  rfl
 ·omega
 ·intro i hi
  rcases lt2 i hi with rfl|rfl|rfl
  ·simp(disch:=omega)only[go_sem,Qbg,g0,t0,x0]
   refine QT r1 ?_
   simp(disch:=omega)only[go_sem,d0]
   exact⟨1,by simp,by omega,by omega⟩
  ·simp(disch:=omega)only[go_sem,Qbg,g1,t1,x1]
   refine QT r2 ?_
   simp(disch:=omega)only[go_sem,d0]
   exact⟨2,by simp,by omega,by omega⟩
  ·by_cases h1:40<bn.length+pn.length
   ·have z1:decide ((40:Int)<(bn.length:Int)+pn.length)=true:=Qd (by omega)
    rw[if_pos (hbig.2 (.inl h1))] at e
    subst e
    simp(disch:=omega)only[go_sem,Qbg,g2,z1]
    rfl
   have z1:decide ((40:Int)<(bn.length:Int)+pn.length)=false:=Qc (by omega)
   by_cases h2:80<be.length+pe.length
   ·have z2:decide ((80:Int)<(be.length:Int)+pe.length)=true:=Qd (by omega)
    rw[if_pos (hbig.2 (.inr h2))] at e
    subst e
    simp(disch:=omega)only[go_sem,Qbg,g2,z1,z2]
    rfl
   have z2:decide ((80:Int)<(be.length:Int)+pe.length)=false:=Qc (by omega)
   rw[if_neg (fun h=>by rcases hbig.1 h with h|h<;>omega)] at e
   by_cases h3:2000<L.length
   ·rw[if_pos h3] at e
    subst e
    have z3:decide ((2000:Int)<N.length)=true:=Qd (by omega)
    simp(disch:=omega)only[go_sem,Qbg,g2,z1,z2]
    refine QT r3 ?_
    simp(disch:=omega)only[go_sem,z3]
    rfl
   ·rw[if_neg h3] at e
    subst e
    have z3:decide ((2000:Int)<N.length)=false:=Qc (by omega)
    rw[QA (by omega)] at hL
    subst hL
    simp(disch:=omega)only[go_sem,Qbg,g2,z1,z2]
    refine QT r3 ?_
    simp(disch:=omega)only[go_sem,z3]
end
def QHN:LL:=[qB 1 0,qb 2 false]
def QHO:LL:=[qf 3 2 1,ql 4 1 3,qz 5 4,qk .eql 6 5 0,qm 7 6,qg 7 true (qf 8 3 1),qg 7 true (ql 9 1 8),qg 7 true (qk .eql 10 9 0),qP 11 7 10,qm 12 11,qg 12 true (qf 13 4 1),
 qg 12 true (ql 14 1 13),qg 12 true (qz 15 14),qg 12 true (qk .eql 16 15 0),qP 17 12 16,qm 2 17]
def Qly(F:Fn):LC:=QQ [.reg QHN [1],.reg QHO [2],.ret]
def QHP:LL:=[qB 1 0,qb 2 false]
def QHQ(F:Fn):LL:=[qf 3 2 1,qf 4 0 3,ql 5 1 4,qz 6 5,qk .eql 7 6 0,qm 8 7,qg 8 true (qf 9 2 1),qg 8 true (qf 10 1 9),qg 8 true (ql 11 1 10),qg 8 true (qz 12 11),qg 8 true (qk .eql 13 12 0),qP 14 8 13,
 qm 15 14,qg 15 true (qf 16 4 1),qg 15 true (qf 17 0 16),qg 15 true (qf 18 0 17),qg 15 true (ql 19 1 18),qg 15 true (qz 20 19),qg 15 true (qk .eql 21 20 0),qP 22 15 21,qm 23 22,
 qg 23 true (qf 24 4 1),qg 23 true (qf 25 0 24),qg 23 true (qf 26 1 25),qg 23 true (ql 27 1 26),qg 23 true (qz 28 27),qg 23 true (qk .eql 29 28 0),qP 30 23 29,qm 31 30,
 qg 31 true (qf 32 4 1),qg 31 true (qL 33 5 32),qg 31 true (qc 34 (F "ay") [.t 33]),qP 35 31 34,qm 2 35]
def Qlz(F:Fn):LC:=QQ [.reg QHP [1],.reg (QHQ F) [2],.ret]
def QHR:LL:=[qB 1 0,qi 2 0]
def QHS:LL:=[qb 3 false]
def QHT:LL:=[qf 4 0 1,ql 5 1 4]
def QHU:LL:=[qk .eql 7 5 1,qm 6 7]
def QHV(F:Fn):LL:=[qf 8 1 1,ql 9 1 8,qz 10 9,qk .eql 11 10 0,qm 12 11,qg 12 true (qL 13 9 1),qg 12 true (qc 14 (F "V") [.t 13]),qP 15 12 14,qm 3 15]
def QHW:LL:=[qk .eql 17 5 2,qm 16 17]
def QHX(F:Fn):LL:=[qf 18 1 1,ql 19 1 18,qz 20 19,qk .eql 21 20 1,qm 22 21,qg 22 true (qL 23 9 1),qg 22 true (qc 24 (F "V") [.t 23]),qP 25 22 24,qm 3 25]
def QHY:LL:=[qk .eql 27 5 3,qm 26 27]
def QHZ:LL:=[qk .eql 28 5 4,qm 26 28]
def QH0(F:Fn):LL:=[qf 29 1 1,ql 30 1 29,qz 31 30,qk .gtr 32 31 0,qm 33 32,qg 33 true (qL 34 9 1),qg 33 true (qc 35 (F "V") [.t 34]),qP 36 33 35,qm 3 36]
def QH1:LL:=[qk .eql 38 5 5,qm 37 38]
def QH2:LL:=[qf 39 1 1,ql 40 1 39,qz 41 40,qk .eql 42 41 1,qm 3 42]
def QH3:LL:=[qm 43 3,qv 44 43]
def QH4:LL:=[qi 2 1]
def QH5(F:Fn):LL:=[qf 45 4 1,qL 46 5 45,qc 47 (F "ay") [.t 46],qv 48 47]
def QH6:LL:=[qi 2 8]
def QH7:LL:=[qi 2 0]
def QlA(F:Fn):LC:=QQ [.reg QHR [1],.reg QHS [1,3],QQ [.reg QHT [1,3,5],.block 0 (QQ [.reg QHU [1,3,5,6],.cond (.t 6) (.reg (QHV F) [1,3]) (QQ [.reg QHW [1,3,5,16],.cond (.t 16) (.reg (QHX F) [1,3]) (QQ [QQ [.reg QHY [1,3,5,26],.cond (.t 26) .skip (.reg QHZ [1,3,5,26])],.cond (.t 26) (.reg (QH0 F) [1,3]) (QQ [.reg QH1 [1,3,37],.cond (.t 37) (.reg QH2 [1,3]) .skip])])])])],QQ [.reg QH3 [1,44],.cond (.t 44) (QQ [.reg QH4 [2],.ret]) .skip],QQ [.reg (QH5 F) [48],.cond (.t 48) (QQ [.reg QH6 [2],.ret]) .skip],.reg QH7 [2],.ret]
def QH8:LL:=[qB 1 0,qi 2 0,qi 3 0]
def QH9:LL:=[qi 4 1,qi 5 0]
def QIa:LL:=[qf 10 1 1,ql 11 1 10,qz 12 11,qi 13 0]
def QIb:LL:=[qo .lss 14 13 12]
def QIc:LL:=[qd 15 9 11 13,qL 16 9 15,qa 7 [.int .i64 (0),.nl 9,.nl 1,.nl 1,.nl 1,.nl 3,.nl 4,.int .i64 (0),.nl 5],qs 9 7 16]
def QId(F:Fn):LL:=[qL 18 9 7,qc 19 (F "Y") [.t 18],qm 17 19,qx 20 17 0,qx 21 17 1,qm 8 20,qm 9 21]
def QIe:LL:=[qm 22 4,qm 23 8,qo .add 24 22 23,qm 25 5,qm 26 9,qQp 27 (.mx [.t 25,.t 26]),qm 4 24,qm 5 27]
def QIf:LL:=[qk .add 28 13 1,qm 13 28]
def Qe7(F:Fn):LC:=QQ [.reg QIb [1,4,5,11,12,13,14],.cond (.t 14) .skip (.exit 0),.block 1 (QQ [.reg QIc [1,4,5,7,11,12,13],.reg (QId F) [1,4,5,8,9,11,12,13],.reg QIe [1,4,5,11,12,13]]),.reg QIf [1,4,5,11,12,13]]
def QIg:LL:=[qf 29 0 1,ql 30 1 29,qk .eql 31 30 5]
def QIh:LL:=[qm 32 5,qk .add 33 32 1,qm 5 33]
def QIi:LL:=[qm 34 4,qm 35 5,qm 2 34,qm 3 35]
def QlB(F:Fn):LC:=QQ [.reg QH8 [1],.reg QH9 [1,4,5],QQ [.reg QIa [1,4,5,11,12,13],.block 0 (.loop [1,4,5,11,12,13] (Qe7 F))],QQ [.reg QIg [4,5,31],.cond (.t 31) (.reg QIh [4,5]) .skip],.reg QIi [2,3],.ret]
def QIj:LL:=[qB 1 0,qi 2 0]
def QIk(F:Fn):LL:=[qL 6 9 1,qc 7 (F "Y") [.t 6],qm 5 7,qx 8 5 0,qx 9 5 1,qm 3 8,qm 4 9]
def QIl:LL:=[qm 10 3,qk .gtr 11 10 2000,qm 12 11,qg 12 false (qm 13 4),qg 12 false (qk .gtr 14 13 3),qQ 15 12 14]
def QIm:LL:=[qi 2 3]
def QIn:LL:=[qi 2 0]
def QlC(F:Fn):LC:=QQ [.reg QIj [1],QQ [.reg (QIk F) [3,4],.reg QIl [15],.cond (.t 15) (QQ [.reg QIm [2],.ret]) .skip],.reg QIn [2],.ret]
def QIo:LL:=[qB 2 0,qB 3 1,qi 4 0]
def QIp(F:Fn):LL:=[qL 11 9 3,qc 12 (F "br") [.t 11],qm 5 12]
def QIq:LL:=[qm 13 5,qk .neq 14 13 0]
def QIr:LL:=[qm 15 5,qm 4 15]
def QIs:LL:=[qL 16 2 2,qa 6 [.nl 1,.nl 3],qs 2 6 16]
def QIt:LL:=[qf 17 0 3,ql 18 1 17,qk .eql 19 18 5]
def QIu:LL:=[qf 20 4 3,qf 21 0 20,qL 22 2 21,qs 2 6 22]
def QIv(F:Fn):LL:=[qL 23 2 2,qL 24 2 6,qf 25 2 3,qL 26 2 25,qc 27 (F "e") [.t 23,.t 24,.t 26],qm 7 27]
def QIw:LL:=[qm 28 7,qk .neq 29 28 0]
def QIx:LL:=[qm 30 7,qm 4 30]
def QIy(F:Fn):LL:=[qL 31 2 2,qL 32 2 6,qf 33 2 3,qL 34 2 33,qc 35 (F "W") [.t 31,.t 32,.t 34],qv 36 35]
def QIz:LL:=[qi 4 1]
def QIA:LL:=[qf 37 1 3,ql 38 1 37,qz 39 38,qi 40 0]
def QIB:LL:=[qo .lss 41 40 39]
def QIC:LL:=[qd 42 9 38 40,qL 43 9 42,qa 9 [.int .i64 (0),.nl 9,.nl 1,.nl 1,.nl 1,.nl 3,.nl 4,.int .i64 (0),.nl 5],qs 9 9 43]
def QID(F:Fn):LL:=[qL 44 2 6,qL 45 9 9,qc 46 (F "A") [.t 44,.t 45],qm 10 46]
def QIE:LL:=[qm 47 10,qk .neq 48 47 0]
def QIF:LL:=[qm 49 10,qm 4 49]
def QIG:LL:=[qk .add 50 40 1,qm 40 50]
def Qc3(F:Fn):LC:=QQ [.reg QIB [6,38,39,40,41],.cond (.t 41) .skip (.exit 0),.block 1 (QQ [.reg QIC [6,9,38,39,40],.reg (QID F) [6,10,38,39,40],.reg QIE [6,10,38,39,40,48],.cond (.t 48) (QQ [.reg QIF [4],.ret]) .skip]),.reg QIG [6,38,39,40]]
def QIH:LL:=[qi 4 0]
def QlD(F:Fn):LC:=QQ [.reg QIo [2,3],QQ [.reg (QIp F) [2,3,5],.reg QIq [2,3,5,14],.cond (.t 14) (QQ [.reg QIr [4],.ret]) .skip],.reg QIs [2,3,6],QQ [.reg QIt [2,3,6,19],.cond (.t 19) (QQ [.reg QIu [2,3,6],QQ [.reg (QIv F) [2,3,6,7],.reg QIw [2,3,6,7,29],.cond (.t 29) (QQ [.reg QIx [4],.ret]) .skip],.reg (QIy F) [3,6,36],.cond (.t 36) (QQ [.reg QIz [4],.ret]) .skip]) .skip],QQ [.reg QIA [6,38,39,40],.block 0 (.loop [6,38,39,40] (Qc3 F))],.reg QIH [4],.ret]
def QII:LL:=[qB 2 0,qB 3 1,qi 4 0]
def QIJ(F:Fn):LL:=[qL 7 2 2,qc 8 (F "c") [.t 7],qm 5 8]
def QIK:LL:=[qm 9 5,qk .neq 10 9 0]
def QIL:LL:=[qm 11 5,qm 4 11]
def QIM(F:Fn):LL:=[qL 12 2 2,qL 13 9 3,qc 14 (F "A") [.t 12,.t 13],qm 6 14]
def QIN:LL:=[qm 15 6,qk .neq 16 15 0]
def QIO:LL:=[qm 17 6,qm 4 17]
def QIP(F:Fn):LL:=[qL 18 9 3,qc 19 (F "bZ") [.t 18],qm 4 19]
def QlE(F:Fn):LC:=QQ [.reg QII [2,3],QQ [.reg (QIJ F) [2,3,5],.reg QIK [2,3,5,10],.cond (.t 10) (QQ [.reg QIL [4],.ret]) .skip],QQ [.reg (QIM F) [3,6],.reg QIN [3,6,16],.cond (.t 16) (QQ [.reg QIO [4],.ret]) .skip],.reg (QIP F) [4],.ret]
def QIQ:LL:=[qB 3 0,qB 4 1,qB 5 2,qi 6 0]
def QIR(F:Fn):LL:=[qL 8 2 3,qL 9 2 4,qL 10 2 5,qc 11 (F "e") [.t 8,.t 9,.t 10],qm 7 11]
def QIS:LL:=[qm 12 7,qk .neq 13 12 0]
def QIT:LL:=[qm 14 7,qm 6 14]
def QIU(F:Fn):LL:=[qL 15 2 3,qL 16 2 4,qL 17 2 5,qc 18 (F "W") [.t 15,.t 16,.t 17],qv 19 18]
def QIV:LL:=[qi 6 1]
def QIW:LL:=[qi 6 0]
def QlF(F:Fn):LC:=QQ [.reg QIQ [3,4,5],QQ [.reg (QIR F) [3,4,5,7],.reg QIS [3,4,5,7,13],.cond (.t 13) (QQ [.reg QIT [6],.ret]) .skip],QQ [.reg (QIU F) [19],.cond (.t 19) (QQ [.reg QIV [6],.ret]) .skip],.reg QIW [6],.ret]
def QIX:LL:=[qb 8 false]
def QIY:LL:=[qm 10 0,qz 11 10,qi 12 0]
def QIZ:LL:=[qo .lss 13 12 11]
def QI0:LL:=[qm 14 12,qm 9 14]
def QI1:LL:=[qm 15 1,qm 16 0,qm 17 9,qd 18 1 16 17,ql 19 1 18,qd 20 1 15 19,ql 21 1 20,qm 22 3,qm 23 2,qm 24 9,qd 25 1 23 24,ql 26 1 25,qd 27 1 22 26,ql 28 1 27,qo .neq 29 21 28]
def QI2:LL:=[qb 8 false]
def QI3:LL:=[qk .add 30 12 1,qm 12 30]
def Qe8:LC:=QQ [.reg QIZ [0,1,2,3,11,12,13],.cond (.t 13) .skip (.exit 0),.block 1 (QQ [.reg QI0 [0,1,2,3,9,11,12],.dreg [] QI1 [0,1,2,3,11,12,29],.cond (.t 29) (QQ [.reg QI2 [8],.ret]) .skip]),.reg QI3 [0,1,2,3,11,12]]
def QI4:LL:=[qb 8 true]
def QlG(F:Fn):LC:=QQ [.reg QIX [0,1,2,3],QQ [.reg QIY [0,1,2,3,11,12],.block 0 (.loop [0,1,2,3,11,12] Qe8)],.reg QI4 [8],.ret]
attribute [go_sem] QHN QHO Qly QHP QHQ Qlz QHR QHS QHT QHU QHV QHW QHX QHY QHZ QH0 QH1 QH2 QH3 QH4 QH5 QH6 QH7 QlA QH8 QH9 QIa QIb QIc QId QIe QIf QIg QIh QIi QlB QIj QIk QIl QIm QIn QlC QIo QIp QIq QIr QIs QIt QIu QIv QIw QIx QIy QIz QIA QIB QIC QID QIE QIF QIG QIH QlD QII QIJ QIK QIL QIM QIN QIO QIP QlE QIQ QIR QIS QIT QIU QIV QIW QlF QIX QIY QIZ QI0 QI1 QI2 QI3 QI4 QlG
section
variable (P:Program) (F:String→Nat)
def Qe9:Prop:=∀p:G,FC P (F "ay") [.agg [.lst 1 (QR p.n),.lst 3 (eds p.e),.lst 4 [],.int .i64 0,.lst 5 []]] (.bool true) []
def QlH:Prop:=∀(k:Int)(l:List Cnd),FC P (F "V") [.agg [.int .i64 k,.lst 9 (cds l),.lst 1 [],.lst 1 [],.lst 1 [],.lst 3 [],.lst 4 [],.int .i64 0,.lst 5 []]] (.bool true) []
def QlI:Prop:=∀c:Cnd,J6 c→FC P (F "br") [cnD c] (.int .i64 0) []
def QlJ(n:Nat):Prop:=∀c:Cnd,csz c=n→n≤1000000→FC P (F "Y") [cnD c] (.tup [.int .i64 (csz c),.int .i64 (cdp c)]) []
def QlK:Prop:=∀n,QlJ P F n
def QlL:Prop:=∀c:Cnd,csz c≤1000000→FC P (F "bZ") [cnD c] (.int .i64 (XV c)) []
def QlM(n:Nat):Prop:=∀(a:G)(c:Cnd),csz c=n→n≤1000000→QX a=0→Q3 a c→FC P (F "A") [gD a,cnD c] (.int .i64 0) []
def QlN:Prop:=∀n,QlM P F n
def Qc4:Prop:=∀(a:G)(c:Cnd),csz c≤1000000→QX a=0→Q3 a c→FC P (F "l") [gD a,cnD c] (.int .i64 (XV c)) []
def Qfa:Prop:=∀(a b:G)(m:Mo),Emb a b m→FC P (F "aI") [gD a,gD b,mD m] (.int .i64 0) []
def QlO:Prop:=∀a b c d:List Int,a.length≤1000→a.length≤c.length→(∀i:Nat,i<a.length→(0≤gt a (i:Int)∧gt a (i:Int)<b.length)∧(0≤gt c (i:Int)∧gt c (i:Int)<d.length))→
 FC P (F "x") [.lst 1 (QR a),.lst 1 (QR b),.lst 1 (QR c),.lst 1 (QR d)] (.bool (ZM a b c d)) []
end
section
variable {P:Program} {F:String→Nat} {α:Type}
theorem QY3(p:G):W P (Qly F) (Done [.t 2] [] (.bool true) []) (init [.agg [.lst 1 (QR p.n),.lst 3 (eds p.e),.lst 4 [],.int .i64 0,.lst 5 []]]):=by
 refine QZ ?_
 have d:decide (((0:Nat):Int)=0)=true:=rfl
 have d0:decide ((0:Int)=0)=true:=rfl
 simp(disch:=omega)only[go_sem,d,d0]
 try rfl
theorem QY4(hp:Qe9 P F)(k:Int)(l:List Cnd):W P (Qlz F) (Done [.t 2] [] (.bool true) []) (init [.agg [.int .i64 k,.lst 9 (cds l),.lst 1 [],.lst 1 [],.lst 1 [],.lst 3 [],.lst 4 [],.int .i64 0,.lst 5 []]]):=by
 refine QZ ?_
 have r:=hp g0
 simp only[g0] at r
 have d:decide (((0:Nat):Int)=0)=true:=rfl
 have d0:decide ((0:Int)=0)=true:=rfl
 simp(disch:=omega)only[go_sem,d,d0]
 refine QT r ?_
 simp(disch:=omega)only[go_sem]
theorem QY5(hb:QlH P F)(hp:Qe9 P F)(c:Cnd)(hs:J6 c):W P (QlA F) (Done [.t 2] [] (.int .i64 0) []) (init [cnD c]):=by
 refine QZ ?_
 rw[Q4]
 have r:=hb (Q9 c) (QU c)
 have q:=hp (Xk c)
 have n0:decide (((0:Nat):Int)=0)=true:=rfl
 have n1:decide (((1:Nat):Int)=1)=true:=rfl
 cases c with
 |tt=>
  simp only[Q9,QU,Xn,Xk,m0,g0,Qk6] at*
  have d1:decide ((1:Int)=1)=true:=rfl
  simp(disch:=omega)only[go_sem,d1,n0]
  refine QT r ?_
  simp(disch:=omega)only[go_sem]
  refine QT q ?_
  simp(disch:=omega)only[go_sem]
 |no c=>
  simp only[Q9,QU,Xn,Xk,m0,g0,Qbd] at*
  have d1:decide ((2:Int)=1)=false:=rfl
  have d2:decide ((2:Int)=2)=true:=rfl
  simp(disch:=omega)only[go_sem,d1,d2,n1]
  refine QT r ?_
  simp(disch:=omega)only[go_sem]
  refine QT q ?_
  simp(disch:=omega)only[go_sem]
 |an l=>
  simp only[Q9,QU,Xn,Xk,m0,g0,J6] at*
  have d1:decide ((3:Int)=1)=false:=rfl
  have d2:decide ((3:Int)=2)=false:=rfl
  have d3:decide ((3:Int)=3)=true:=rfl
  have d4:decide ((0:Int)<(l.length:Int))=true:=Qd (by cases l with|nil=>exact absurd rfl hs|cons a l=>simp)
  simp(disch:=omega)only[go_sem,d1,d2,d3,d4]
  refine QT r ?_
  simp(disch:=omega)only[go_sem]
  refine QT q ?_
  simp(disch:=omega)only[go_sem]
 |or l=>
  simp only[Q9,QU,Xn,Xk,m0,g0,J6] at*
  have d1:decide ((4:Int)=1)=false:=rfl
  have d2:decide ((4:Int)=2)=false:=rfl
  have d3:decide ((4:Int)=3)=false:=rfl
  have d5:decide ((4:Int)=4)=true:=rfl
  have d4:decide ((0:Int)<(l.length:Int))=true:=Qd (by cases l with|nil=>exact absurd rfl hs|cons a l=>simp)
  simp(disch:=omega)only[go_sem,d1,d2,d3,d4,d5]
  refine QT r ?_
  simp(disch:=omega)only[go_sem]
  refine QT q ?_
  simp(disch:=omega)only[go_sem]
 |ex m p c=>
  simp only[Q9,QU,Xn,Xk,m0,g0,Qbd] at*
  have d1:decide ((5:Int)=1)=false:=rfl
  have d2:decide ((5:Int)=2)=false:=rfl
  have d3:decide ((5:Int)=3)=false:=rfl
  have d4:decide ((5:Int)=4)=false:=rfl
  have d5:decide ((5:Int)=5)=true:=rfl
  simp(disch:=omega)only[go_sem,d1,d2,d3,d4,d5,n1]
  refine QT q ?_
  simp(disch:=omega)only[go_sem]
set_option maxRecDepth 100000 in
theorem QY6(n:Nat)(ih:∀m,m<n→QlJ P F m)(c:Cnd)(hc:csz c=n)(hn:n≤1000000):W P (QlB F) (Done [.t 2,.t 3] [] (.tup [.int .i64 (csz c),.int .i64 (cdp c)]) []) (init [cnD c]):=by
 refine QZ ?_
 have e1:=JA c
 have e2:=Qk8 c
 have e3:=QeX c
 have hl:=Qal (QU c)
 have hk:∀i:Nat,i<(QU c).length→FC P (F "Y") [cnD (gt (QU c) (i:Int))] (.tup [.int .i64 (csz (gt (QU c) (i:Int))),.int .i64 (cdp (gt (QU c) (i:Int)))]) []:=fun i hi=>by
  have:=J5 hi
  exact ih _ (by omega) _ rfl (by omega)
 have sS:=fun i hi=>Qk9 (l:=QU c) (i:=i) hi
 have dS:=fun i hi=>QGK (l:=QU c) (i:=i) hi
 have sL:=Qla (QU c)
 have kL:=fun (i:Nat) hi=>J5 (l:=QU c) (i:=i) hi
 have kD:=fun (i:Nat)=>QeX (gt (QU c) (i:Int))
 have s0:Xu ((QU c).take 0)=0:=rfl
 have d0:Ya ((QU c).take 0)=0:=rfl
 have sN:Xu ((QU c).take (QU c).length)=Xu (QU c):=by rw[List.take_length]
 have dN:Ya ((QU c).take (QU c).length)=Ya (QU c):=by rw[List.take_length]
 rw[Q4]
 generalize csz c=S at*
 generalize cdp c=T at*
 generalize Q9 c=k at*
 generalize (Xn c).n=mn at*
 generalize (Xn c).e=me at*
 generalize (Xk c).n=pn at*
 generalize (Xk c).e=pe at*
 generalize Xu (QU c)=A at*
 generalize Ya (QU c)=B at*
 generalize QU c=l at*
 obtain⟨sA,hsA⟩:∃sA:Nat→Nat,∀i,Xu (l.take i)=sA i:=⟨_,fun _=>rfl⟩
 obtain⟨dA,hdA⟩:∃dA:Nat→Nat,∀i,Ya (l.take i)=dA i:=⟨_,fun _=>rfl⟩
 simp only[hsA,hdA] at*
 clear hsA hdA
 simp(disch:=omega)only[go_sem]
 refine Q5 (fun i:Nat=>⟨[(1,.pt 0 0),(4,.int .i64 ((sA i:Int)+1)),(5,.int .i64 (dA i)),(11,.lst 9 (cds l)),(12,.int .i64 l.length),(13,.int .i64 i)],[(0,.box [.int .i64 k,.lst 9 (cds l),.lst 1 (QR mn),.lst 1 (QR me),.lst 1 (QR pn),.lst 3 (eds pe),.lst 4 [],.int .i64 0,.lst 5 []])],1⟩) (fun i=>i≤l.length) (fun i=>l.length-i) 0 ?_ ?_ ?_
 ·simp(disch:=omega)only[go_sem,s0,d0]
  rfl
 ·simp
 ·intro i hi
  by_cases h:i<l.length
  ·have g1:decide ((i:Int)<l.length)=true:=Qd (by omega)
   have r:=hk i h
   rw[Q4] at r
   have:=sS i h
   have:=dS i h
   have:=sL i
   have:=sL (i+1)
   have:=kL i h
   have:=kD i
   generalize csz (gt l (i:Int))=u at*
   generalize cdp (gt l (i:Int))=w at*
   simp(disch:=omega)only[go_sem,Qe7,g1]
   refine QT r ?_
   simp(disch:=omega)only[go_sem]
   exact⟨i+1,by simp;omega,by omega,by omega⟩
  ·obtain rfl:i=l.length:=by omega
   have g1:decide ((l.length:Int)<l.length)=false:=Qc (by omega)
   by_cases hk5:k=5
   ·have g2:decide (k=5)=true:=Qd hk5
    rw[if_pos hk5] at e2
    simp(disch:=omega)only[go_sem,Qe7,g1,g2]
    simp;omega
   ·have g2:decide (k=5)=false:=Qc hk5
    rw[if_neg hk5] at e2
    simp(disch:=omega)only[go_sem,Qe7,g1,g2]
    simp;omega
theorem QY7(hs:QlK P F)(c:Cnd)(h:csz c≤1000000):W P (QlC F) (Done [.t 2] [] (.int .i64 (XV c)) []) (init [cnD c]):=by
 refine QZ ?_
 have r:=hs _ c rfl h
 have e:XV c=if csz c≤2000∧cdp c≤3 then 0 else 3:=rfl
 rw[Q4] at r ⊢
 generalize XV c=E at*
 generalize csz c=A at*
 generalize cdp c=B at*
 by_cases h1:A≤2000
 ·have g1:decide ((2000:Int)<A)=false:=Qc (by omega)
  by_cases h2:B≤3
  ·have g2:decide ((3:Int)<B)=false:=Qc (by omega)
   rw[if_pos ⟨h1,h2⟩] at e
   subst e
   simp(disch:=omega)only[go_sem]
   refine QT r ?_
   simp(disch:=omega)only[go_sem,g1,g2]
  ·have g2:decide ((3:Int)<B)=true:=Qd (by omega)
   rw[if_neg (by omega)] at e
   subst e
   simp(disch:=omega)only[go_sem]
   refine QT r ?_
   simp(disch:=omega)only[go_sem,g1,g2]
 ·have g1:decide ((2000:Int)<A)=true:=Qd (by omega)
  rw[if_neg (by omega)] at e
  subst e
  simp(disch:=omega)only[go_sem]
  refine QT r ?_
  simp(disch:=omega)only[go_sem,g1]
theorem QlP{a b:G}{m:Mo}(hm:Emb a b m):Zr a b m=true:=by
 unfold Zr
 rw[mok.2 hm.ok]
 simp only[decide_true,Bool.true_and,Qi]
 exact⟨Qd hm.nn,Qd hm.ne⟩
theorem QY8(hs:QlI P F)(hv:QaA P F)(hj:QcA P F)(n:Nat)(ih:∀m,m<n→QlM P F m)(a:G)(c:Cnd)(hc:csz c=n)(hn:n≤1000000)(va:QX a=0)(ho:Q3 a c):
  W P (QlD F) (Done [.t 4] [] (.int .i64 0) []) (init [gD a,cnD c]):=by
 refine QZ ?_
 have e1:=JA c
 have hl:=Qal (QU c)
 have hl2:(QU c).length≤1000000:=by omega
 have rs:=hs c (by cases c<;>simp only[Q3,J6] at ho ⊢<;>exact ho.1)
 obtain⟨x,hx⟩:∃x,x=if Q9 c=5 then Xk c else a:=⟨_,rfl⟩
 have hov:∀i:Nat,i<(QU c).length→QX x=0∧Q3 x (gt (QU c) (i:Int)):=fun i hi=>by
  have hm:=gt_mem (l:=QU c) (j:=(i:Int)) (by omega) (by omega)
  cases c
  case tt=>simp [QU] at hi
  case no c=>
   have hm':gt (QU (.no c)) (i:Int)=c:=by simpa only[QU,Qn] using hm
   have hx':x=a:=hx
   rw[hm',hx']
   exact⟨va,by simpa only[Q3] using ho⟩
  case an l=>
   have hx':x=a:=hx
   simp only[Q3,Ju,QU] at ho hm
   rw[hx']
   exact⟨va,ho.2 _ hm⟩
  case or l=>
   have hx':x=a:=hx
   simp only[Q3,Ju,QU] at ho hm
   rw[hx']
   exact⟨va,ho.2 _ hm⟩
  case ex m p d=>
   have hm':gt (QU (.ex m p d)) (i:Int)=d:=by simpa only[QU,Qn] using hm
   have hx':x=p:=hx
   simp only[Q3] at ho
   rw[hm',hx']
   exact⟨ho.1.ok.vb,ho.2⟩
 have hk:∀i:Nat,i<(QU c).length→FC P (F "A") [gD x,cnD (gt (QU c) (i:Int))] (.int .i64 0) []:=fun i hi=>by
  have:=J5 hi
  exact ih _ (by omega) _ _ rfl (by omega) (hov i hi).1 (hov i hi).2
 have d0:decide ((0:Int)=0)=true:=rfl
 have loop:∀(l:List Cnd)(xn:List Int)(xe:List E),l.length≤1000000→(∀i:Nat,i<l.length→FC P (F "A") [.agg [.lst 1 (QR xn),.lst 3 (eds xe)],cnD (gt l (i:Int))] (.int .i64 0) [])→True:=fun _ _ _ _ _=>trivial
 by_cases h5:∃m p d,c=.ex m p d
 ·obtain⟨m,p,d,rfl⟩:=h5
  simp only[Q3] at ho
  obtain⟨hm,hd⟩:=ho
  have r1:=hv a p m
  rw[mok.2 hm.ok] at r1
  have l1:=hm.ok.ln
  have l2:=hm.ok.le
  obtain⟨v1,v2,_⟩:=Q8 va
  have r2:=hj a p m
  rw[QlP hm] at r2
  have hx':p=x:=hx.symm
  clear hx
  subst hx'
  have k0:=hk 0 (by simp [QU])
  have hg:gt (QU (.ex m p d)) ((0:Nat):Int)=d:=rfl
  rw[hg,Q4] at k0
  rw[Q4] at rs ⊢
  have hz:=Qbe (l:=[d]) (by simp)
  have hg:gt [d] 0=d:=rfl
  rw[hg] at hz
  clear ih e1 hl hl2 hc l1 l2 v1 v2 hm hd hv hj hs va hov hk loop
  simp only[Q9,QU,Xn,Xk] at*
  obtain⟨an,ae⟩:=a
  obtain⟨mn,me⟩:=m
  obtain⟨pn,pe⟩:=p
  simp only[gD,mD] at*
  have d5:decide ((5:Int)=5)=true:=rfl
  simp(disch:=omega)only[go_sem,d0,d5]
  refine QT rs ?_
  simp(disch:=omega)only[go_sem,d0,d5]
  refine QT r1 ?_
  simp(disch:=omega)only[go_sem,d0]
  refine QT r2 ?_
  simp(disch:=omega)only[go_sem]
  refine Q5 (fun i:Nat=>⟨[(6,.pt 0 0),(38,.lst 9 (cds [d])),(39,.int .i64 ((1:Nat):Int)),(40,.int .i64 i)],[(0,.box [.lst 1 (QR pn),.lst 3 (eds pe)])],1⟩) (fun i=>i≤1) (fun i=>1-i) 0 ?_ ?_ ?_
  ·simp(disch:=omega)only[go_sem]
   rfl
  ·omega
  ·intro i hi
   have lt2:i=0∨i=1:=by omega
   rcases lt2 with rfl|rfl
   ·have g1:decide (((0:Nat):Int)<((1:Nat):Int))=true:=rfl
    have t0:((0:Nat):Int).toNat=0:=rfl
    simp(disch:=omega)only[go_sem,Qc3,g1,t0,hz]
    refine QT k0 ?_
    simp(disch:=omega)only[go_sem,d0]
    exact⟨1,by simp,by omega,by omega⟩
   ·have g1:decide (((1:Nat):Int)<((1:Nat):Int))=false:=rfl
    simp(disch:=omega)only[go_sem,Qc3,g1]
 ·have hk5:Q9 c≠5:=fun h=>h5 (by cases c<;>simp [Q9] at h;exact⟨_,_,_,rfl⟩)
  rw[if_neg hk5] at hx
  subst hx
  rw[Q4] at rs ⊢
  clear ih e1 hc hs hv hj hov h5 ho loop
  generalize Q9 c=k at*
  generalize (Xn c).n=mn at*
  generalize (Xn c).e=me at*
  generalize (Xk c).n=pn at*
  generalize (Xk c).e=pe at*
  generalize Xu (QU c)=A at*
  generalize QU c=l at*
  obtain⟨an,ae⟩:=x
  simp only[gD] at*
  have d5:decide (k=5)=false:=Qc hk5
  simp(disch:=omega)only[go_sem,d0,d5]
  refine QT rs ?_
  simp(disch:=omega)only[go_sem,d0,d5]
  refine Q5 (fun i:Nat=>⟨[(6,.pt 0 0),(38,.lst 9 (cds l)),(39,.int .i64 l.length),(40,.int .i64 i)],[(0,.box [.lst 1 (QR an),.lst 3 (eds ae)])],1⟩) (fun i=>i≤l.length) (fun i=>l.length-i) 0 ?_ ?_ ?_
  ·simp(disch:=omega)only[go_sem]
   rfl
  ·simp
  ·intro i hi
   by_cases h:i<l.length
   ·have g1:decide ((i:Int)<l.length)=true:=Qd (by omega)
    have r:=hk i h
    rw[Q4] at r
    simp(disch:=omega)only[go_sem,Qc3,g1]
    refine QT r ?_
    simp(disch:=omega)only[go_sem,d0]
    exact⟨i+1,by simp,by omega,by omega⟩
   ·obtain rfl:i=l.length:=by omega
    have g1:decide ((l.length:Int)<l.length)=false:=Qc (by omega)
    simp(disch:=omega)only[go_sem,Qc3,g1]
theorem QY9(h5:Qad P F)(ho:QlN P F)(hl:QlL P F)(a:G)(c:Cnd)(h:csz c≤1000000)(va:QX a=0)(hov:Q3 a c):W P (QlE F) (Done [.t 4] [] (.int .i64 (XV c)) []) (init [gD a,cnD c]):=by
 refine QZ ?_
 have r1:=h5 a
 rw[va] at r1
 have r2:=ho _ a c rfl h va hov
 have r3:=hl c h
 rw[Q4] at r2 r3 ⊢
 obtain⟨an,ae⟩:=a
 simp only[gD] at*
 have d0:decide ((0:Int)=0)=true:=rfl
 simp(disch:=omega)only[go_sem]
 refine QT r1 ?_
 simp(disch:=omega)only[go_sem,d0]
 refine QT r2 ?_
 simp(disch:=omega)only[go_sem,d0]
 refine QT r3 ?_
 simp(disch:=omega)only[go_sem]
theorem QZa(hv:QaA P F)(hj:QcA P F)(a b:G)(m:Mo)(hm:Emb a b m):W P (QlF F) (Done [.t 6] [] (.int .i64 0) []) (init [gD a,gD b,mD m]):=by
 refine QZ ?_
 have r1:=hv a b m
 rw[mok.2 hm.ok] at r1
 have l1:=hm.ok.ln
 have l2:=hm.ok.le
 obtain⟨v1,v2,_⟩:=Q8 hm.ok.va
 have r2:=hj a b m
 rw[QlP hm] at r2
 obtain⟨an,ae⟩:=a
 obtain⟨bn,be⟩:=b
 obtain⟨mn,me⟩:=m
 simp only[gD,mD] at*
 have d0:decide ((0:Int)=0)=true:=rfl
 simp(disch:=omega)only[go_sem]
 refine QT r1 ?_
 simp(disch:=omega)only[go_sem,d0]
 refine QT r2 ?_
 simp(disch:=omega)only[go_sem]
theorem QZb(a b c d:List Int)(h1:a.length≤1000)(h2:a.length≤c.length)(h3:∀i:Nat,i<a.length→(0≤gt a (i:Int)∧gt a (i:Int)<b.length)∧(0≤gt c (i:Int)∧gt c (i:Int)<d.length)):
  W P (QlG F) (Done [.t 8] [] (.bool (ZM a b c d)) []) (init [.lst 1 (QR a),.lst 1 (QR b),.lst 1 (QR c),.lst 1 (QR d)]):=by
 refine QZ ?_
 have eA:ZM a b c d=(List.range a.length).all fun i=>decide (gt b (gt a (i:Int))=gt d (gt c (i:Int))):=rfl
 generalize ZM a b c d=Z at*
 simp(disch:=omega)only[go_sem]
 refine Q5 (fun i:Nat=>⟨[(0,.lst 1 (QR a)),(1,.lst 1 (QR b)),(2,.lst 1 (QR c)),(3,.lst 1 (QR d)),(11,.int .i64 a.length),(12,.int .i64 i)],[],0⟩) (fun i=>i≤a.length∧∀k:Nat,k<i→gt b (gt a (k:Int))=gt d (gt c (k:Int))) (fun i=>a.length-i) 0 ?_ ?_ ?_
 ·simp(disch:=omega)only[go_sem]
  rfl
 ·simp
 ·rintro i ⟨hi,hk⟩
  by_cases h:i<a.length
  ·have g1:decide ((i:Int)<a.length)=true:=Qd (by omega)
   obtain⟨⟨q1,q2⟩,q3,q4⟩:=h3 i h
   have z1:=YI (l:=a) h
   have z2:=YI (l:=c) (i:=i) (by omega)
   have z3:=Zp (l:=b) q1 q2
   have z4:=Zp (l:=d) q3 q4
   by_cases e:gt b (gt a (i:Int))=gt d (gt c (i:Int))
   ·have g2:=Qd e
    simp(disch:=omega)only[go_sem,Qe8,g1,z1,z2,z3,z4,g2]
    exact⟨i+1,by simp,⟨by omega,fun k hk'=>by
     by_cases ek:k=i
     ·subst ek;exact e
     ·exact hk k (by omega)⟩,by omega⟩
   ·have g2:=Qc e
    have eZ:Z=false:=by
     rw[eA,←Bool.not_eq_true,Qr]
     intro hh
     exact e (of_decide_eq_true (hh i (List.mem_range.2 h)))
    subst eZ
    simp(disch:=omega)only[go_sem,Qe8,g1,z1,z2,z3,z4,g2]
  ·obtain rfl:i=a.length:=by omega
   have g1:decide ((a.length:Int)<a.length)=false:=Qc (by omega)
   have eZ:Z=true:=by
    rw[eA,Qr]
    exact fun k hk'=>Qd (hk k (List.mem_range.1 hk'))
   subst eZ
   simp(disch:=omega)only[go_sem,Qe8,g1]
end
end Go.Am
