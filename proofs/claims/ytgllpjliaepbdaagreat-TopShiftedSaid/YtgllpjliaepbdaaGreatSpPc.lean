/- slices.Concat; disjoint unions. -/
import Derived.Test.YtgllpjliaepbdaaGreatSpPa
import Derived.Test.YtgllpjliaepbdaaGreatSpPb
namespace Go.Am
open Go
set_option linter.unusedVariables false
set_option linter.unusedSimpArgs false
def QuA:LL:=[qn 4 1]
def QuB:LL:=[qm 5 1,qk .lss 6 5 0]
def QuC:LL:=[qQp 7 (.bad),qQn (.bad)]
def QuD:LL:=[qm 8 1,qm 9 0,qQp 10 (.cap (.t 9)),qm 11 0,qz 12 11,qo .sub 13 10 12,qo .sub 14 8 13,qm 1 14]
def QuE:LL:=[qm 15 1,qk .gtr 16 15 0]
def QuF:LL:=[qm 17 0,qm 18 0,qQp 19 (.cap (.t 18)),qQp 20 (.slc 1 (.t 17) none (some (.t 19))),qm 21 1,qQp 22 (.appz 1 8 (.int .i64 (0)) (.t 20) (.t 21)),qm 23 0,
 qz 24 23,qQp 25 (.slc 1 (.t 22) none (some (.t 24))),qm 0 25]
def QuG:LL:=[qm 26 0,qm 4 26]
def Qig(F:Fn):LC:=QQ [.reg QuA [0,1],QQ [.reg QuB [0,1,6],.cond (.t 6) (.reg QuC [0,1]) .skip],QQ [.reg QuD [0,1],.reg QuE [0,1,16],.cond (.t 16) (.reg QuF [0]) .skip],.reg QuG [4],.ret]
def QuH:LL:=[qn 2 1]
def QuI:LL:=[qi 3 0]
def QuJ:LL:=[qm 9 0,qz 10 9,qi 11 0]
def QuK:LL:=[qo .lss 12 11 10]
def QuL:LL:=[qd 13 1 9 11,ql 14 1 13,qm 5 14]
def QuM:LL:=[qm 15 3,qm 16 5,qz 17 16,qo .add 18 15 17,qm 3 18]
def QuN:LL:=[qm 19 3,qk .lss 20 19 0]
def QuO:LL:=[qQp 21 (.bad),qQn (.bad)]
def QuP:LL:=[qk .add 22 11 1,qm 11 22]
def Qeb:LC:=QQ [.reg QuK [0,3,9,10,11,12],.cond (.t 12) .skip (.exit 0),.block 1 (QQ [.reg QuL [0,3,5,9,10,11],.reg QuM [0,3,9,10,11],.reg QuN [0,3,9,10,11,20],.cond (.t 20) (.reg QuO [0,3,9,10,11]) .skip]),.reg QuP [0,3,9,10,11]]
def QuQ(F:Fn):LL:=[qm 23 3,qc 24 (F "bF") [.k (.nl 0),.t 23],qm 6 24]
def QuR:LL:=[qm 25 0,qz 26 25,qi 27 0]
def QuS:LL:=[qo .lss 28 27 26]
def QuT:LL:=[qd 29 1 25 27,ql 30 1 29,qm 8 30]
def QuU:LL:=[qm 31 6,qm 32 8,qp 33 1 8 31 32,qm 6 33]
def QuV:LL:=[qk .add 34 27 1,qm 27 34]
def Qec:LC:=QQ [.reg QuS [6,25,26,27,28],.cond (.t 28) .skip (.exit 2),.block 3 (QQ [.reg QuT [6,8,25,26,27],.reg QuU [6,25,26,27]]),.reg QuV [6,25,26,27]]
def QuW:LL:=[qm 35 6,qm 2 35]
def Qih(F:Fn):LC:=QQ [.reg QuH [0],.reg QuI [0,3],QQ [.reg QuJ [0,3,9,10,11],.block 0 (.loop [0,3,9,10,11] Qeb)],.reg (QuQ F) [0,6],QQ [.reg QuR [6,25,26,27],.block 2 (.loop [6,25,26,27] Qec)],.reg QuW [2],.ret]
def QuX:LL:=[qB 2 0,qB 3 1,qa 4 [.nl 1,.nl 3],qa 5 [.nl 1,.nl 1],qa 6 [.nl 1,.nl 1],qi 7 0]
def QuY:LL:=[qL 18 2 2,qL 19 2 3,qQp 20 (.buildSl 2 48 (.agg [.lst 1 [],.lst 3 []]) 2 [(0,.t 18),(1,.t 19)]),qz 21 20,qi 22 0]
def QuZ:LL:=[qo .lss 23 22 21]
def Qu0:LL:=[qd 24 2 20 22,qL 25 2 24,qa 9 [.nl 1,.nl 3],qs 2 9 25]
def Qu1(F:Fn):LL:=[qL 26 2 9,qc 27 (F "c") [.t 26],qm 10 27]
def Qu2:LL:=[qm 28 10,qk .neq 29 28 0]
def Qu3:LL:=[qu 30 [.nl 1,.nl 3] [],qu 31 [.nl 1,.nl 1] [],qu 32 [.nl 1,.nl 1] [],qm 33 10,qs 2 4 30,qs 2 5 31,qs 2 6 32,qm 7 33]
def Qu4:LL:=[qk .add 34 22 1,qm 22 34]
def Qed(F:Fn):LC:=QQ [.reg QuZ [2,3,4,5,6,20,21,22,23],.cond (.t 23) .skip (.exit 0),.block 1 (QQ [.reg Qu0 [2,3,4,5,6,9,20,21,22],.reg (Qu1 F) [2,3,4,5,6,10,20,21,22],.reg Qu2 [2,3,4,5,6,10,20,21,22,29],.cond (.t 29) (QQ [.reg Qu3 [4,5,6,7],.ret]) .skip]),.reg Qu4 [2,3,4,5,6,20,21,22]]
def Qu5:LL:=[qf 35 0 2,ql 36 1 35,qz 37 36,qf 38 1 2,ql 39 1 38,qz 40 39,qm 11 37,qm 12 40]
def Qu6:LL:=[qm 41 11,qf 42 0 3,ql 43 1 42,qz 44 43,qo .add 45 41 44,qk .gtr 46 45 40,qm 47 46,qg 47 false (qm 48 12),qg 47 false (qf 49 1 3),qg 47 false (ql 50 1 49),qg 47 false (qz 51 50),
 qg 47 false (qo .add 52 48 51),qg 47 false (qk .gtr 53 52 80),qQ 54 47 53]
def Qu7:LL:=[qu 55 [.nl 1,.nl 3] [],qu 56 [.nl 1,.nl 1] [],qu 57 [.nl 1,.nl 1] [],qs 2 4 55,qs 2 5 56,qs 2 6 57,qi 7 3]
def Qu8(F:Fn):LL:=[qf 58 0 2,ql 59 1 58,qf 60 0 3,ql 61 1 60,qQp 62 (.buildSl 1 24 (.lst 1 []) 2 [(0,.t 59),(1,.t 61)]),qc 63 (F "bj") [.t 62],qf 64 1 2,ql 65 1 64,qc 66 (F "Z") [.t 65],
 qu 67 [.nl 1,.nl 3] [(0,1,.t 63),(1,1,.t 66)],qa 13 [.nl 1,.nl 3],qs 2 13 67]
def Qu9:LL:=[qf 68 1 3,ql 69 1 68,qz 70 69,qi 71 0]
def Qva:LL:=[qo .lss 72 71 70]
def Qvb:LL:=[qd 73 3 69 71,qL 74 3 73,qa 15 [.int .i64 (0),.int .i64 (0),.int .i64 (0)],qs 3 15 74]
def Qvc:LL:=[qf 75 1 13,ql 76 1 75,qf 77 0 15,ql 78 1 77,qf 79 1 15,ql 80 1 79,qm 81 11,qo .add 82 80 81,qf 83 2 15,ql 84 1 83,qm 85 11,qo .add 86 84 85,
 qu 87 [.int .i64 (0),.int .i64 (0),.int .i64 (0)] [(0,1,.t 78),(1,1,.t 82),(2,1,.t 86)],
 qQp 88 (.buildSl 3 24 (.agg [.int .i64 (0),.int .i64 (0),.int .i64 (0)]) 1 [(0,.t 87)]),qp 89 3 24 76 88,qf 90 1 13,qs 1 90 89]
def Qvd:LL:=[qk .add 91 71 1,qm 71 91]
def Qve:LC:=QQ [.reg Qva [3,4,5,6,11,12,13,69,70,71,72],.cond (.t 72) .skip (.exit 2),.block 3 (QQ [.reg Qvb [3,4,5,6,11,12,13,15,69,70,71],.reg Qvc [3,4,5,6,11,12,13,69,70,71]]),.reg Qvd [3,4,5,6,11,12,13,69,70,71]]
def Qvf(F:Fn):LL:=[qm 92 11,qc 93 (F "u") [.k (.int .i64 (0)),.t 92],qm 94 12,qc 95 (F "u") [.k (.int .i64 (0)),.t 94],qu 96 [.nl 1,.nl 1] [(0,1,.t 93),(1,1,.t 95)],qa 16 [.nl 1,.nl 1],
 qs 2 16 96]
def Qvg(F:Fn):LL:=[qm 97 11,qf 98 0 3,ql 99 1 98,qz 100 99,qc 101 (F "u") [.t 97,.t 100],qm 102 12,qf 103 1 3,ql 104 1 103,qz 105 104,qc 106 (F "u") [.t 102,.t 105],
 qu 107 [.nl 1,.nl 1] [(0,1,.t 101),(1,1,.t 106)],qa 17 [.nl 1,.nl 1],qs 2 17 107]
def Qvh:LL:=[qL 108 2 13,qL 109 2 16,qL 110 2 17,qs 2 4 108,qs 2 5 109,qs 2 6 110,qi 7 0]
def Qii(F:Fn):LC:=QQ [.reg QuX [2,3,4,5,6],QQ [.reg QuY [2,3,4,5,6,20,21,22],.block 0 (.loop [2,3,4,5,6,20,21,22] (Qed F))],.dreg [] Qu5 [2,3,4,5,6,11,12],QQ [.reg Qu6 [2,3,4,5,6,11,12,54],.cond (.t 54) (QQ [.reg Qu7 [4,5,6,7],.ret]) .skip],.dreg [(4,none,[],true),(5,none,[],true),(7,(some 64),[4,5],false)] (Qu8 F) [3,4,5,6,11,12,13],QQ [.reg Qu9 [3,4,5,6,11,12,13,69,70,71],.block 2 (.loop [3,4,5,6,11,12,13,69,70,71] Qve)],.reg (Qvf F) [3,4,5,6,11,12,13,16],.dreg [(4,none,[],true),(7,(some 64),[4],false)] (Qvg F) [4,5,6,13,16,17],.dreg [(1,none,[],true),(2,none,[],true),(3,none,[1,2],false),(4,none,[2],false)] Qvh [4,5,6,7],.ret]
def Qvi:LL:=[qB 2 0,qB 3 1,qa 4 [.nl 1,.nl 3],qa 5 [.nl 1,.nl 1],qa 6 [.nl 1,.nl 1],qi 7 0]
def Qvj(F:Fn):LL:=[qL 15 2 2,qc 16 (F "d") [.t 15],qm 8 16]
def Qvk:LL:=[qm 17 8,qk .neq 18 17 0]
def Qvl:LL:=[qu 19 [.nl 1,.nl 3] [],qu 20 [.nl 1,.nl 1] [],qu 21 [.nl 1,.nl 1] [],qm 22 8,qs 2 4 19,qs 2 5 20,qs 2 6 21,qm 7 22]
def Qvm(F:Fn):LL:=[qL 23 2 3,qc 24 (F "d") [.t 23],qm 9 24]
def Qvn:LL:=[qm 25 9,qk .neq 26 25 0]
def Qvo:LL:=[qu 27 [.nl 1,.nl 3] [],qu 28 [.nl 1,.nl 1] [],qu 29 [.nl 1,.nl 1] [],qm 30 9,qs 2 4 27,qs 2 5 28,qs 2 6 29,qm 7 30]
def Qvp:LL:=[qf 31 0 2,ql 32 1 31,qz 33 32,qf 34 1 2,ql 35 1 34,qz 36 35,qm 10 33,qm 11 36]
def Qvq:LL:=[qm 37 10,qf 38 0 3,ql 39 1 38,qz 40 39,qo .add 41 37 40,qk .gtr 42 41 40,qm 43 42,qg 43 false (qm 44 11),qg 43 false (qf 45 1 3),qg 43 false (ql 46 1 45),qg 43 false (qz 47 46),
 qg 43 false (qo .add 48 44 47),qg 43 false (qk .gtr 49 48 80),qQ 50 43 49]
def Qvr:LL:=[qu 51 [.nl 1,.nl 3] [],qu 52 [.nl 1,.nl 1] [],qu 53 [.nl 1,.nl 1] [],qs 2 4 51,qs 2 5 52,qs 2 6 53,qi 7 3]
def Qvs(F:Fn):LL:=[qL 54 2 2,qc 55 (F "t") [.t 54],qa 12 [.nl 1,.nl 3],qs 2 12 55]
def Qvt:LL:=[qf 56 0 12,ql 57 1 56,qf 58 0 3,ql 59 1 58,qp 60 1 8 57 59,qf 61 0 12,qs 1 61 60]
def Qvu:LL:=[qi 13 0]
def Qvv:LL:=[qm 62 13,qf 63 1 3,ql 64 1 63,qz 65 64,qo .lss 66 62 65]
def Qvw:LL:=[qf 69 1 3,ql 70 1 69,qm 71 13,qd 72 3 70 71,qL 73 3 72,qa 14 [.int .i64 (0),.int .i64 (0),.int .i64 (0)],qs 3 14 73]
def Qvx:LL:=[qf 74 1 12,ql 75 1 74,qf 76 0 14,ql 77 1 76,qf 78 1 14,ql 79 1 78,qm 80 10,qo .add 81 79 80,qf 82 2 14,ql 83 1 82,qm 84 10,qo .add 85 83 84,
 qu 86 [.int .i64 (0),.int .i64 (0),.int .i64 (0)] [(0,1,.t 77),(1,1,.t 81),(2,1,.t 85)],
 qQp 87 (.buildSl 3 24 (.agg [.int .i64 (0),.int .i64 (0),.int .i64 (0)]) 1 [(0,.t 86)]),qp 88 3 24 75 87,qf 89 1 12,qs 1 89 88]
def Qvy:LL:=[qm 67 13,qk .add 68 67 1,qm 13 68]
def Qvz:LC:=QQ [QQ [.reg Qvv [3,4,5,6,10,11,12,13,66],.cond (.t 66) .skip (.exit 0)],.block 1 (QQ [.reg Qvw [3,4,5,6,10,11,12,13,14],.reg Qvx [3,4,5,6,10,11,12,13]]),.reg Qvy [3,4,5,6,10,11,12,13]]
def QvA(F:Fn):LL:=[qL 90 2 12,qm 91 10,qc 92 (F "B") [.k (.int .i64 (0)),.t 91],qm 93 11,qc 94 (F "B") [.k (.int .i64 (0)),.t 93],qu 95 [.nl 1,.nl 1] [(0,1,.t 92),(1,1,.t 94)],qm 96 10,qf 97 0 3,
 ql 98 1 97,qz 99 98,qc 100 (F "B") [.t 96,.t 99],qm 101 11,qf 102 1 3,ql 103 1 102,qz 104 103,qc 105 (F "B") [.t 101,.t 104],qu 106 [.nl 1,.nl 1] [(0,1,.t 100),(1,1,.t 105)],
 qs 2 4 90,qs 2 5 95,qs 2 6 106,qi 7 0]
def Qij(F:Fn):LC:=QQ [.reg Qvi [2,3,4,5,6],QQ [.reg (Qvj F) [2,3,4,5,6,8],.reg Qvk [2,3,4,5,6,8,18],.cond (.t 18) (QQ [.reg Qvl [4,5,6,7],.ret]) .skip],QQ [.reg (Qvm F) [2,3,4,5,6,9],.reg Qvn [2,3,4,5,6,9,26],.cond (.t 26) (QQ [.reg Qvo [4,5,6,7],.ret]) .skip],.dreg [] Qvp [2,3,4,5,6,10,11],QQ [.reg Qvq [2,3,4,5,6,10,11,50],.cond (.t 50) (QQ [.reg Qvr [4,5,6,7],.ret]) .skip],.reg (Qvs F) [3,4,5,6,10,11,12],.reg Qvt [3,4,5,6,10,11,12],QQ [.reg Qvu [3,4,5,6,10,11,12,13],.block 0 (.loop [3,4,5,6,10,11,12,13] Qvz)],.dreg [(0,none,[],true),(2,none,[0],true),(4,none,[0],true),(8,(some 128),[2,4],false),(10,none,[0],true),(13,(some 4096),[2,4,10],false),(15,none,[0],false)] (QvA F) [4,5,6,7],.ret]
def QWG:Hints:=hn [] [(0,[2,3,4,5,6]),(1,[2,3,4,5,6,8]),(2,[2,3,4,5,6,8,18]),(3,[4,5,6,7]),(4,[2,3,4,5,6,9]),(5,[2,3,4,5,6,9,26]),(6,[4,5,6,7]),(7,[2,3,4,5,6,10,11]),(8,[2,3,4,5,6,10,11,50]),(9,[4,5,6,7]),(10,[3,4,5,6,10,11,12]),(11,[3,4,5,6,10,11,12]),(12,[3,4,5,6,10,11,12,13]),(13,[3,4,5,6,10,11,12,13,66]),(14,[3,4,5,6,10,11,12,13]),(15,[3,4,5,6,10,11,12,13,14]),(16,[3,4,5,6,10,11,12,13]),(17,[4,5,6,7])] [(13,[3,4,5,6,10,11,12,13])]
def ZJ(n:Int)(x:E):E:=⟨x.t,x.f+n,x.o+n⟩
def Y3(a b:G):G×Mo×Mo×Int:=
 if QX a≠0 then (⟨[],[]⟩,⟨[],[]⟩,⟨[],[]⟩,QX a) else if QX b≠0 then (⟨[],[]⟩,⟨[],[]⟩,⟨[],[]⟩,QX b)
 else if 40<a.n.length+b.n.length∨80<a.e.length+b.e.length then (⟨[],[]⟩,⟨[],[]⟩,⟨[],[]⟩,3)
 else (⟨a.n++b.n,a.e++b.e.map (ZJ a.n.length)⟩,⟨Xf 0 a.n.length,Xf 0 a.e.length⟩,⟨Xf a.n.length b.n.length,Xf a.e.length b.e.length⟩,0)
def YT(r:G×Mo×Mo×Int):D:=.tup [gA r.1,mA r.2.1,mA r.2.2.1,.int .i64 r.2.2.2]
attribute [go_sem] QuA QuB QuC QuD QuE QuF QuG Qig QuH QuI QuJ QuK QuL QuM QuN QuO QuP QuQ QuR QuS QuT QuU QuV QuW Qih QuX QuY QuZ Qu0 Qu1 Qu2 Qu3 Qu4 Qu5 Qu6 Qu7 Qu8 Qu9 Qva Qvb Qvc Qvd Qvf Qvg Qvh Qii Qvi Qvj Qvk Qvl Qvm Qvn Qvo Qvp Qvq Qvr Qvs Qvt Qvu Qvv Qvw Qvx Qvy QvA Qij
section
variable (P:Program) (F:String→Nat)
def Qik:Prop:=∀a b:G,FC P (F "bp") [gD a,gD b] (YT (Y3 a b)) []
def Qee:Prop:=∀a b:G,FC P (F "aC") [gD a,gD b] (YT (Y3 a b)) []
def Qil:Prop:=∀n:Nat,n≤10000000000000→FC P (F "bF") [.nl 1,.int .i64 n] (.arr 1 []) []
def Qim:Prop:=∀a b:List Int,a.length≤1000000000000→b.length≤1000000000000→FC P (F "bj") [.lst 1 [.lst 1 (QR a),.lst 1 (QR b)]] (.arr 1 (QR (a++b))) []
end
section
variable {P:Program} {F:String→Nat} {α:Type}
def Zj(a b:List Int):Nat→List Int
 |0=>[]
 |1=>a
 |_=>a++b
theorem FC.nl{P:Program}{f a b:Nat}{args:List D}{r:D}{outs:List (Nat×D)}(h:FC P f (.nl a::args) r outs):FC P f (.nl b::args) r outs:=by
 unfold FC at*
 simp only[DRs,DR] at*
 exact h
theorem QWH(n:Nat)(hn:n≤10000000000000):W P (Qig F) (Done [.t 4] [] (.arr 1 []) []) (init [.nl 1,.int .i64 n]):=by
 refine QZ ?_
 simp(disch:=omega)only[go_sem]
 refine Q7 (fun c=>?_) (fun c=>?_)
 ·omega
 ·simp(disch:=omega)only[go_sem]
  refine Q7 (fun c=>?_) (fun c=>?_)
  ·simp(disch:=omega)only[go_sem]
   rw[if_neg (by omega)]
   rfl
  ·simp(disch:=omega)only[go_sem]
theorem QWI(hg:Qil P F)(a b:List Int)(ha:a.length≤1000000000000)(hb:b.length≤1000000000000):W P (Qih F) (Done [.t 2] [] (.arr 1 (QR (a++b))) []) (init [.lst 1 [.lst 1 (QR a),.lst 1 (QR b)]]):=by
 refine QZ ?_
 simp(disch:=omega)only[go_sem]
 refine Q5 (fun i:Nat=>⟨[(0,D.lst 1 [D.lst 1 (QR a),D.lst 1 (QR b)]),(3,D.int IntKind.i64 (Zj a b i).length),(9,D.lst 1 [D.lst 1 (QR a),D.lst 1 (QR b)]),(10,D.int IntKind.i64 (2:Nat)),(11,D.int IntKind.i64 i)],[],0⟩) (fun i=>i≤2) (fun i=>2-i) 0 ?_ ?_ ?_
 ·simp(disch:=omega)only[go_sem]
  rfl
 ·omega
 ·intro i hi
  have h3:i=0∨i=1∨i=2:=by omega
  rcases h3 with rfl|rfl|rfl
  ·simp(disch:=omega)only[go_sem,Qeb,Zj]
   refine Q7 (fun c=>?_) (fun c=>absurd c (by omega))
   simp(disch:=omega)only[go_sem,Zj]
   refine Q7 (fun c=>by omega) (fun c=>?_)
   simp(disch:=omega)only[go_sem]
   exact⟨1,by simp [Zj],by omega,by omega⟩
  ·simp(disch:=omega)only[go_sem,Qeb,Zj]
   refine Q7 (fun c=>?_) (fun c=>absurd c (by omega))
   simp(disch:=omega)only[go_sem,Zj]
   refine Q7 (fun c=>by omega) (fun c=>?_)
   simp(disch:=omega)only[go_sem]
   exact⟨2,by simp [Zj],by omega,by omega⟩
  ·simp(disch:=omega)only[go_sem,Qeb]
   refine Q7 (fun c=>absurd c (by omega)) (fun c=>?_)
   simp(disch:=omega)only[go_sem]
   have r:=FC.nl (b:=0) (hg (Zj a b 2).length (by simp [Zj];omega))
   refine QT r ?_
   simp(disch:=omega)only[go_sem]
   refine Q5 (fun i:Nat=>⟨[(6,D.sl 0 0 (Zj a b i).length),(25,D.lst 1 [D.lst 1 (QR a),D.lst 1 (QR b)]),(26,D.int IntKind.i64 (2:Nat)),(27,D.int IntKind.i64 i)],[(0,Ent.arr 1 (QR (Zj a b i)))],1⟩) (fun i=>i≤2) (fun i=>2-i) 0 ?_ ?_ ?_
   ·simp(disch:=omega)only[go_sem]
    rfl
   ·omega
   ·intro i hi
    have h3:i=0∨i=1∨i=2:=by omega
    rcases h3 with rfl|rfl|rfl
    ·simp(disch:=omega)only[go_sem,Qec,Zj]
     refine Q7 (fun c=>?_) (fun c=>absurd c (by omega))
     simp(disch:=omega)only[go_sem,Zj]
     exact⟨1,by simp,by omega,by omega⟩
    ·simp(disch:=omega)only[go_sem,Qec,Zj]
     refine Q7 (fun c=>?_) (fun c=>absurd c (by omega))
     simp(disch:=omega)only[go_sem,Zj]
     exact⟨2,by simp,by omega,by omega⟩
    ·simp(disch:=omega)only[go_sem,Qec,Zj]
     refine Q7 (fun c=>absurd c (by omega)) (fun c=>?_)
     simp(disch:=omega)only[go_sem,Zj]
theorem QWJ(hv:Qad P F)(hc:Qim P F)(hcl:QdW P F)(hn:Qhq P F)(a b:G):W P (Qii F) (Done [.c 4 true 2,.c 5 true 2,.c 6 true 2,.t 7] [] (YT (Y3 a b)) []) (init [gD a,gD b]):=by
 refine QZ ?_
 obtain⟨an,ae⟩:=a
 obtain⟨bn,be⟩:=b
 simp(disch:=omega)only[go_sem,gD]
 refine Q5 (fun i:Nat=>⟨[(2,D.pt 0 0),(3,D.pt 1 0),(4,D.pt 4 0),(5,D.pt 7 0),(6,D.pt 10 0),(20,D.sl 11 0 2),(21,D.int IntKind.i64 (2:Nat)),(22,D.int IntKind.i64 i)],
   [(0,Ent.box [D.lst 1 (QR an),D.lst 3 (eds ae)]),(1,Ent.box [D.lst 1 (QR bn),D.lst 3 (eds be)]),
    (2,Ent.arr 1 []),(3,Ent.arr 3 []),(4,Ent.box [D.sl 2 0 0,D.sl 3 0 0]),(5,Ent.arr 1 []),
    (6,Ent.arr 1 []),(7,Ent.box [D.sl 5 0 0,D.sl 6 0 0]),(8,Ent.arr 1 []),(9,Ent.arr 1 []),
    (10,Ent.box [D.sl 8 0 0,D.sl 9 0 0]),
    (11,Ent.arr 2 [D.agg [D.lst 1 (QR an),D.lst 3 (eds ae)],D.agg [D.lst 1 (QR bn),D.lst 3 (eds be)]])],12⟩)
  (fun i=>i≤2∧(1≤i→QX ⟨an,ae⟩=0)∧(2≤i→QX ⟨bn,be⟩=0)) (fun i=>2-i) 0 ?_ ?_ ?_
 ·simp(disch:=omega)only[go_sem]
  rfl
 ·simp
 ·rintro i ⟨hi,p1,p2⟩
  have h3:i=0∨i=1∨i=2:=by omega
  rcases h3 with rfl|rfl|rfl
  ·simp(disch:=omega)only[go_sem,Qed]
   refine Q7 (fun c=>?_) (fun c=>absurd c (by omega))
   simp(disch:=omega)only[go_sem]
   refine QT (hv ⟨an,ae⟩) ?_
   simp(disch:=omega)only[go_sem]
   refine XX (fun c1=>?_) (fun c1=>?_)
   ·simp(disch:=omega)only[go_sem]
    simp [Y3,c1,YT,gA,mA,QR,eds]
   ·simp(disch:=omega)only[go_sem]
    exact⟨1,by simp,⟨by omega,fun _=>c1,by omega⟩,by omega⟩
  ·have c1:=p1 (by omega)
   simp(disch:=omega)only[go_sem,Qed]
   refine Q7 (fun c=>?_) (fun c=>absurd c (by omega))
   simp(disch:=omega)only[go_sem]
   refine QT (hv ⟨bn,be⟩) ?_
   simp(disch:=omega)only[go_sem]
   refine XX (fun c2=>?_) (fun c2=>?_)
   ·simp(disch:=omega)only[go_sem]
    simp [Y3,c1,c2,YT,gA,mA,QR,eds]
   ·simp(disch:=omega)only[go_sem]
    exact⟨2,by simp,⟨by omega,fun _=>c1,fun _=>c2⟩,by omega⟩
  ·have c1:=p1 (by omega)
   have c2:=p2 (by omega)
   obtain⟨v1,v2,v3,v4⟩:=Q8 c1
   simp only at v1 v2 v3 v4
   obtain⟨u1,u2,u3,u4⟩:=Q8 c2
   simp only at u1 u2 u3 u4
   simp(disch:=omega)only[go_sem,Qed]
   refine Q7 (fun c=>absurd c (by omega)) (fun c=>?_)
   simp(disch:=omega)only[go_sem]
   have big:40<an.length+bn.length∨80<ae.length+be.length→Y3 ⟨an,ae⟩ ⟨bn,be⟩=(⟨[],[]⟩,⟨[],[]⟩,⟨[],[]⟩,3):=fun h=>by
    simp only[Y3,c1,c2,ne_eq,not_true_eq_false,if_false,if_pos h]
   refine Q7 (fun c3=>?_) (fun c3=>?_)
   ·simp(disch:=omega)only[go_sem,c3]
    rw[big (by omega)]
    simp [YT,gA,mA,QR,eds]
   ·simp(disch:=omega)only[go_sem,c3]
    refine Q7 (fun c4=>?_) (fun c4=>?_)
    ·simp(disch:=omega)only[go_sem]
     rw[big (by omega)]
     simp [YT,gA,mA,QR,eds]
    ·have hg:Y3 ⟨an,ae⟩ ⟨bn,be⟩=(⟨an++bn,ae++be.map (ZJ an.length)⟩,⟨Xf 0 an.length,Xf 0 ae.length⟩,⟨Xf an.length bn.length,Xf ae.length be.length⟩,0):=by
      simp only[Y3,c1,c2,ne_eq,not_true_eq_false,if_false]
      rw[if_neg (by omega)]
     simp(disch:=omega)only[go_sem]
     refine QT (hc an bn (by omega) (by omega)) ?_
     simp(disch:=omega)only[go_sem]
     refine QT (hcl ae (by omega)) ?_
     simp(disch:=omega)only[go_sem]
     refine Q5 (fun i:Nat=>⟨[(3,D.pt 0 0),(4,D.pt 3 0),(5,D.pt 6 0),(6,D.pt 9 0),(11,D.int IntKind.i64 an.length),
       (12,D.int IntKind.i64 ae.length),(13,D.pt 12 0),(69,D.lst 3 (eds be)),(70,D.int IntKind.i64 be.length),(71,D.int IntKind.i64 i)],
      [(0,Ent.box [D.lst 1 (QR bn),D.lst 3 (eds be)]),(1,Ent.arr 1 []),(2,Ent.arr 3 []),(3,Ent.box [D.sl 1 0 0,D.sl 2 0 0]),(4,Ent.arr 1 []),(5,Ent.arr 1 []),(6,Ent.box [D.sl 4 0 0,D.sl 5 0 0]),
       (7,Ent.arr 1 []),(8,Ent.arr 1 []),(9,Ent.box [D.sl 7 0 0,D.sl 8 0 0]),(10,Ent.arr 1 (QR (an++bn))),(11,Ent.arr 3 (eds (ae++(be.take i).map (ZJ an.length)))),
       (12,Ent.box [D.sl 10 0 (an.length+bn.length),D.sl 11 0 (ae.length+i)])],13⟩) (fun i=>i≤be.length) (fun i=>be.length-i) 0 ?_ ?_ ?_
     ·simp(disch:=omega)only[go_sem]
      simp
     ·omega
     ·intro i hi
      have el:(ae++(be.take i).map (ZJ an.length)).length=ae.length+i:=by simp;omega
      simp(disch:=omega)only[go_sem,Qve]
      refine Q7 (fun c=>?_) (fun c=>?_)
      ·have hf:=YZ (u4 _ (gt_mem (by omega) c))
       simp(disch:=omega)only[go_sem,el]
       exact⟨i+1,by rw[Yk (by omega)];simp [ZJ,QD],by omega,by omega⟩
      ·obtain rfl:i=be.length:=by omega
       simp(disch:=omega)only[go_sem,el]
       refine QT (hn _ _ (by omega) (by omega) (by omega)) ?_
       simp(disch:=omega)only[go_sem,Xh]
       refine QT (hn _ _ (by omega) (by omega) (by omega)) ?_
       simp(disch:=omega)only[go_sem,Xh]
       refine QT (hn _ _ (by omega) (by omega) (by omega)) ?_
       simp(disch:=omega)only[go_sem,Xh]
       refine QT (hn _ _ (by omega) (by omega) (by omega)) ?_
       simp(disch:=omega)only[go_sem,Xh,Qv]
       rw[hg]
       simp [YT,gA,mA]
theorem QWK(hv:Qa3 P F)(hcp:Qcv P F)(hn:Qhr P F)(a b:G):W P (Qij F) (Done [.c 4 true 2,.c 5 true 2,.c 6 true 2,.t 7] [] (YT (Y3 a b)) []) (init [gD a,gD b]):=by
 refine QZ ?_
 obtain⟨an,ae⟩:=a
 obtain⟨bn,be⟩:=b
 simp(disch:=omega)only[go_sem,gD]
 refine QT (hv ⟨an,ae⟩) ?_
 simp(disch:=omega)only[go_sem]
 refine XX (fun c1=>?_) (fun c1=>?_)
 ·simp(disch:=omega)only[go_sem]
  simp [Y3,c1,YT,gA,mA,QR,eds]
 ·obtain⟨v1,v2,v3,v4⟩:=Q8 c1
  simp only at v1 v2 v3 v4
  simp(disch:=omega)only[go_sem]
  refine QT (hv ⟨bn,be⟩) ?_
  simp(disch:=omega)only[go_sem]
  refine XX (fun c2=>?_) (fun c2=>?_)
  ·simp(disch:=omega)only[go_sem]
   simp [Y3,c1,c2,YT,gA,mA,QR,eds]
  ·obtain⟨u1,u2,u3,u4⟩:=Q8 c2
   simp only at u1 u2 u3 u4
   simp(disch:=omega)only[go_sem]
   have big:40<an.length+bn.length∨80<ae.length+be.length→Y3 ⟨an,ae⟩ ⟨bn,be⟩=(⟨[],[]⟩,⟨[],[]⟩,⟨[],[]⟩,3):=fun h=>by
    simp only[Y3,c1,c2,ne_eq,not_true_eq_false,if_false,if_pos h]
   refine Q7 (fun c3=>?_) (fun c3=>?_)
   ·simp(disch:=omega)only[go_sem,c3]
    rw[big (by omega)]
    simp [YT,gA,mA,QR,eds]
   ·simp(disch:=omega)only[go_sem,c3]
    refine Q7 (fun c4=>?_) (fun c4=>?_)
    ·simp(disch:=omega)only[go_sem]
     rw[big (by omega)]
     simp [YT,gA,mA,QR,eds]
    ·have hg:Y3 ⟨an,ae⟩ ⟨bn,be⟩=(⟨an++bn,ae++be.map (ZJ an.length)⟩,⟨Xf 0 an.length,Xf 0 ae.length⟩,⟨Xf an.length bn.length,Xf ae.length be.length⟩,0):=by
      simp only[Y3,c1,c2,ne_eq,not_true_eq_false,if_false]
      rw[if_neg (by omega)]
     have r:=hcp ⟨an,ae⟩ (by simp only;omega) (by simp only;omega)
     simp only[gA,gD] at r
     simp(disch:=omega)only[go_sem]
     refine QT r ?_
     simp(disch:=omega)only[go_sem]
     refine Q5 (fun i:Nat=>⟨[(3,D.pt 0 0),(4,D.pt 3 0),(5,D.pt 6 0),(6,D.pt 9 0),(10,D.int IntKind.i64 an.length),
       (11,D.int IntKind.i64 ae.length),(12,D.pt 12 0),(13,D.int IntKind.i64 i)],
      [(0,Ent.box [D.lst 1 (QR bn),D.lst 3 (eds be)]),(1,Ent.arr 1 []),(2,Ent.arr 3 []),(3,Ent.box [D.sl 1 0 0,D.sl 2 0 0]),(4,Ent.arr 1 []),(5,Ent.arr 1 []),(6,Ent.box [D.sl 4 0 0,D.sl 5 0 0]),
       (7,Ent.arr 1 []),(8,Ent.arr 1 []),(9,Ent.box [D.sl 7 0 0,D.sl 8 0 0]),(10,Ent.arr 1 (QR (an++bn))),(11,Ent.arr 3 (eds (ae++(be.take i).map (ZJ an.length)))),
       (12,Ent.box [D.sl 10 0 (an.length+bn.length),D.sl 11 0 (ae.length+i)])],13⟩) (fun i=>i≤be.length) (fun i=>be.length-i) 0 ?_ ?_ ?_
     ·simp(disch:=omega)only[go_sem]
      simp
     ·omega
     ·intro i hi
      have el:(ae++(be.take i).map (ZJ an.length)).length=ae.length+i:=by simp;omega
      simp(disch:=omega)only[go_sem,Qvz]
      refine Q7 (fun c=>?_) (fun c=>?_)
      ·have hf:=YZ (u4 _ (gt_mem (by omega) c))
       simp(disch:=omega)only[go_sem,el]
       exact⟨i+1,by rw[Yk (by omega)];simp [ZJ,QD],by omega,by omega⟩
      ·obtain rfl:i=be.length:=by omega
       simp(disch:=omega)only[go_sem,el]
       refine QT (hn _ _ (by omega) (by omega) (by omega)) ?_
       simp(disch:=omega)only[go_sem,Xh]
       refine QT (hn _ _ (by omega) (by omega) (by omega)) ?_
       simp(disch:=omega)only[go_sem,Xh]
       refine QT (hn _ _ (by omega) (by omega) (by omega)) ?_
       simp(disch:=omega)only[go_sem,Xh]
       refine QT (hn _ _ (by omega) (by omega) (by omega)) ?_
       simp(disch:=omega)only[go_sem,Xh,Qv]
       rw[hg]
       simp [YT,gA,mA]
end
def unG(a b:G):G:=⟨a.n++b.n,a.e++b.e.map (ZJ a.n.length)⟩
def inR(a b:G):Mo:=⟨Xf a.n.length b.n.length,Xf a.e.length b.e.length⟩
def cop(h k:Mo):Mo:=⟨h.n++k.n,h.e++k.e⟩
def Big(b c:G):Prop:=40<b.n.length+c.n.length∨80<b.e.length+c.e.length
instance (b c:G):Decidable (Big b c):=inferInstanceAs (Decidable (_∨_))
structure Sp where
 a:G
 b:G
 c:G
 f:Mo
 g:Mo
 deriving DecidableEq,Inhabited
def spE(s:Sp):Int:=if XE s.a s.b s.f≠0 then XE s.a s.b s.f else XE s.a s.c s.g
def Yt(s:Sp):Int:=if spE s≠0 then spE s else if Big s.b s.c then 3 else 0
def poF(s:Sp):Mo:=QY s.f (idM s.b)
def poH(s:Sp):Mo:=QY s.g (inR s.b s.c)
def poG(s:Sp):G:=Js (unG s.b s.c) (poF s) (poH s)
def poQ(s:Sp):Mo:=ZX (unG s.b s.c) (poF s) (poH s)
def poP(s:Sp):Mo:=QY (idM s.b) (poQ s)
def poK(s:Sp):Mo:=QY (inR s.b s.c) (poQ s)
def poR(s:Sp):G×Mo×Mo×Int:=if Yt s=0 then (poG s,poP s,poK s,0) else (g0,m0,m0,Yt s)
def Qef(n:Nat)(p h q k:List Int):List Int:=XR k q (XR h p (List.replicate n 0) p.length) q.length
def medU(s:Sp)(h k:Mo):Mo:=⟨Qef (poG s).n.length (poP s).n h.n (poK s).n k.n,Qef (poG s).e.length (poP s).e h.e (poK s).e k.e⟩
def Qeg(s:Sp)(x:G)(h k:Mo):Int:=if spE s≠0 then spE s else if XE s.b x h≠0 then XE s.b x h else if XE s.c x k≠0 then XE s.c x k else if Big s.b s.c then 3 else if QY s.f h=QY s.g k then 0 else 11
def Qin(s:Sp)(x:G)(h k:Mo):Bool:=decide (Qeg s x h k=0)&&(Zr (poG s) x (medU s h k)&&QdY (poG s) x (medU s h k))
section
theorem Y4{f:Int}{n i:Nat}(hi:i<n):gt (Xf f n) i=f+i:=by
 unfold Xf
 rw[Xc (by simp;exact hi)]
 simp
theorem J4{α:Type}[Inhabited α]{l m:List α}{i:Nat}(h:i<l.length):gt (l++m) i=gt l i:=by
 rw[Xc (by simp;omega),Xc h,List.getElem_append_left h]
theorem QbT{α:Type}[Inhabited α]{l m:List α}{i:Nat}(h:i<m.length):gt (l++m) ((l.length:Int)+i)=gt m i:=by
 rw[show (l.length:Int)+i=((l.length+i:Nat):Int) by omega,Xc (by simp;omega),Xc h,List.getElem_append_right (by omega)]
 simp
theorem QvB{l b c:List Int}(h:∀i:Nat,i<l.length→0≤gt l i∧gt l i<b.length):thr (thr l b) c=thr l (thr b c):=
 Yd (by simp only[Xp]) fun i hi=>by
  rw[Xp,Xp] at hi
  obtain⟨k,hk,hk2⟩:=gtI (h i hi)
  rw[Xi (by rw[Xp];exact hi),Xi hi,Xi hi,hk2,Xi hk]
theorem Jt{a b c:G}{m n o:Mo}(hm:MOk a b m)(hn:MOk b c n):QY (QY m n) o=QY m (QY n o):=by
 have l1:=hn.ln
 have l2:=hn.le
 refine JF (QvB fun i hi=>?_) (QvB fun i hi=>?_)
 ·rw[l1];exact (hm.nd i (by rw[←hm.ln];exact hi)).1
 ·rw[l2];exact (hm.ed i (by rw[←hm.le];exact hi)).1
theorem JG{a b c:G}{m n:Mo}(hm:MOk a b m)(hn:MOk b c n):MOk a c (QY m n):=by
 have l1:=hm.ln
 have l2:=hm.le
 refine⟨hm.va,hn.vb,by simp only[QY,Xp];exact l1,by simp only[QY,Xp];exact l2,fun i hi=>?_,fun i hi=>?_⟩
 ·obtain⟨h1,h2⟩:=hm.nd i hi
  obtain⟨k,hk,hk2⟩:=gtI h1
  simp only[QY]
  rw[Xi (by omega),hk2]
  rw[hk2] at h2
  obtain⟨h3,h4⟩:=hn.nd k hk
  exact⟨h3,by rw[h4,h2]⟩
 ·obtain⟨h1,h2,h3,h4⟩:=hm.ed i hi
  obtain⟨k,hk,hk2⟩:=gtI h1
  obtain⟨_,f1,f2⟩:=Zt hm.va (i:=i) (by omega)
  obtain⟨p,hp,hp2⟩:=gtI f1
  obtain⟨q,hq,hq2⟩:=gtI f2
  simp only[QY]
  rw[Xi (by omega),hk2]
  rw[hk2] at h2 h3 h4
  obtain⟨g1,g2,g3,g4⟩:=hn.ed k hk
  refine⟨g1,by rw[h2,g2],?_,?_⟩
  ·rw[hp2,Xi (by omega),←g3,←h3,hp2]
  ·rw[hq2,Xi (by omega),←g4,←h4,hq2]
theorem JH(b c:G):(unG b c).n.length=b.n.length+c.n.length∧(unG b c).e.length=b.e.length+c.e.length:=by simp [unG]
theorem Qeh{b c:G}(vb:QX b=0)(vc:QX c=0)(hs:¬Big b c):QX (unG b c)=0:=by
 have v1:=Q8 vb
 have v2:=Q8 vc
 have hl:=JH b c
 unfold Big at hs
 refine Qa4 (by omega) (by omega) (fun x hx=>?_) (fun x hx=>?_)
 ·rcases Qg.1 hx with hx|hx
  ·exact v1.2.2.1 x hx
  ·exact v2.2.2.1 x hx
 ·rw[hl.1]
  rcases Qg.1 hx with hx|hx
  ·have:=YZ (v1.2.2.2 x hx)
   exact Jr this.1 (by omega) (by omega)
  ·obtain⟨y,hy,rfl⟩:=Qu.1 hx
   have:=YZ (v2.2.2.2 y hy)
   exact Jr this.1 (by simp only[ZJ];omega) (by simp only[ZJ];omega)
theorem Qa5{b c:G}(vb:QX b=0)(vc:QX c=0)(hs:¬Big b c):MOk b (unG b c) (idM b):=by
 have hl:=JH b c
 have hi:=QhT vb
 refine⟨vb,Qeh vb vc hs,hi.ln,hi.le,fun i h=>?_,fun i h=>?_⟩
 ·simp only[idM,unG]
  rw[XN h,J4 h]
  exact⟨by simp;omega,rfl⟩
 ·obtain⟨h1,h2,h3,h4⟩:=hi.ed i h
  simp only[idM,unG] at*
  rw[XN h] at h2 h3 h4 ⊢
  rw[J4 h]
  exact⟨by simp;omega,h2,h3,h4⟩
theorem Qa6{b c:G}(vb:QX b=0)(vc:QX c=0)(hs:¬Big b c):MOk c (unG b c) (inR b c):=by
 have hl:=JH b c
 refine⟨vc,Qeh vb vc hs,by simp [inR,Xh],by simp [inR,Xh],fun i h=>?_,fun i h=>?_⟩
 ·simp only[inR,unG]
  rw[Y4 h,QbT h]
  exact⟨by simp;omega,rfl⟩
 ·obtain⟨_,t2,t3⟩:=Zt vc (i:=i) (by omega)
  obtain⟨p,hp,hp2⟩:=gtI t2
  obtain⟨q,hq,hq2⟩:=gtI t3
  simp only[inR,unG]
  rw[Y4 h,QbT (by simpa using h),JZ h]
  refine⟨by simp;omega,rfl,?_,?_⟩
  ·simp only[ZJ]
   rw[hp2,Y4 hp];omega
  ·simp only[ZJ]
   rw[hq2,Y4 hq];omega
theorem QbU{b c i:Nat}(h:i<b+c):i<b∨∃j:Nat,j<c∧i=b+j:=by
 by_cases x:i<b
 ·exact .inl x
 ·exact .inr ⟨i-b,by omega,by omega⟩
theorem Qei{b c x:G}{h k:Mo}(hh:MOk b x h)(hk:MOk c x k){i:Nat}(hi:i<c.n.length):gt (cop h k).n ((b.n.length:Int)+i)=gt k.n i:=by
 have:=hh.ln
 have:=hk.ln
 simp only[cop]
 rw[←hh.ln,QbT (by omega)]
theorem QvC{b c x:G}{h k:Mo}(hh:MOk b x h)(hk:MOk c x k){i:Nat}(hi:i<c.e.length):gt (cop h k).e ((b.e.length:Int)+i)=gt k.e i:=by
 have:=hh.le
 have:=hk.le
 simp only[cop]
 rw[←hh.le,QbT (by omega)]
theorem QWL{b c x:G}{h k:Mo}(hh:MOk b x h)(hk:MOk c x k)(hs:¬Big b c):MOk (unG b c) x (cop h k):=by
 have hl:=JH b c
 have l1:=hh.ln
 have l2:=hh.le
 have l3:=hk.ln
 have l4:=hk.le
 have cl:∀i:Nat,i<b.n.length→gt (cop h k).n i=gt h.n i:=fun i hi=>J4 (by omega)
 have ce:∀i:Nat,i<b.e.length→gt (cop h k).e i=gt h.e i:=fun i hi=>J4 (by omega)
 have ul:∀i:Nat,i<b.n.length→gt (unG b c).n i=gt b.n i:=fun i hi=>J4 (by omega)
 have ue:∀i:Nat,i<b.e.length→gt (unG b c).e i=gt b.e i:=fun i hi=>J4 (by omega)
 refine⟨Qeh hh.va hk.va hs,hh.vb,by rw[hl.1];simp [cop];omega,by rw[hl.2];simp [cop];omega,fun i hi=>?_,fun i hi=>?_⟩
 ·rw[hl.1] at hi
  rcases QbU hi with h1|⟨j,h1,rfl⟩
  ·rw[cl i h1,ul i h1];exact hh.nd i h1
  ·rw[show ((b.n.length+j:Nat):Int)=(b.n.length:Int)+j by omega,Qei hh hk h1]
   simp only[unG]
   rw[QbT h1]
   exact hk.nd j h1
 ·rw[hl.2] at hi
  rcases QbU hi with h1|⟨j,h1,rfl⟩
  ·rw[ce i h1,ue i h1]
   obtain⟨_,t2,t3⟩:=Zt hh.va (i:=i) (by omega)
   obtain⟨p,hp,hp2⟩:=gtI t2
   obtain⟨q,hq,hq2⟩:=gtI t3
   have e:=hh.ed i h1
   rw[hp2,hq2] at e ⊢
   rw[cl p hp,cl q hq]
   exact e
  ·rw[show ((b.e.length+j:Nat):Int)=(b.e.length:Int)+j by omega,QvC hh hk h1]
   simp only[unG]
   rw[QbT (by simpa using h1),JZ h1]
   obtain⟨_,t2,t3⟩:=Zt hk.va (i:=j) (by omega)
   obtain⟨p,hp,hp2⟩:=gtI t2
   obtain⟨q,hq,hq2⟩:=gtI t3
   have e:=hk.ed j h1
   simp only[ZJ]
   rw[hp2,hq2] at e ⊢
   rw[show (p:Int)+b.n.length=(b.n.length:Int)+p by omega,show (q:Int)+b.n.length=(b.n.length:Int)+q by omega,Qei hh hk hp,Qei hh hk hq]
   exact e
theorem QvD{b c x:G}{h k:Mo}(hh:MOk b x h)(hk:MOk c x k):QY (idM b) (cop h k)=h:=by
 have l1:=hh.ln
 have l2:=hh.le
 refine JF (Yd ?_ fun i hi=>?_) (Yd ?_ fun i hi=>?_)
 ·simp only[QY,Xp,idM,Xh];omega
 ·simp only[QY,Xp,idM,Xh] at hi ⊢
  rw[Xi (by rw[Xh];exact hi),XN hi]
  exact J4 (by omega)
 ·simp only[QY,Xp,idM,Xh];omega
 ·simp only[QY,Xp,idM,Xh] at hi ⊢
  rw[Xi (by rw[Xh];exact hi),XN hi]
  exact J4 (by omega)
theorem QvE{b c x:G}{h k:Mo}(hh:MOk b x h)(hk:MOk c x k):QY (inR b c) (cop h k)=k:=by
 have l1:=hk.ln
 have l2:=hk.le
 refine JF (Yd ?_ fun i hi=>?_) (Yd ?_ fun i hi=>?_)
 ·simp only[QY,Xp,inR,Xh];omega
 ·simp only[QY,Xp,inR,Xh] at hi ⊢
  rw[Xi (by rw[Xh];exact hi),Y4 hi]
  exact Qei hh hk hi
 ·simp only[QY,Xp,inR,Xh];omega
 ·simp only[QY,Xp,inR,Xh] at hi ⊢
  rw[Xi (by rw[Xh];exact hi),Y4 hi]
  exact QvC hh hk hi
theorem QWM{b c x:G}{u v:Mo}(hu:MOk (unG b c) x u)(hv:MOk (unG b c) x v)(h1:QY (idM b) u=QY (idM b) v)(h2:QY (inR b c) u=QY (inR b c) v):u=v:=by
 have hl:=JH b c
 refine JF (Yd (by rw[hu.ln,hv.ln]) fun i hi=>?_) (Yd (by rw[hu.le,hv.le]) fun i hi=>?_)
 ·rw[hu.ln,hl.1] at hi
  rcases QbU hi with h|⟨j,h,rfl⟩
  ·have:=QbR h1 (i:=i) (by simp [idM,Xh];exact h) (by simp [idM,Xh];exact h)
   simp only[idM] at this
   rwa [XN h] at this
  ·have:=QbR h2 (i:=j) (by simp [inR,Xh];exact h) (by simp [inR,Xh];exact h)
   simp only[inR] at this
   rw[Y4 h] at this
   rw[show ((b.n.length+j:Nat):Int)=(b.n.length:Int)+j by omega]
   exact this
 ·rw[hu.le,hl.2] at hi
  rcases QbU hi with h|⟨j,h,rfl⟩
  ·have:=QbS h1 (i:=i) (by simp [idM,Xh];exact h) (by simp [idM,Xh];exact h)
   simp only[idM] at this
   rwa [XN h] at this
  ·have:=QbS h2 (i:=j) (by simp [inR,Xh];exact h) (by simp [inR,Xh];exact h)
   simp only[inR] at this
   rw[Y4 h] at this
   rw[show ((b.e.length+j:Nat):Int)=(b.e.length:Int)+j by omega]
   exact this
structure SOk(s:Sp):Prop where
 f:MOk s.a s.b s.f
 g:MOk s.a s.c s.g
 s:¬Big s.b s.c
theorem spE_ok{s:Sp}:spE s=0↔MOk s.a s.b s.f∧MOk s.a s.c s.g:=by
 rw[←mok,←mok]
 unfold spE
 split
 ·rename_i h;exact⟨fun e=>absurd e h,fun e=>absurd e.1 h⟩
 ·rename_i h;exact⟨fun e=>⟨Qo.1 h,e⟩,fun e=>e.2⟩
theorem poErr_ok{s:Sp}:Yt s=0↔SOk s:=by
 unfold Yt
 split
 ·rename_i h;exact⟨fun e=>absurd e h,fun e=>absurd (spE_ok.2 ⟨e.f,e.g⟩) h⟩
 ·rename_i h
  have h:=spE_ok.1 (Qo.1 h)
  split
  ·rename_i hb;exact⟨fun e=>absurd e (by decide),fun e=>absurd hb e.s⟩
  ·rename_i hb;exact⟨fun _=>⟨h.1,h.2,hb⟩,fun _=>rfl⟩
section
variable {s:Sp}
theorem SOk.uF(h:SOk s):MOk s.a (unG s.b s.c) (poF s):=JG h.f (Qa5 h.f.vb h.g.vb h.s)
theorem SOk.uH(h:SOk s):MOk s.a (unG s.b s.c) (poH s):=JG h.g (Qa6 h.f.vb h.g.vb h.s)
theorem SOk.q(h:SOk s):MOk (unG s.b s.c) (poG s) (poQ s):=Quw h.uF h.uH
theorem SOk.p(h:SOk s):MOk s.b (poG s) (poP s):=JG (Qa5 h.f.vb h.g.vb h.s) h.q
theorem SOk.k(h:SOk s):MOk s.c (poG s) (poK s):=JG (Qa6 h.f.vb h.g.vb h.s) h.q
theorem SOk.comm(h:SOk s):QY s.f (poP s)=QY s.g (poK s):=by
 unfold poP poK
 rw[←Jt h.f (Qa5 h.f.vb h.g.vb h.s),←Jt h.g (Qa6 h.f.vb h.g.vb h.s)]
 exact QWD h.uF h.uH
theorem SOk.med(hs:SOk s){x:G}{h k:Mo}(hh:MOk s.b x h)(hk:MOk s.c x k)(e:QY s.f h=QY s.g k):∃u,MOk (poG s) x u∧QY (poP s) u=h∧QY (poK s) u=k:=by
 have hc:=QWL hh hk hs.s
 have il:=Qa5 hs.f.vb hs.g.vb hs.s
 have ir:=Qa6 hs.f.vb hs.g.vb hs.s
 have e2:QY (poF s) (cop h k)=QY (poH s) (cop h k):=by
  unfold poF poH
  rw[Jt hs.f il,Jt hs.g ir,QvD hh hk,QvE hh hk,e]
 obtain⟨u,hu,hu2⟩:=QWE hs.uF hs.uH hc e2
 refine⟨u,hu,?_,?_⟩
 ·unfold poP
  rw[Jt il hs.q]
  unfold poQ
  rw[hu2,QvD hh hk]
 ·unfold poK
  rw[Jt ir hs.q]
  unfold poQ
  rw[hu2,QvE hh hk]
theorem SOk.one(hs:SOk s){x:G}{u v:Mo}(hu:MOk (poG s) x u)(hv:MOk (poG s) x v)(h1:QY (poP s) u=QY (poP s) v)(h2:QY (poK s) u=QY (poK s) v):u=v:=by
 have il:=Qa5 hs.f.vb hs.g.vb hs.s
 have ir:=Qa6 hs.f.vb hs.g.vb hs.s
 refine QWF hs.uF hs.uH hu hv (QWM (JG hs.q hu) (JG hs.q hv) ?_ ?_)
 ·exact (Jt il hs.q).symm.trans (h1.trans (Jt il hs.q))
 ·exact (Jt ir hs.q).symm.trans (h2.trans (Jt ir hs.q))
theorem SOk.surN(hs:SOk s){j:Nat}(hj:j<(poG s).n.length):(∃i:Nat,i<s.b.n.length∧gt (poP s).n i=j)∨∃i:Nat,i<s.c.n.length∧gt (poK s).n i=j:=by
 obtain⟨i,hi,hi2⟩:=Quy hs.uF hs.uH hj
 rw[(JH _ _).1] at hi
 rcases QbU hi with h|⟨k,h,rfl⟩
 ·refine .inl ⟨i,h,?_⟩
  simp only[poP,QY,idM]
  rw[Xi (by rw[Xh];exact h),XN h]
  exact hi2
 ·refine .inr ⟨k,h,?_⟩
  simp only[poK,QY,inR]
  rw[Xi (by rw[Xh];exact h),Y4 h,show (s.b.n.length:Int)+k=((s.b.n.length+k:Nat):Int) by omega]
  exact hi2
theorem SOk.surE(hs:SOk s){j:Nat}(hj:j<(poG s).e.length):(∃i:Nat,i<s.b.e.length∧gt (poP s).e i=j)∨∃i:Nat,i<s.c.e.length∧gt (poK s).e i=j:=by
 obtain⟨i,hi,hi2⟩:=Quz hs.uF hs.uH hj
 rw[(JH _ _).2] at hi
 rcases QbU hi with h|⟨k,h,rfl⟩
 ·refine .inl ⟨i,h,?_⟩
  simp only[poP,QY,idM]
  rw[Xi (by rw[Xh];exact h),XN h]
  exact hi2
 ·refine .inr ⟨k,h,?_⟩
  simp only[poK,QY,inR]
  rw[Xi (by rw[Xh];exact h),Y4 h,show (s.b.e.length:Int)+k=((s.b.e.length+k:Nat):Int) by omega]
  exact hi2
theorem QvF{p h q k w:List Int}(h1:∀i:Nat,i<p.length→0≤gt p i∧gt w (gt p i)=gt h i)(h2:∀i:Nat,i<q.length→0≤gt q i∧gt w (gt q i)=gt k i)(hc:∀j:Nat,j<w.length→(∃i:Nat,i<p.length∧gt p i=j)∨∃i:Nat,i<q.length∧gt q i=j):
  Qef w.length p h q k=w:=by
 unfold Qef
 refine Yd (by simp [Z9]) fun j hj=>?_
 simp only[Z9,List.length_replicate] at hj
 rcases Qd7 (z:=XR h p (List.replicate w.length 0) p.length) h2 j (by simp [Z9];exact hj) with e|⟨e,e2⟩
 ·exact e
 ·rw[e]
  rcases Qd7 (z:=List.replicate w.length 0) h1 j (by simp;exact hj) with d|⟨_,d⟩
  ·exact d
  ·rcases hc j hj with⟨i,i1,i2⟩|⟨i,i1,i2⟩
   ·exact absurd i2 (d i i1)
   ·exact absurd i2 (e2 i i1)
theorem SOk.medU(hs:SOk s){x:G}{u:Mo}(hu:MOk (poG s) x u):medU s (QY (poP s) u) (QY (poK s) u)=u:=by
 have lp:=hs.p.ln
 have lk:=hs.k.ln
 have mp:=hs.p.le
 have mk:=hs.k.le
 refine JF ?_ ?_
 ·simp only[Am.medU]
  rw[←hu.ln]
  refine QvF (fun i hi=>⟨?_,?_⟩) (fun i hi=>⟨?_,?_⟩) fun j hj=>?_
  ·exact (hs.p.nd i (by omega)).1.1
  ·simp only[QY];rw[Xi hi]
  ·exact (hs.k.nd i (by omega)).1.1
  ·simp only[QY];rw[Xi hi]
  ·rw[hu.ln] at hj
   rw[lp,lk];exact hs.surN hj
 ·simp only[Am.medU]
  rw[←hu.le]
  refine QvF (fun i hi=>⟨?_,?_⟩) (fun i hi=>⟨?_,?_⟩) fun j hj=>?_
  ·exact (hs.p.ed i (by omega)).1.1
  ·simp only[QY];rw[Xi hi]
  ·exact (hs.k.ed i (by omega)).1.1
  ·simp only[QY];rw[Xi hi]
  ·rw[hu.le] at hj
   rw[mp,mk];exact hs.surE hj
theorem cocE_ok{x:G}{h k:Mo}:Qeg s x h k=0↔SOk s∧MOk s.b x h∧MOk s.c x k∧QY s.f h=QY s.g k:=by
 unfold Qeg
 split
 ·rename_i e;exact⟨fun h=>absurd h e,fun h=>absurd (spE_ok.2 ⟨h.1.f,h.1.g⟩) e⟩
 rename_i e1
 have e1:=spE_ok.1 (Qo.1 e1)
 split
 ·rename_i e;exact⟨fun h=>absurd h e,fun h=>absurd (mok.2 h.2.1) e⟩
 rename_i e2
 have e2:=mok.1 (Qo.1 e2)
 split
 ·rename_i e;exact⟨fun h=>absurd h e,fun h=>absurd (mok.2 h.2.2.1) e⟩
 rename_i e3
 have e3:=mok.1 (Qo.1 e3)
 split
 ·rename_i e;exact⟨fun h=>absurd h (by decide),fun h=>absurd e h.1.s⟩
 rename_i e4
 split
 ·rename_i e;exact⟨fun _=>⟨⟨e1.1,e1.2,e4⟩,e2,e3,e⟩,fun _=>rfl⟩
 ·rename_i e;exact⟨fun h=>absurd h (by decide),fun h=>absurd h.2.2.2 e⟩
end
end
inductive Cnd where
 |tt
 |no (c:Cnd)
 |an (l:List Cnd)
 |or (l:List Cnd)
 |ex (m:Mo) (p:G) (c:Cnd)
 deriving Inhabited
structure Emb(a b:G)(m:Mo):Prop where
 ok:MOk a b m
 jn:∀i k:Nat,i<a.n.length→k<a.n.length→gt m.n (i:Int)=gt m.n (k:Int)→i=k
 je:∀i k:Nat,i<a.e.length→k<a.e.length→gt m.e (i:Int)=gt m.e (k:Int)→i=k
mutual
def XK(x:G):Cnd→Mo→Prop
 | .tt,_=>True
 | .no c,h=>¬XK x c h
 | .an l,h=>Jb x l h
 | .or l,h=>Zw x l h
 | .ex m p c,h=>∃q,Emb p x q∧QY m q=h∧XK x c q
def Jb(x:G):List Cnd→Mo→Prop
 |[],_=>True
 |c::l,h=>XK x c h∧Jb x l h
def Zw(x:G):List Cnd→Mo→Prop
 |[],_=>False
 |c::l,h=>XK x c h∨Zw x l h
end
mutual
def Q3:G→Cnd→Prop
 |_,.tt=>True
 |a,.no c=>Q3 a c
 |a,.an l=>l≠[]∧YK a l
 |a,.or l=>l≠[]∧YK a l
 |a,.ex m p c=>Emb a p m∧Q3 p c
def YK:G→List Cnd→Prop
 |_,[]=>True
 |a,c::l=>Q3 a c∧YK a l
end
section
theorem QvG{x:G}{h:Mo}:∀{l:List Cnd},Zw x l h↔∃c∈l,XK x c h
 |[]=>by simp [Zw]
 |c::l=>by simp only[Zw,QvG (l:=l),Qh,exists_eq_or_imp]
theorem Ju{a:G}:∀{l:List Cnd},YK a l↔∀c∈l,Q3 a c
 |[]=>by simp [YK]
 |c::l=>by simp only[YK,Ju (l:=l),Qh,QG]
theorem Emb.comp{a b c:G}{m n:Mo}(h:Emb a b m)(k:Emb b c n):Emb a c (QY m n):=by
 have l1:=h.ok.ln
 have l2:=h.ok.le
 refine⟨JG h.ok k.ok,fun i j hi hj e=>?_,fun i j hi hj e=>?_⟩
 ·simp only[QY] at e
  rw[Xi (by omega),Xi (by omega)] at e
  obtain⟨u,hu,hu2⟩:=gtI (h.ok.nd i hi).1
  obtain⟨v,hv,hv2⟩:=gtI (h.ok.nd j hj).1
  rw[hu2,hv2] at e
  have:=k.jn u v hu hv e
  exact h.jn i j hi hj (by rw[hu2,hv2,this])
 ·simp only[QY] at e
  rw[Xi (by omega),Xi (by omega)] at e
  obtain⟨u,hu,hu2⟩:=gtI (h.ok.ed i hi).1
  obtain⟨v,hv,hv2⟩:=gtI (h.ok.ed j hj).1
  rw[hu2,hv2] at e
  have:=k.je u v hu hv e
  exact h.je i j hi hj (by rw[hu2,hv2,this])
def Xy(n:Nat):List Int→List Int
 |[]=>[]
 |k::l=>if k<0 then (n:Int)::Xy (n+1) l else k::Xy n l
def nwL{α:Type}:List Int→List α→List α
 |k::l,v::vs=>if k<0 then v::nwL l vs else nwL l vs
 |_,_=>[]
theorem JI:∀(l:List Int)(n:Nat),(Xy n l).length=l.length
 |[],n=>rfl
 |k::l,n=>by
  rw[Xy]
  split<;>simp [JI l]
theorem Qa7{α:Type}[Inhabited α]:∀{l:List Int}{v H:List α}{n:Nat},H.length=n→v.length=l.length→(∀i:Nat,i<l.length→gt l (i:Int)<n)→∀i:Nat,i<l.length→
  (0≤gt (Xy n l) (i:Int)∧gt (Xy n l) (i:Int)<(H++nwL l v).length)∧gt (H++nwL l v) (gt (Xy n l) (i:Int))=if gt l (i:Int)<0 then gt v (i:Int) else gt H (gt l (i:Int))
 |[],v,H,n,_,_,_,i,hi=>by simp at hi
 |k::l,[],H,n,_,hv,_,i,hi=>by simp at hv
 |k::l,w::v,H,n,hH,hv,hb,i,hi=>by
  have h0:=hb 0 (by simp)
  rw[Yx] at h0
  have hb':∀i:Nat,i<l.length→gt l (i:Int)<n:=fun i hi=>by
   have:=hb (i+1) (by simpa using hi)
   rwa [X0] at this
  by_cases hk:k<0
  ·rw[Xy,nwL,if_pos hk,if_pos hk]
   have e:H++w::nwL l v=(H++[w])++nwL l v:=by simp
   cases i with
   |zero=>
    rw[Yx,Yx,Yx,if_pos hk]
    refine⟨⟨by omega,by simp;omega⟩,?_⟩
    rw[Xc (by simp;omega),List.getElem_append_right (by omega)]
    simp [hH]
   |succ i=>
    rw[X0,X0,X0,e]
    obtain⟨h1,h2⟩:=Qa7 (l:=l) (v:=v) (H:=H++[w]) (n:=n+1) (by simp [hH]) (by simpa using hv) (fun i hi=>by have:=hb' i hi;omega) i (by simpa using hi)
    refine⟨h1,?_⟩
    rw[h2]
    split
    ·rfl
    ·have h3:=hb' i (by simpa using hi)
     obtain⟨j,hj⟩:=Qz (show 0≤gt l (i:Int) by omega)
     rw[hj] at h3 ⊢
     rw[Xc (by simp;omega),Xc (by omega),List.getElem_append_left (by omega)]
  ·rw[Xy,nwL,if_neg hk,if_neg hk]
   cases i with
   |zero=>
    rw[Yx,Yx,if_neg hk]
    refine⟨⟨by omega,by simp;omega⟩,?_⟩
    obtain⟨j,hj⟩:=Qz (show 0≤k by omega)
    rw[hj] at h0 ⊢
    rw[Xc (by simp;omega),Xc (by omega),List.getElem_append_left (by omega)]
   |succ i=>
    rw[X0,X0,X0]
    exact Qa7 hH (by simpa using hv) hb' i (by simpa using hi)
theorem Jv:∀{l:List Int}{n:Nat}{i:Nat},i<l.length→(gt l (i:Int)<0→(n:Int)≤gt (Xy n l) (i:Int))∧(0≤gt l (i:Int)→gt (Xy n l) (i:Int)=gt l (i:Int))
 |[],n,i,hi=>by simp at hi
 |k::l,n,i,hi=>by
  by_cases hk:k<0
  ·rw[Xy,if_pos hk]
   cases i with
   |zero=>rw[Yx,Yx];exact⟨fun _=>by omega,fun h=>by omega⟩
   |succ i=>
    rw[X0,X0]
    obtain⟨h1,h2⟩:=Jv (l:=l) (n:=n+1) (i:=i) (by simpa using hi)
    exact⟨fun h=>by have:=h1 h;omega,h2⟩
  ·rw[Xy,if_neg hk]
   cases i with
   |zero=>rw[Yx,Yx];exact⟨fun h=>by omega,fun _=>rfl⟩
   |succ i=>
    rw[X0,X0]
    exact Jv (by simpa using hi)
theorem Qej:∀{l:List Int}{n:Nat}{i k:Nat},i<l.length→k<l.length→gt l (i:Int)<0→gt l (k:Int)<0→gt (Xy n l) (i:Int)=gt (Xy n l) (k:Int)→i=k
 |[],n,i,k,hi,_,_,_,_=>by simp at hi
 |x::l,n,i,k,hi,hk,h1,h2,e=>by
  by_cases hx:x<0
  ·rw[Xy,if_pos hx] at e
   cases i with
   |zero=>
    cases k with
    |zero=>rfl
    |succ k=>
     rw[Yx,X0] at e
     rw[X0] at h2
     have:=(Jv (l:=l) (n:=n+1) (i:=k) (by simpa using hk)).1 h2
     omega
   |succ i=>
    cases k with
    |zero=>
     rw[Yx,X0] at e
     rw[X0] at h1
     have:=(Jv (l:=l) (n:=n+1) (i:=i) (by simpa using hi)).1 h1
     omega
    |succ k=>
     rw[X0,X0] at e
     rw[X0] at h1 h2
     have:=Qej (l:=l) (n:=n+1) (by simpa using hi) (by simpa using hk) h1 h2 e
     omega
  ·rw[Xy,if_neg hx] at e
   cases i with
   |zero=>rw[Yx] at h1;omega
   |succ i=>
    cases k with
    |zero=>rw[Yx] at h2;omega
    |succ k=>
     rw[X0,X0] at e
     rw[X0] at h1 h2
     have:=Qej (l:=l) (n:=n) (by simpa using hi) (by simpa using hk) h1 h2 e
     omega
theorem Qek{α:Type}:∀{l:List Int}{v:List α}{n:Nat}{j:Nat},v.length=l.length→n≤j→j<n+(nwL l v).length→∃i:Nat,i<l.length∧gt l (i:Int)<0∧gt (Xy n l) (i:Int)=j
 |[],v,n,j,_,h1,h2=>by cases v<;>simp [nwL] at h2<;>omega
 |k::l,[],n,j,hv,_,_=>by simp at hv
 |k::l,w::v,n,j,hv,h1,h2=>by
  by_cases hk:k<0
  ·rw[nwL,if_pos hk] at h2
   rw[Xy,if_pos hk]
   by_cases hj:j=n
   ·exact⟨0,by simp,by rw[Yx];exact hk,by rw[Yx,hj]⟩
   ·obtain⟨i,h3,h4,h5⟩:=Qek (l:=l) (v:=v) (n:=n+1) (j:=j) (by simpa using hv) (by omega) (by simp at h2;omega)
    exact⟨i+1,by simpa using h3,by rw[X0];exact h4,by rw[X0];exact h5⟩
  ·rw[nwL,if_neg hk] at h2
   rw[Xy,if_neg hk]
   obtain⟨i,h3,h4,h5⟩:=Qek (l:=l) (v:=v) (n:=n) (j:=j) (by simpa using hv) h1 h2
   exact⟨i+1,by simpa using h3,by rw[X0];exact h4,by rw[X0];exact h5⟩
end
def Bd(n:Nat)(x:Int):Prop:=0≤x∧x<n
structure Bx(A B C D:Nat)(f g h k:Int→Int):Prop where
 bf:∀a,Bd A a→Bd B (f a)
 bg:∀a,Bd A a→Bd C (g a)
 bh:∀b,Bd B b→Bd D (h b)
 bk:∀c,Bd C c→Bd D (k c)
 cm:∀a,Bd A a→h (f a)=k (g a)
 mo:∀b c,Bd B b→Bd C c→h b=k c→∃a,Bd A a∧f a=b∧g a=c
 cv:∀d,Bd D d→(∃b,Bd B b∧h b=d)∨∃c,Bd C c∧k c=d
 ih:∀x y,Bd B x→Bd B y→h x=h y→x=y
 ik:∀x y,Bd C x→Bd C y→k x=k y→x=y
structure Rl(κ:Int→Int→Prop)(L R D S X:Nat)(q h u v:Int→Int):Prop where
 bq:∀l,Bd L l→Bd S (q l)
 bh:∀r,Bd R r→Bd X (h r)
 bu:∀d,Bd D d→Bd S (u d)
 bv:∀d,Bd D d→Bd X (v d)
 iq:∀x y,Bd L x→Bd L y→q x=q y→x=y
 ih:∀x y,Bd R x→Bd R y→h x=h y→x=y
 iu:∀x y,Bd D x→Bd D y→u x=u y→x=y
 iv:∀x y,Bd D x→Bd D y→v x=v y→x=y
 bl:∀l r,κ l r→Bd L l∧Bd R r
 kd:∀l r,κ l r→∃d,Bd D d∧u d=q l∧v d=h r
 cs:∀s,Bd S s→(∃l,Bd L l∧q l=s)∨∃d,Bd D d∧u d=s
 cx:∀x,Bd X x→(∃r,Bd R r∧h r=x)∨∃d,Bd D d∧v d=x
 ms:∀l d,Bd L l→Bd D d→q l=u d→∃r,κ l r
 mx:∀r d,Bd R r→Bd D d→h r=v d→∃l,κ l r
section
theorem Rl.sw{κ:Int→Int→Prop}{L R D S X:Nat}{q h u v:Int→Int}(r:Rl κ L R D S X q h u v):Rl (fun a b=>κ b a) R L D X S h q v u:=
 ⟨r.bh,r.bq,r.bv,r.bu,r.ih,r.iq,r.iv,r.iu,fun a b k=>⟨(r.bl b a k).2,(r.bl b a k).1⟩,fun a b k=>let ⟨d,h1,h2,h3⟩:=r.kd b a k;⟨d,h1,h3,h2⟩,r.cx,r.cs,r.mx,r.ms⟩
open Classical in
theorem QvH{A L C R Y Z D S X:Nat}{f g i p c n m q h u v k:Int→Int}(bY:Bx A L C Y f g p c)(bZ:Bx A R C Z i g n m)
  (r:Rl (fun a b=>∃t,Bd A t∧f t=a∧i t=b) L R D S X q h u v) (bk:∀y,Bd Y y→Bd S (k y)) (ik:∀x y,Bd Y x→Bd Y y→k x=k y→x=y) (hk:∀l,Bd L l→k (p l)=q l):
  ∃k' w:Int→Int,(∀t,Bd C t→Bd D (w t)∧u (w t)=k (c t))∧(∀t,Bd R t→k' (n t)=h t)∧(∀t,Bd C t→k' (m t)=v (w t))∧(∀z,Bd Z z→Bd X (k' z))∧(∀x y,Bd Z x→Bd Z y→k' x=k' y→x=y)∧
   Rl (fun a b=>∃t,Bd C t∧c t=a∧m t=b) Y Z D S X k k' u v:=by
 --what the common part is in the host
 have hw:∀t,Bd C t→∃d,Bd D d∧u d=k (c t):=fun t ht=>by
  rcases r.cs _ (bk _ (bY.bk t ht)) with⟨l,hl,e⟩|⟨d,hd,e⟩
  ·rw[←hk l hl] at e
   have e2:=ik _ _ (bY.bh l hl) (bY.bk t ht) e
   obtain⟨a,ha,h1,h2⟩:=bY.mo l t hl ht e2
   obtain⟨d,hd,h3,_⟩:=r.kd l (i a) ⟨a,ha,h1,rfl⟩
   exact⟨d,hd,by rw[h3,←hk l hl,e2]⟩
  ·exact⟨d,hd,e⟩
 let w:Int→Int:=fun t=>if ht:Bd C t then (hw t ht).choose else 0
 have w1:∀t,Bd C t→Bd D (w t)∧u (w t)=k (c t):=fun t ht=>by
  simp only[w,dif_pos ht]
  exact (hw t ht).choose_spec
 have wg:∀a,Bd A a→v (w (g a))=h (i a):=fun a ha=>by
  obtain⟨d,hd,h1,h2⟩:=r.kd (f a) (i a) ⟨a,ha,rfl,rfl⟩
  obtain⟨h3,h4⟩:=w1 (g a) (bY.bg a ha)
  have:w (g a)=d:=r.iu _ _ h3 hd (by rw[h4,h1,←bY.cm a ha,hk _ (bY.bf a ha)])
  rw[this,h2]
 have wi:∀x y,Bd C x→Bd C y→w x=w y→x=y:=fun x y hx hy e=>by
  have h1:=(w1 x hx).2
  have h2:=(w1 y hy).2
  rw[e,h2] at h1
  exact bY.ik x y hx hy (ik _ _ (bY.bk x hx) (bY.bk y hy) h1.symm)
 let k':Int→Int:=fun z=>if hz:∃t,Bd R t∧n t=z then h hz.choose else if hz:∃t,Bd C t∧m t=z then v (w hz.choose) else 0
 have kn:∀t,Bd R t→k' (n t)=h t:=fun t ht=>by
  have hz:∃s,Bd R s∧n s=n t:=⟨t,ht,rfl⟩
  simp only[k',dif_pos hz]
  rw[bZ.ih _ _ hz.choose_spec.1 ht hz.choose_spec.2]
 have km:∀t,Bd C t→k' (m t)=v (w t):=fun t ht=>by
  by_cases hz:∃s,Bd R s∧n s=m t
  ·obtain⟨s,hs,e⟩:=hz
   obtain⟨a,ha,h1,h2⟩:=bZ.mo s t hs ht e
   rw[←e,kn s hs,←h1,←h2,wg a ha]
  ·have hz2:∃s,Bd C s∧m s=m t:=⟨t,ht,rfl⟩
   simp only[k',dif_neg hz,dif_pos hz2]
   rw[bZ.ik _ _ hz2.choose_spec.1 ht hz2.choose_spec.2]
 have mixed:∀s t,Bd R s→Bd C t→h s=v (w t)→n s=m t:=fun s t hs ht e=>by
  obtain⟨l,a,ha,h1,h2⟩:=r.mx s (w t) hs (w1 t ht).1 e
  have h3:=wg a ha
  rw[h2,e] at h3
  have h4:=r.iv _ _ (w1 (g a) (bY.bg a ha)).1 (w1 t ht).1 h3
  have h5:=wi _ _ (bY.bg a ha) ht h4
  rw[←h2,bZ.cm a ha,h5]
 have kb:∀z,Bd Z z→Bd X (k' z):=fun z hz=>by
  rcases bZ.cv z hz with⟨t,ht,rfl⟩|⟨t,ht,rfl⟩
  ·rw[kn t ht];exact r.bh t ht
  ·rw[km t ht];exact r.bv _ (w1 t ht).1
 have ki:∀x y,Bd Z x→Bd Z y→k' x=k' y→x=y:=fun x y hx hy e=>by
  rcases bZ.cv x hx with⟨s,hs,rfl⟩|⟨s,hs,rfl⟩<;>rcases bZ.cv y hy with⟨t,ht,rfl⟩|⟨t,ht,rfl⟩
  ·rw[kn s hs,kn t ht] at e
   rw[r.ih s t hs ht e]
  ·rw[kn s hs,km t ht] at e
   exact mixed s t hs ht e
  ·rw[km s hs,kn t ht] at e
   exact (mixed t s ht hs e.symm).symm
  ·rw[km s hs,km t ht] at e
   rw[wi s t hs ht (r.iv _ _ (w1 s hs).1 (w1 t ht).1 e)]
 refine⟨k',w,w1,kn,km,kb,ki,⟨bk,kb,r.bu,r.bv,ik,ki,r.iu,r.iv,?_,?_,?_,?_,?_,?_⟩⟩
 ·rintro a b ⟨t,ht,rfl,rfl⟩
  exact⟨bY.bk t ht,bZ.bk t ht⟩
 ·rintro a b ⟨t,ht,rfl,rfl⟩
  exact⟨w t,(w1 t ht).1,(w1 t ht).2,(km t ht).symm⟩
 ·intro s hs
  rcases r.cs s hs with⟨l,hl,e⟩|h1
  ·exact .inl ⟨p l,bY.bh l hl,by rw[hk l hl,e]⟩
  ·exact .inr h1
 ·intro x hx
  rcases r.cx x hx with⟨s,hs,e⟩|h1
  ·exact .inl ⟨n s,bZ.bh s hs,by rw[kn s hs,e]⟩
  ·exact .inr h1
 ·intro y d hy hd e
  rcases bY.cv y hy with⟨l,hl,rfl⟩|⟨t,ht,rfl⟩
  ·rw[hk l hl] at e
   obtain⟨b,a,ha,h1,h2⟩:=r.ms l d hl hd e
   exact⟨m (g a),g a,bY.bg a ha,by rw[←bY.cm a ha,h1],rfl⟩
  ·exact⟨m t,t,ht,rfl,rfl⟩
 ·intro z d hz hd e
  rcases bZ.cv z hz with⟨s,hs,rfl⟩|⟨t,ht,rfl⟩
  ·rw[kn s hs] at e
   obtain⟨l,a,ha,h1,h2⟩:=r.mx s d hs hd e
   exact⟨c (g a),g a,bY.bg a ha,rfl,by rw[←bZ.cm a ha,h2]⟩
  ·exact⟨c t,t,ht,rfl,rfl⟩
end
def Kpr(n:Nat)(f i:List Int)(a b:Int):Prop:=∃t,Bd n t∧gt f t=a∧gt i t=b
structure BxG(A B C D:G)(f g h k:Mo):Prop where
 ef:Emb A B f
 eg:Emb A C g
 eh:Emb B D h
 ek:Emb C D k
 bn:Bx A.n.length B.n.length C.n.length D.n.length (gt f.n) (gt g.n) (gt h.n) (gt k.n)
 be:Bx A.e.length B.e.length C.e.length D.e.length (gt f.e) (gt g.e) (gt h.e) (gt k.e)
structure RelG(κ ε:Int→Int→Prop)(L R D S X:G)(q h u v:Mo):Prop where
 eq:Emb L S q
 eh:Emb R X h
 eu:Emb D S u
 ev:Emb D X v
 rn:Rl κ L.n.length R.n.length D.n.length S.n.length X.n.length (gt q.n) (gt h.n) (gt u.n) (gt v.n)
 re:Rl ε L.e.length R.e.length D.e.length S.e.length X.e.length (gt q.e) (gt h.e) (gt u.e) (gt v.e)
section
theorem Bd.nat{n:Nat}{x:Int}(h:Bd n x):∃i:Nat,i<n∧x=i:=⟨x.toNat,by have:=h.1;have:=h.2;omega,by have:=h.1;omega⟩
theorem Bd.of{n i:Nat}(h:i<n):Bd n (i:Int):=⟨by omega,by omega⟩
theorem Emb.bn{a b:G}{m:Mo}(h:Emb a b m){x:Int}(hx:Bd a.n.length x):Bd b.n.length (gt m.n x):=by
 obtain⟨i,hi,rfl⟩:=hx.nat
 exact (h.ok.nd i hi).1
theorem Emb.be{a b:G}{m:Mo}(h:Emb a b m){x:Int}(hx:Bd a.e.length x):Bd b.e.length (gt m.e x):=by
 obtain⟨i,hi,rfl⟩:=hx.nat
 exact (h.ok.ed i hi).1
theorem Emb.tn{a b:G}{m:Mo}(h:Emb a b m){x:Int}(hx:Bd a.n.length x):gt b.n (gt m.n x)=gt a.n x:=by
 obtain⟨i,hi,rfl⟩:=hx.nat
 exact (h.ok.nd i hi).2
theorem Emb.te{a b:G}{m:Mo}(h:Emb a b m){x:Int}(hx:Bd a.e.length x):(gt a.e x).t=(gt b.e (gt m.e x)).t∧gt m.n (gt a.e x).f=(gt b.e (gt m.e x)).f∧gt m.n (gt a.e x).o=(gt b.e (gt m.e x)).o:=by
 obtain⟨i,hi,rfl⟩:=hx.nat
 exact (h.ok.ed i hi).2
theorem Emb.in{a b:G}{m:Mo}(h:Emb a b m){x y:Int}(hx:Bd a.n.length x)(hy:Bd a.n.length y)(e:gt m.n x=gt m.n y):x=y:=by
 obtain⟨i,hi,rfl⟩:=hx.nat
 obtain⟨k,hk,rfl⟩:=hy.nat
 rw[h.jn i k hi hk e]
theorem Emb.ie{a b:G}{m:Mo}(h:Emb a b m){x y:Int}(hx:Bd a.e.length x)(hy:Bd a.e.length y)(e:gt m.e x=gt m.e y):x=y:=by
 obtain⟨i,hi,rfl⟩:=hx.nat
 obtain⟨k,hk,rfl⟩:=hy.nat
 rw[h.je i k hi hk e]
theorem JJ{g:G}(v:QX g=0){x:Int}(hx:Bd g.e.length x):Bd g.n.length (gt g.e x).f∧Bd g.n.length (gt g.e x).o:=by
 obtain⟨_,_,_,h4⟩:=Q8 v
 have:=h4 _ (gt_mem (l:=g.e) (j:=x) hx.1 hx.2)
 simp only[XP,Qi,Qk] at this
 exact⟨⟨by omega,by omega⟩,⟨by omega,by omega⟩⟩
def Jw(n:Nat)(f:Int→Int):List Int:=(List.range n).map fun i:Nat=>f (i:Int)
theorem Qio(n:Nat)(f:Int→Int):(Jw n f).length=n:=by simp [Jw]
theorem QvI{n:Nat}{f:Int→Int}{x:Int}(hx:Bd n x):gt (Jw n f) x=f x:=by
 obtain⟨i,hi,rfl⟩:=hx.nat
 rw[Xc (by rw[Qio];exact hi)]
 simp [Jw]
theorem Qip{a b c:G}{m n:Mo}(h:MOk a b m){x:Int}(hx:Bd a.n.length x):gt (QY m n).n x=gt n.n (gt m.n x):=by
 obtain⟨i,hi,rfl⟩:=hx.nat
 exact Xi (by rw[h.ln];exact hi)
theorem Qiq{a b c:G}{m n:Mo}(h:MOk a b m){x:Int}(hx:Bd a.e.length x):gt (QY m n).e x=gt n.e (gt m.e x):=by
 obtain⟨i,hi,rfl⟩:=hx.nat
 exact Xi (by rw[h.le];exact hi)
theorem QvJ{a b:G}{m n:Mo}{k:Mo}(h:MOk a b m)(l1:k.n.length=a.n.length)(l2:k.e.length=a.e.length)(e1:∀x,Bd a.n.length x→gt n.n (gt m.n x)=gt k.n x)(e2:∀x,Bd a.e.length x→gt n.e (gt m.e x)=gt k.e x):QY m n=k:=by
 have:=h.ln
 have:=h.le
 refine JF (Yd (by simp only[QY,Xp];omega) fun i hi=>?_) (Yd (by simp only[QY,Xp];omega) fun i hi=>?_)
 ·simp only[QY,Xp] at hi ⊢
  rw[Xi hi]
  exact e1 _ (Bd.of (by omega))
 ·simp only[QY,Xp] at hi ⊢
  rw[Xi hi]
  exact e2 _ (Bd.of (by omega))
theorem QvK{A L C R Y Z D S X:G}{f g i p c n m q h u v k:Mo}(bY:BxG A L C Y f g p c)(bZ:BxG A R C Z i g n m)
  (r:RelG (Kpr A.n.length f.n i.n) (Kpr A.e.length f.e i.e) L R D S X q h u v) (hk:Emb Y S k) (ek:QY p k=q):
  ∃k',Emb Z X k'∧QY n k'=h∧RelG (Kpr C.n.length c.n m.n) (Kpr C.e.length c.e m.e) Y Z D S X k k' u v:=by
 have kn:∀l,Bd L.n.length l→gt k.n (gt p.n l)=gt q.n l:=fun l hl=>by rw[←ek,Qip (c:=S) bY.eh.ok hl]
 have ke:∀l,Bd L.e.length l→gt k.e (gt p.e l)=gt q.e l:=fun l hl=>by rw[←ek,Qiq (c:=S) bY.eh.ok hl]
 obtain⟨a,w,a1,a2,a3,a4,a5,a6⟩:=QvH bY.bn bZ.bn r.rn (fun y hy=>hk.bn hy) (fun x y hx hy e=>hk.in hx hy e) kn
 obtain⟨b,z,b1,b2,b3,b4,b5,b6⟩:=QvH bY.be bZ.be r.re (fun y hy=>hk.be hy) (fun x y hx hy e=>hk.ie hx hy e) ke
 have ga:∀x,Bd Z.n.length x→gt (Jw Z.n.length a) x=a x:=fun x hx=>QvI hx
 have gb:∀x,Bd Z.e.length x→gt (Jw Z.e.length b) x=b x:=fun x hx=>QvI hx
 have vZ:=bZ.eh.ok.vb
 have hok:MOk Z X ⟨Jw Z.n.length a,Jw Z.e.length b⟩:=by
  refine⟨vZ,r.eh.ok.vb,Qio _ _,Qio _ _,fun j hj=>?_,fun j hj=>?_⟩
  ·have hjb:=Bd.of hj
   simp only
   rw[ga _ hjb]
   refine⟨a4 _ hjb,?_⟩
   rcases bZ.bn.cv _ hjb with⟨s,hs,e⟩|⟨t,ht,e⟩
   ·rw[←e,a2 s hs,r.eh.tn hs,bZ.eh.tn hs]
   ·rw[←e,a3 t ht,r.ev.tn (a1 t ht).1,bZ.ek.tn ht]
    have:=r.eu.tn (a1 t ht).1
    rw[←this,(a1 t ht).2,hk.tn (bY.ek.bn ht),bY.ek.tn ht]
  ·have hjb:=Bd.of hj
   simp only
   rw[gb _ hjb]
   refine⟨b4 _ hjb,?_⟩
   obtain⟨f1,f2⟩:=JJ vZ hjb
   rw[ga _ f1,ga _ f2]
   rcases bZ.be.cv _ hjb with⟨s,hs,e⟩|⟨t,ht,e⟩
   ·obtain⟨t1,t2,t3⟩:=bZ.eh.te hs
    obtain⟨t4,t5,t6⟩:=r.eh.te hs
    obtain⟨g1,g2⟩:=JJ r.eh.ok.va hs
    rw[←e,b2 s hs,←t1,←t2,←t3,a2 _ g1,a2 _ g2]
    exact⟨t4,t5,t6⟩
   ·obtain⟨t1,t2,t3⟩:=bZ.ek.te ht
    obtain⟨w1,w2⟩:=b1 t ht
    obtain⟨t4,t5,t6⟩:=r.ev.te w1
    obtain⟨g1,g2⟩:=JJ bY.ek.ok.va ht
    obtain⟨d1,d2⟩:=JJ r.ev.ok.va w1
    obtain⟨y1,y2,y3⟩:=bY.ek.te ht
    obtain⟨s1,s2,s3⟩:=hk.te (bY.ek.be ht)
    obtain⟨u1,u2,u3⟩:=r.eu.te w1
    have e1:a (gt m.n (gt C.e t).f)=gt v.n (gt D.e (z t)).f:=by
     rw[a3 _ g1]
     congr 1
     refine r.eu.in (a1 _ g1).1 d1 ?_
     rw[(a1 _ g1).2,u2,w2,←s2,←y2]
    have e2:a (gt m.n (gt C.e t).o)=gt v.n (gt D.e (z t)).o:=by
     rw[a3 _ g2]
     congr 1
     refine r.eu.in (a1 _ g2).1 d2 ?_
     rw[(a1 _ g2).2,u3,w2,←s3,←y3]
    rw[←e,b3 t ht,←t1,←t2,←t3,e1,e2]
    refine⟨?_,t5,t6⟩
    rw[←t4,y1,s1,u1,w2]
 refine⟨⟨Jw Z.n.length a,Jw Z.e.length b⟩,⟨hok,fun x y hx hy e=>?_,fun x y hx hy e=>?_⟩,?_,?_⟩
 ·simp only at e
  rw[ga _ (Bd.of hx),ga _ (Bd.of hy)] at e
  have:=a5 _ _ (Bd.of hx) (Bd.of hy) e
  omega
 ·simp only at e
  rw[gb _ (Bd.of hx),gb _ (Bd.of hy)] at e
  have:=b5 _ _ (Bd.of hx) (Bd.of hy) e
  omega
 ·refine QvJ (b:=Z) bZ.eh.ok r.eh.ok.ln r.eh.ok.le (fun x hx=>?_) fun x hx=>?_
  ·simp only
   rw[ga _ (bZ.eh.bn hx),a2 x hx]
  ·simp only
   rw[gb _ (bZ.eh.be hx),b2 x hx]
 ·have hE:Emb Z X ⟨Jw Z.n.length a,Jw Z.e.length b⟩:=⟨hok,fun x y hx hy e=>by
   simp only at e
   rw[ga _ (Bd.of hx),ga _ (Bd.of hy)] at e
   have:=a5 _ _ (Bd.of hx) (Bd.of hy) e
   omega,fun x y hx hy e=>by
   simp only at e
   rw[gb _ (Bd.of hx),gb _ (Bd.of hy)] at e
   have:=b5 _ _ (Bd.of hx) (Bd.of hy) e
   omega⟩
  refine⟨hk,hE,r.eu,r.ev,?_,?_⟩
  ·exact⟨a6.bq,fun x hx=>hE.bn hx,a6.bu,a6.bv,a6.iq,fun x y hx hy e=>hE.in hx hy e,a6.iu,a6.iv,a6.bl,fun l s hls=>by
    obtain⟨d,h1,h2,h3⟩:=a6.kd l s hls
    exact⟨d,h1,h2,by simp only;rw[ga _ (a6.bl l s hls).2];exact h3⟩,a6.cs,fun x hx=>by
    rcases a6.cx x hx with⟨s,hs,e⟩|h1
    ·exact .inl ⟨s,hs,by simp only;rw[ga _ hs];exact e⟩
    ·exact .inr h1,a6.ms,fun s d hs hd e=>a6.mx s d hs hd (by simp only at e;rwa [ga _ hs] at e)⟩
  ·exact⟨b6.bq,fun x hx=>hE.be hx,b6.bu,b6.bv,b6.iq,fun x y hx hy e=>hE.ie hx hy e,b6.iu,b6.iv,b6.bl,fun l s hls=>by
    obtain⟨d,h1,h2,h3⟩:=b6.kd l s hls
    exact⟨d,h1,h2,by simp only;rw[gb _ (b6.bl l s hls).2];exact h3⟩,b6.cs,fun x hx=>by
    rcases b6.cx x hx with⟨s,hs,e⟩|h1
    ·exact .inl ⟨s,hs,by simp only;rw[gb _ hs];exact e⟩
    ·exact .inr h1,b6.ms,fun s d hs hd e=>b6.mx s d hs hd (by simp only at e;rwa [gb _ hs] at e)⟩
theorem RelG.sw{κ ε:Int→Int→Prop}{L R D S X:G}{q h u v:Mo}(r:RelG κ ε L R D S X q h u v):RelG (fun a b=>κ b a) (fun a b=>ε b a) R L D X S h q v u:=
 ⟨r.eh,r.eq,r.ev,r.eu,r.rn.sw,r.re.sw⟩
theorem Kpr.sw{n:Nat}{f i:List Int}:(fun a b=>Kpr n f i b a)=Kpr n i f:=by
 funext a b
 apply propext
 constructor
 ·rintro⟨t,ht,h1,h2⟩;exact⟨t,ht,h2,h1⟩
 ·rintro⟨t,ht,h1,h2⟩;exact⟨t,ht,h2,h1⟩
end
attribute [local irreducible] W
def QvL:LL:=[qi 4 0]
def QvM:LL:=[qm 5 0,qm 6 1,qd 7 1 5 6,ql 8 1 7,qm 9 1,qo .neq 10 8 9]
def QvN:LL:=[qm 11 0,qm 12 1,qd 13 1 11 12,ql 14 1 13,qm 1 14]
def QvO:LC:=QQ [QQ [.reg QvM [0,1,10],.cond (.t 10) .skip (.exit 0)],.block 1 (.reg QvN [0,1])]
def QvP:LL:=[qm 15 1,qm 4 15]
def Qir(F:Fn):LC:=QQ [.reg QvL [0,1],.block 0 (.loop [0,1] QvO),.reg QvP [4],.ret]
def QvQ(F:Fn):LL:=[qm 8 0,qm 9 1,qc 10 (F "S") [.t 8,.t 9],qm 11 0,qm 12 2,qc 13 (F "S") [.t 11,.t 12],qm 6 10,qm 7 13]
def QvR:LL:=[qm 14 0,qm 15 6,qm 16 7,qQp 17 (.mx [.t 15,.t 16]),qm 18 6,qm 19 7,qQp 20 (.mn [.t 18,.t 19]),qd 21 1 14 17,qs 1 21 20]
def Qel(F:Fn):LC:=QQ [.reg (QvQ F) [0,6,7],.reg QvR [0]]
def QWN:Hints:=hOf [0] (Qel fun _=>0)
def QvS:LL:=[qn 2 1]
def QvT:LL:=[qm 5 0,qQp 6 (.makeSl 1 8 (.int .i64 (0)) (.t 5)),qm 3 6]
def QvU:LL:=[qm 7 3,qz 8 7,qi 9 0]
def QvV:LL:=[qo .lss 10 9 8]
def QvW:LL:=[qm 11 9,qm 4 11]
def QvX:LL:=[qm 12 3,qm 13 4,qm 14 4,qd 15 1 12 13,qs 1 15 14]
def QvY:LL:=[qk .add 16 9 1,qm 9 16]
def QvZ:LC:=QQ [.reg QvV [3,8,9,10],.cond (.t 10) .skip (.exit 0),.block 1 (QQ [.reg QvW [3,4,8,9],.reg QvX [3,8,9]]),.reg QvY [3,8,9]]
def Qv0:LL:=[qm 17 3,qm 2 17]
def Qis(F:Fn):LC:=QQ [.reg QvS [0],.reg QvT [3],QQ [.reg QvU [3,8,9],.block 0 (.loop [3,8,9] QvZ)],.reg Qv0 [2],.ret]
def Qv1:LL:=[qn 2 1]
def Qv2:LL:=[qm 4 0,qz 5 4,qi 6 0]
def Qv3:LL:=[qo .lss 7 6 5]
def Qv4:LL:=[qm 8 6,qm 3 8]
def Qv5(F:Fn):LL:=[qm 9 0,qm 10 3,qm 11 0,qm 12 3,qc 13 (F "S") [.t 11,.t 12],qd 14 1 9 10,qs 1 14 13]
def Qv6:LL:=[qk .add 15 6 1,qm 6 15]
def Qit(F:Fn):LC:=QQ [.reg Qv3 [0,5,6,7],.cond (.t 7) .skip (.exit 0),.block 1 (QQ [.reg Qv4 [0,3,5,6],.reg (Qv5 F) [0,5,6]]),.reg Qv6 [0,5,6]]
def Qv7:LL:=[qm 16 0,qm 2 16]
def Qiu(F:Fn):LC:=QQ [.reg Qv1 [0],QQ [.reg Qv2 [0,5,6],.block 0 (.loop [0,5,6] (Qit F))],.reg Qv7 [2],.ret]
def Qv8:LL:=[qn 4 1,qi 5 0]
def Qv9:LL:=[qm 9 0,qk .gtr 10 9 80]
def Qwa:LL:=[qn 4 1,qi 5 3]
def Qwb:LL:=[qm 11 0,qk .lss 12 11 0]
def Qwc:LL:=[qn 4 1,qi 5 6]
def Qwd(F:Fn):LL:=[qm 13 0,qc 14 (F "aX") [.t 13],qm 6 14]
def Qwe:LL:=[qm 15 1,qz 16 15,qi 17 0]
def Qwf:LL:=[qo .lss 18 17 16]
def Qwg:LL:=[qd 19 2 15 17,qL 20 2 19,qa 8 [.int .i64 (0),.int .i64 (0)],qs 2 8 20]
def Qwh:LL:=[qf 21 0 8,ql 22 1 21,qk .lss 23 22 0,qm 24 23,qg 24 false (qf 25 0 8),qg 24 false (ql 26 1 25),qg 24 false (qm 27 0),qg 24 false (qo .geq 28 26 27),qQ 29 24 28,qm 30 29,
 qg 30 false (qf 31 1 8),qg 30 false (ql 32 1 31),qg 30 false (qk .lss 33 32 0),qQ 34 30 33,qm 35 34,qg 35 false (qf 36 1 8),qg 35 false (ql 37 1 36),qg 35 false (qm 38 0),
 qg 35 false (qo .geq 39 37 38),qQ 40 35 39]
def Qwi:LL:=[qn 4 1,qi 5 6]
def Qwj(F:Fn):LL:=[qm 41 6,qf 42 0 8,ql 43 1 42,qf 44 1 8,ql 45 1 44,qQp 46 (.call (F "bz") [.t 41,.t 43,.t 45] [.mu,.rd,.rd])]
def Qwk:LL:=[qk .add 47 17 1,qm 17 47]
def Qiv(F:Fn):LC:=QQ [.reg Qwf [0,6,15,16,17,18],.cond (.t 18) .skip (.exit 0),.block 1 (QQ [.reg Qwg [0,6,8,15,16,17],QQ [.reg Qwh [0,6,8,15,16,17,40],.cond (.t 40) (QQ [.reg Qwi [4,5],.ret]) .skip],.reg (Qwj F) [0,6,15,16,17]]),.reg Qwk [0,6,15,16,17]]
def Qwl(F:Fn):LL:=[qm 48 6,qQp 49 (.call (F "bA") [.t 48] [.ow]),qm 4 49,qi 5 0]
def Qiw(F:Fn):LC:=QQ [.reg Qv8 [0,1],QQ [.reg Qv9 [0,1,10],.cond (.t 10) (QQ [.reg Qwa [4,5],.ret]) .skip],QQ [.reg Qwb [0,1,12],.cond (.t 12) (QQ [.reg Qwc [4,5],.ret]) .skip],.reg (Qwd F) [0,1,6],QQ [.reg Qwe [0,6,15,16,17],.block 0 (.loop [0,6,15,16,17] (Qiv F))],.reg (Qwl F) [4,5],.ret]
def Qwm:LL:=[qb 2 false]
def Qwn:LL:=[qm 5 0,qz 6 5,qi 7 0]
def Qwo:LL:=[qo .lss 8 7 6]
def Qwp:LL:=[qm 9 7,qd 10 1 5 7,ql 11 1 10,qm 3 9,qm 4 11]
def Qwq:LL:=[qm 12 4,qk .lss 13 12 0,qm 14 13,qg 14 false (qm 15 4),qg 14 false (qm 16 3),qg 14 false (qo .gtr 17 15 16),qQ 18 14 17,qm 19 18,qg 19 false (qm 20 0),qg 19 false (qm 21 4),
 qg 19 false (qd 22 1 20 21),qg 19 false (ql 23 1 22),qg 19 false (qm 24 4),qg 19 false (qo .neq 25 23 24),qQ 26 19 25]
def Qwr:LL:=[qb 2 false]
def Qws:LL:=[qk .add 27 7 1,qm 7 27]
def Qix:LC:=QQ [.reg Qwo [0,5,6,7,8],.cond (.t 8) .skip (.exit 0),.block 1 (QQ [.reg Qwp [0,3,4,5,6,7],.reg Qwq [0,5,6,7,26],.cond (.t 26) (QQ [.reg Qwr [2],.ret]) .skip]),.reg Qws [0,5,6,7]]
def Qwt:LL:=[qb 2 true]
def Qiy(F:Fn):LC:=QQ [.reg Qwm [0],QQ [.reg Qwn [0,5,6,7],.block 0 (.loop [0,5,6,7] Qix)],.reg Qwt [2],.ret]
def Qwu:LL:=[qi 2 0]
def Qwv:LL:=[qm 3 0,qz 4 3,qk .gtr 5 4 80]
def Qww:LL:=[qi 2 3]
def Qwx(F:Fn):LL:=[qm 6 0,qc 7 (F "cd") [.t 6],qv 8 7]
def Qwy:LL:=[qi 2 1]
def Qwz:LL:=[qi 2 0]
def Qiz(F:Fn):LC:=QQ [.reg Qwu [0],QQ [.reg Qwv [0,5],.cond (.t 5) (QQ [.reg Qww [2],.ret]) .skip],QQ [.reg (Qwx F) [8],.cond (.t 8) (QQ [.reg Qwy [2],.ret]) .skip],.reg Qwz [2],.ret]
def QwA:LL:=[qn 2 1,qi 3 0,qi 4 0]
def QwB(F:Fn):LL:=[qm 10 0,qc 11 (F "bY") [.t 10],qm 5 11]
def QwC:LL:=[qm 12 5,qk .neq 13 12 0]
def QwD:LL:=[qm 14 5,qn 2 1,qi 3 0,qm 4 14]
def QwE:LL:=[qn 6 1]
def QwF:LL:=[qi 7 0]
def QwG:LL:=[qm 15 0,qz 16 15,qi 17 0]
def QwH:LL:=[qo .lss 18 17 16]
def QwI:LL:=[qm 19 17,qd 20 1 15 17,ql 21 1 20,qm 8 19,qm 9 21]
def QwJ:LL:=[qm 22 9,qm 23 8,qo .eql 24 22 23]
def QwK:LL:=[qm 25 6,qm 26 7,qQp 27 (.buildSl 1 8 (.int .i64 (0)) 1 [(0,.t 26)]),qp 28 1 8 25 27,qm 6 28]
def QwL:LL:=[qm 29 7,qk .add 30 29 1,qm 7 30]
def QwM:LL:=[qm 31 6,qm 32 6,qm 33 9,qd 34 1 32 33,ql 35 1 34,qQp 36 (.buildSl 1 8 (.int .i64 (0)) 1 [(0,.t 35)]),qp 37 1 8 31 36,qm 6 37]
def QwN:LL:=[qk .add 38 17 1,qm 17 38]
def QwO:LC:=QQ [.reg QwH [6,7,15,16,17,18],.cond (.t 18) .skip (.exit 0),.block 1 (QQ [.reg QwI [6,7,8,9,15,16,17],.reg QwJ [6,7,9,15,16,17,24],.cond (.t 24) (QQ [.reg QwK [6,7,15,16,17],.reg QwL [6,7,15,16,17]]) (.reg QwM [6,7,15,16,17])]),.reg QwN [6,7,15,16,17]]
def QwP:LL:=[qm 39 6,qm 40 7,qm 2 39,qm 3 40,qi 4 0]
def QiA(F:Fn):LC:=QQ [.reg QwA [0],QQ [.reg (QwB F) [0,5],.reg QwC [0,5,13],.cond (.t 13) (QQ [.reg QwD [2,3,4],.ret]) .skip],.reg QwE [0,6],.reg QwF [0,6,7],QQ [.reg QwG [6,7,15,16,17],.block 0 (.loop [6,7,15,16,17] QwO)],.reg QwP [2,3,4],.ret]
def QwQ:LL:=[qn 4 1,qi 5 0]
def QwR:LL:=[qm 9 0,qk .gtr 10 9 80]
def QwS:LL:=[qn 4 1,qi 5 3]
def QwT:LL:=[qm 11 0,qk .lss 12 11 0]
def QwU:LL:=[qn 4 1,qi 5 6]
def QwV:LL:=[qi 6 0]
def QwW:LL:=[qm 13 6,qm 14 1,qz 15 14,qo .lss 16 13 15]
def QwX:LL:=[qm 19 1,qm 20 6,qd 21 2 19 20,qf 22 0 21,ql 23 1 22,qk .lss 24 23 0,qm 25 24,qg 25 false (qm 26 1),qg 25 false (qm 27 6),qg 25 false (qd 28 2 26 27),qg 25 false (qf 29 0 28),
 qg 25 false (ql 30 1 29),qg 25 false (qm 31 0),qg 25 false (qo .geq 32 30 31),qQ 33 25 32,qm 34 33,qg 34 false (qm 35 1),qg 34 false (qm 36 6),qg 34 false (qd 37 2 35 36),
 qg 34 false (qf 38 1 37),qg 34 false (ql 39 1 38),qg 34 false (qk .lss 40 39 0),qQ 41 34 40,qm 42 41,qg 42 false (qm 43 1),qg 42 false (qm 44 6),qg 42 false (qd 45 2 43 44),
 qg 42 false (qf 46 1 45),qg 42 false (ql 47 1 46),qg 42 false (qm 48 0),qg 42 false (qo .geq 49 47 48),qQ 50 42 49]
def QwY:LL:=[qn 4 1,qi 5 6]
def QwZ:LL:=[qm 17 6,qk .add 18 17 1,qm 6 18]
def QiB:LC:=QQ [QQ [.reg QwW [0,1,6,16],.cond (.t 16) .skip (.exit 0)],.block 1 (QQ [.reg QwX [0,1,6,50],.cond (.t 50) (QQ [.reg QwY [4,5],.ret]) .skip]),.reg QwZ [0,1,6]]
def Qw0(F:Fn):LL:=[qm 51 0,qc 52 (F "F") [.t 51],qm 7 52]
def Qw1:LL:=[qi 8 0]
def Qw2:LL:=[qm 53 8,qm 54 1,qz 55 54,qo .lss 56 53 55]
def Qw3(F:Fn):LL:=[qm 59 7,qm 60 1,qm 61 8,qd 62 2 60 61,qf 63 0 62,ql 64 1 63,qm 65 1,qm 66 8,qd 67 2 65 66,qf 68 1 67,ql 69 1 68,qc 70 (F "aJ") [.t 59,.t 64,.t 69],qm 7 70]
def Qw4:LL:=[qm 57 8,qk .add 58 57 1,qm 8 58]
def QiC(F:Fn):LC:=QQ [QQ [.reg Qw2 [1,7,8,56],.cond (.t 56) .skip (.exit 2)],.block 3 (.dreg [] (Qw3 F) [1,7,8]),.reg Qw4 [1,7,8]]
def Qw5:LL:=[qm 71 7,qm 4 71,qi 5 0]
def QiD(F:Fn):LC:=QQ [.reg QwQ [0,1],QQ [.reg QwR [0,1,10],.cond (.t 10) (QQ [.reg QwS [4,5],.ret]) .skip],QQ [.reg QwT [0,1,12],.cond (.t 12) (QQ [.reg QwU [4,5],.ret]) .skip],QQ [.reg QwV [0,1,6],.block 0 (.loop [0,1,6] QiB)],.reg (Qw0 F) [1,7],QQ [.reg Qw1 [1,7,8],.block 2 (.loop [1,7,8] (QiC F))],.reg Qw5 [4,5],.ret]
def QWO:Hints:=hn [] [(0,[0,1]),(1,[0,1,10]),(2,[4,5]),(3,[0,1,12]),(4,[4,5]),(5,[0,1,6]),(6,[0,1,6,16]),(7,[0,1,6]),(8,[0,1,6,50]),(9,[4,5]),(10,[1,7]),(11,[1,7,8]),(12,[1,7,8,56]),(13,[1,7,8]),(14,[1,7,8]),(15,[4,5])] [(6,[0,1,6]),(12,[1,7,8])]
attribute [go_sem] QvL QvM QvN QvP Qir QvQ QvR Qel QvS QvT QvU QvV QvW QvX QvY Qv0 Qis Qv1 Qv2 Qv3 Qv4 Qv5 Qv6 Qv7 Qiu Qv8 Qv9 Qwa Qwb Qwc Qwd Qwe Qwf Qwg Qwh Qwi Qwj Qwk Qwl Qiw Qwm Qwn Qwo Qwp Qwq Qwr Qws Qwt Qiy Qwu Qwv Qww Qwx Qwy Qwz Qiz QwA QwB QwC QwD QwE QwF QwG QwH QwI QwJ QwK QwL QwM QwN QwP QiA QwQ QwR QwS QwT QwU QwV QwW QwX QwY QwZ Qw0 Qw1 Qw2 Qw3 Qw4 Qw5 QiD
section
variable (P:Program) (F:String→Nat)
def Qem:Prop:=∀(p r:List Int)(i:Nat),Fo p r→p.length≤1000→i<p.length→FC P (F "S") [.lst 1 (QR p),.int .i64 i] (.int .i64 (gt r i)) []
def QiE:Prop:=∀(p r:List Int)(a b:Nat),Fo p r→p.length≤1000→a<p.length→b<p.length→FC P (F "bz") [.arr 1 (QR p),.int .i64 a,.int .i64 b] (.tup []) [(0,.arr 1 (QR (p.set (max (gt r a) (gt r b)).toNat (min (gt r a) (gt r b)))))]
def QiF:Prop:=∀n:Nat,n≤1000000→FC P (F "aX") [.int .i64 n] (.arr 1 (QR (Xf 0 n))) []
def QiG:Prop:=∀p r:List Int,Fo p r→p.length≤1000→FC P (F "bA") [.arr 1 (QR p)] (.arr 1 (QR r)) []
def QiH:Prop:=∀(n:Nat)(l:List Pr),n≤80→l.length≤1000→Zv n l→FC P (F "aF") [.int .i64 n,.lst 2 (prs l)] (.tup [.arr 1 (QR (X6 n l)),.int .i64 0]) []
def QiI:Prop:=∀p:List Int,YR p→p.length≤80→FC P (F "cd") [.lst 1 (QR p)] (.bool true) []
def QiJ:Prop:=∀p:List Int,YR p→p.length≤80→FC P (F "bY") [.lst 1 (QR p)] (.int .i64 0) []
def QiK:Prop:=∀p:List Int,YR p→p.length≤80→FC P (F "au") [.lst 1 (QR p)] (.tup [.arr 1 (QR (quo p p.length).1),.int .i64 (quo p p.length).2,.int .i64 0]) []
def QiL:Prop:=∀(n:Nat)(l:List Pr),n≤80→l.length≤1000→Zv n l→FC P (F "aj") [.int .i64 n,.lst 2 (prs l)] (.tup [.arr 1 (QR (X6 n l)),.int .i64 0]) []
end
section
variable {P:Program} {F:String→Nat} {α:Type}
theorem QWP(p r:List Int)(i:Nat)(h:Fo p r)(hl:p.length≤1000)(hi:i<p.length):W P (Qir F) (Done [.t 4] [] (.int .i64 (gt r i)) []) (init [.lst 1 (QR p),.int .i64 i]):=by
 refine QZ ?_
 simp(disch:=omega)only[go_sem]
 refine Q5 (fun k:Nat=>⟨[(0,.lst 1 (QR p)),(1,.int .i64 k)],[],0⟩) (fun k=>k<p.length∧gt r k=gt r i) (fun k=>k) i ?_ ?_ ?_
 ·simp(disch:=omega)only[go_sem]
  try rfl
 ·exact⟨hi,rfl⟩
 ·rintro k ⟨h1,h2⟩
  obtain⟨b1,b2⟩:=h.b k h1
  obtain⟨m,hm⟩:=Ye b1
  have hs:=h.s k h1
  have ht:=h.t k h1
  simp(disch:=omega)only[go_sem,QvO]
  refine XX (fun c=>?_) (fun c=>?_)
  ·rw[hm] at c hs b2
   simp(disch:=omega)only[go_sem]
   exact⟨m,by rw[hm],⟨by omega,by rw[hs,h2]⟩,by omega⟩
  ·simp(disch:=omega)only[go_sem]
   rw[←h2,ht c]
theorem QWQ(hr:Qem P F)(p r:List Int)(a b:Nat)(h:Fo p r)(hl:p.length≤1000)(ha:a<p.length)(hb:b<p.length):
  W P (Qel F) (Done [] [0] (.tup []) [(0,.arr 1 (QR (p.set (max (gt r a) (gt r b)).toNat (min (gt r a) (gt r b)))))]) (init [.arr 1 (QR p),.int .i64 a,.int .i64 b]):=by
 refine QZ ?_
 have r1:=hr p r a h hl ha
 have r2:=hr p r b h hl hb
 have hlo:min (gt r a) (gt r b)=if gt r b<gt r a then gt r b else gt r a:=by rw[Int.min_def];split<;>split<;>omega
 have hhi:max (gt r a) (gt r b)=if gt r a<gt r b then gt r b else gt r a:=by rw[Int.max_def];split<;>split<;>omega
 have hb1:0≤max (gt r a) (gt r b)∧max (gt r a) (gt r b)<p.length:=by
  obtain⟨⟨a1,a2⟩,_⟩:=h.c a ha
  obtain⟨⟨b1,b2⟩,_⟩:=h.c b hb
  omega
 rw[hhi] at hb1
 rw[hlo,hhi]
 clear hlo hhi
 simp(disch:=omega)only[go_sem]
 refine QT r1 ?_
 simp(disch:=omega)only[go_sem]
 refine QT r2 ?_
 simp(disch:=omega)only[go_sem]
theorem QWR(n:Nat)(hn:n≤1000000):W P (Qis F) (Done [.t 2] [] (.arr 1 (QR (Xf 0 n))) []) (init [.int .i64 n]):=by
 refine QZ ?_
 simp(config:={maxSteps:=1000000}) (disch:=first|omega|(simp only[go_sem];omega))only[go_sem]
 refine Q5 (fun i:Nat=>⟨[(3,.sl 0 0 n),(8,.int .i64 n),(9,.int .i64 i)],[(0,.arr 1 (QR (Xf 0 i++List.replicate (n-i) 0)))],1⟩) (fun i=>i≤n) (fun i=>n-i) 0 ?_ ?_ ?_
 ·simp(config:={maxSteps:=1000000}) (disch:=first|omega|(simp only[go_sem];omega))only[go_sem,Qcx]
  rfl
 ·omega
 ·intro i hi
  have hl:=Xh 0 i
  simp(config:={maxSteps:=1000000}) (disch:=first|omega|(simp only[go_sem];omega))only[go_sem,QvZ]
  refine Q7 (fun c=>?_) (fun c=>?_)
  ·have hf:(Xf 0 i++List.replicate (n-i) 0).set i (i:Int)=Xf 0 (i+1)++List.replicate (n-(i+1)) 0:=by
    have:=Qib (Xf 0 i) (i:Int) 0 (n-(i+1))
    rw[hl,show n-(i+1)+1=n-i by omega] at this
    rw[this,Qcw]
    simp
   simp(config:={maxSteps:=1000000}) (disch:=first|omega|(simp only[go_sem];omega))only[go_sem,hl,hf]
   exact⟨i+1,by simp,by omega,by omega⟩
  ·obtain rfl:i=n:=by omega
   simp(config:={maxSteps:=1000000}) (disch:=first|omega|(simp only[go_sem];omega))only[go_sem,hl]
   simp
theorem QWS(hr:Qem P F)(p r:List Int)(h:Fo p r)(hl:p.length≤1000):W P (Qiu F) (Done [.t 2] [] (.arr 1 (QR r)) []) (init [.arr 1 (QR p)]):=by
 refine QZ ?_
 have hlr:=h.l
 generalize hn:p.length=n at*
 simp(disch:=omega)only[go_sem,hn]
 refine Q5 (fun s:Nat×List Int=>⟨[(0,.sl 0 0 n),(5,.int .i64 n),(6,.int .i64 s.1)],[(0,.arr 1 (QR s.2))],1⟩) (fun s=>s.1≤n∧s.2.length=n∧Fo s.2 r∧∀j:Nat,j<s.1→gt s.2 j=gt r j) (fun s=>n-s.1) (0,p) ?_ ?_ ?_
 ·simp(disch:=omega)only[go_sem,hn]
  rfl
 ·exact⟨by omega,hn,h,fun j hj=>by omega⟩
 ·rintro⟨i,q⟩ ⟨h1,h2,h3,h4⟩
  simp only at h1 h2 h3 h4
  by_cases c:i<n
  ·have g1:decide ((i:Int)<n)=true:=Qd (by omega)
   have r1:=hr q r i h3 (by omega) (by omega)
   simp(disch:=omega)only[go_sem,Qit,g1,h2]
   refine QT r1 ?_
   simp(disch:=omega)only[go_sem,h2]
   refine⟨(i+1,q.set i (gt r i)),by simp,⟨by simp only;omega,by simp [h2],h3.flat (by omega),fun j hj=>?_⟩,by simp only;omega⟩
   simp only
   rw[Y2 (by omega)]
   split
   ·rename_i e;subst e;rfl
   ·simp only at hj;exact h4 j (by omega)
  ·have g1:decide ((i:Int)<n)=false:=Qc (by omega)
   have e:q=r:=Yd (by omega) fun j hj=>h4 j (by omega)
   subst e
   simp(disch:=omega)only[go_sem,Qit,g1,h2]
theorem QWT(hf:QiF P F)(hu:QiE P F)(hfl:QiG P F)(n:Nat)(l:List Pr)(hn:n≤80)(hl:l.length≤1000)(hp:Zv n l):
  W P (Qiw F) (Done [.t 4,.t 5] [] (.tup [.arr 1 (QR (X6 n l)),.int .i64 0]) []) (init [.int .i64 n,.lst 2 (prs l)]):=by
 refine QZ ?_
 have d1:decide ((80:Int)<n)=false:=Qc (by omega)
 have d2:decide ((n:Int)<0)=false:=Qc (by omega)
 have r1:=hf n (by omega)
 have nl:=Xh 0 n
 simp(disch:=omega)only[go_sem,d1,d2]
 refine QT r1 ?_
 simp(disch:=omega)only[go_sem,nl]
 refine Q5 (fun s:Nat×List Int=>⟨[(0,.int .i64 n),(6,.sl 0 0 n),(15,.lst 2 (prs l)),(16,.int .i64 l.length),(17,.int .i64 s.1)],[(0,.arr 1 (QR s.2))],1⟩) (fun s=>s.1≤l.length∧s.2.length=n∧Fo s.2 (X3 n l s.1)) (fun s=>l.length-s.1) (0,Xf 0 n) ?_ ?_ ?_
 ·simp(disch:=omega)only[go_sem,nl]
  rfl
 ·exact⟨by simp,nl,Quq n⟩
 ·rintro⟨i,q⟩ ⟨h1,h2,h3⟩
  simp only at h1 h2 h3
  by_cases c:i<l.length
  ·have g1:decide ((i:Int)<l.length)=true:=Qd (by omega)
   obtain⟨⟨a1,a2⟩,b1,b2⟩:=hp i c
   have hs:X3 n l (i+1)=Yq (X3 n l i) (gt l i).a (gt l i).b:=rfl
   generalize hgi:X3 n l (i+1)=gi' at*
   generalize X3 n l i=gi at*
   obtain⟨a,ha⟩:=Ye a1
   obtain⟨b,hb⟩:=Ye b1
   rw[ha,hb] at hs
   rw[ha] at a1 a2
   rw[hb] at b1 b2
   have r2:=hu q gi a b h3 (by omega) (by omega) (by omega)
   have e1:decide ((a:Int)<0)=false:=Qc (by omega)
   have e2:decide ((n:Int)≤a)=false:=Qc (by omega)
   have e3:decide ((b:Int)<0)=false:=Qc (by omega)
   have e4:decide ((n:Int)≤b)=false:=Qc (by omega)
   have hf2:=h3.unite (a:=a) (b:=b) (by omega) (by omega)
   rw[←hs] at hf2
   clear hs
   generalize hq:q.set (max (gt gi a) (gt gi b)).toNat (min (gt gi a) (gt gi b))=q' at*
   have ql:q'.length=n:=by rw[←hq,QJ,h2]
   simp(disch:=omega)only[go_sem,Qiv,g1,ha,hb,e1,e2,e3,e4,h2]
   refine QT r2 ?_
   simp(disch:=omega)only[go_sem,h2,ql]
   exact⟨(i+1,q'),by simp,⟨by simp only;omega,ql,by show Fo q' (X3 n l (i+1));rw[hgi];exact hf2⟩,by simp only;omega⟩
  ·have g1:decide ((i:Int)<l.length)=false:=Qc (by omega)
   obtain rfl:i=l.length:=by omega
   have gl:=Qah (n:=n) (l:=l) l.length
   have r2:=hfl q _ h3 (by omega)
   have hE:X6 n l=X3 n l l.length:=rfl
   rw[hE]
   generalize X3 n l l.length=gi at*
   simp(disch:=omega)only[go_sem,Qiv,g1,h2]
   refine QT r2 ?_
   simp(disch:=omega)only[go_sem,gl]
theorem QWU(p:List Int)(hp:YR p)(hl:p.length≤80):W P (Qiy F) (Done [.t 2] [] (.bool true) []) (init [.lst 1 (QR p)]):=by
 refine QZ ?_
 simp(disch:=omega)only[go_sem]
 refine Q5 (fun i:Nat=>⟨[(0,.lst 1 (QR p)),(5,.lst 1 (QR p)),(6,.int .i64 p.length),(7,.int .i64 i)],[],0⟩) (fun i=>i≤p.length) (fun i=>p.length-i) 0 ?_ ?_ ?_
 ·simp(disch:=omega)only[go_sem]
  rfl
 ·simp
 ·intro i hi
  by_cases c:i<p.length
  ·obtain⟨⟨h1,h2⟩,h3⟩:=hp i c
   have g1:decide ((i:Int)<p.length)=true:=Qd (by omega)
   have g2:decide (gt p i<0)=false:=Qc (by omega)
   have g3:decide ((i:Int)<gt p i)=false:=Qc (by omega)
   have g4:decide (gt p (gt p i)=gt p i)=true:=Qd h3
   simp(disch:=omega)only[go_sem,Qix,g1,g2,g3,g4]
   exact⟨i+1,by simp,by omega,by omega⟩
  ·have g1:decide ((i:Int)<p.length)=false:=Qc (by omega)
   simp(disch:=omega)only[go_sem,Qix,g1]
theorem QWV(hr:QiI P F)(p:List Int)(hp:YR p)(hl:p.length≤80):W P (Qiz F) (Done [.t 2] [] (.int .i64 0) []) (init [.lst 1 (QR p)]):=by
 refine QZ ?_
 have r:=hr p hp hl
 have g0:decide ((80:Int)<p.length)=false:=Qc (by omega)
 simp(disch:=omega)only[go_sem,g0]
 refine QT r ?_
 simp(disch:=omega)only[go_sem]
theorem QWW(ho:QiJ P F)(p:List Int)(hp:YR p)(hl:p.length≤80):W P (QiA F) (Done [.t 2,.t 3,.t 4] [] (.tup [.arr 1 (QR (quo p p.length).1),.int .i64 (quo p p.length).2,.int .i64 0]) []) (init [.lst 1 (QR p)]):=by
 refine QZ ?_
 have r:=ho p hp hl
 have ql:∀i:Nat,(quo p i).1.length=i∧(quo p i).2≤i:=fun i=>by
  induction i with
  |zero=>simp [quo]
  |succ i ih=>
   rw[quo]
   split<;>simp [ih.1]<;>omega
 simp(disch:=omega)only[go_sem]
 refine QT r ?_
 simp(disch:=omega)only[go_sem]
 refine Q5 (fun i:Nat=>⟨[(6,.sl 0 0 i),(7,.int .i64 (quo p i).2),(15,.lst 1 (QR p)),(16,.int .i64 p.length),(17,.int .i64 i)],[(0,.arr 1 (QR (quo p i).1))],1⟩) (fun i=>i≤p.length) (fun i=>p.length-i) 0 ?_ ?_ ?_
 ·simp(disch:=omega)only[go_sem,Zc,quo]
  rfl
 ·simp
 ·intro i hi
  obtain⟨e1,e2⟩:=ql i
  have hs:quo p (i+1)=if gt p i=i then ((quo p i).1++[((quo p i).2:Int)],(quo p i).2+1) else ((quo p i).1++[gt (quo p i).1 (gt p i)],(quo p i).2):=rfl
  simp(disch:=omega)only[go_sem,QwO]
  refine Q7 (fun c=>?_) (fun c=>?_)
  ·obtain⟨⟨h1,h2⟩,h3⟩:=hp i (by omega)
   simp(disch:=omega)only[go_sem]
   refine Q7 (fun d=>?_) (fun d=>?_)
   ·rw[if_pos d] at hs
    simp(disch:=omega)only[go_sem,e1]
    exact⟨i+1,by simp [hs],by omega,by omega⟩
   ·rw[if_neg d] at hs
    simp(disch:=omega)only[go_sem,e1]
    exact⟨i+1,by simp [hs],by omega,by omega⟩
  ·obtain rfl:i=p.length:=by omega
   simp(disch:=omega)only[go_sem,e1]
theorem QWX(hf:QcE P F)(hm:Qd3 P F)(n:Nat)(l:List Pr)(hn:n≤80)(hl:l.length≤1000)(hp:Zv n l):
  W P (QiD F) (Done [.t 4,.t 5] [] (.tup [.arr 1 (QR (X6 n l)),.int .i64 0]) []) (init [.int .i64 n,.lst 2 (prs l)]):=by
 refine QZ ?_
 have d1:decide ((80:Int)<n)=false:=Qc (by omega)
 have d2:decide ((n:Int)<0)=false:=Qc (by omega)
 have r1:=hf n (by omega)
 have nl:=Xh 0 n
 have gl:=Qah (n:=n) (l:=l)
 simp(disch:=omega)only[go_sem,d1,d2]
 refine Q5 (fun i:Nat=>⟨[(0,.int .i64 n),(1,.lst 2 (prs l)),(6,.int .i64 i)],[],0⟩) (fun i=>i≤l.length) (fun i=>l.length-i) 0 ?_ ?_ ?_
 ·simp(disch:=omega)only[go_sem]
  rfl
 ·simp
 ·intro i hi
  by_cases c:i<l.length
  ·have g1:decide ((i:Int)<l.length)=true:=Qd (by omega)
   obtain⟨⟨a1,a2⟩,b1,b2⟩:=hp i c
   have e1:decide ((gt l i).a<0)=false:=Qc (by omega)
   have e2:decide ((n:Int)≤(gt l i).a)=false:=Qc (by omega)
   have e3:decide ((gt l i).b<0)=false:=Qc (by omega)
   have e4:decide ((n:Int)≤(gt l i).b)=false:=Qc (by omega)
   simp(disch:=omega)only[go_sem,QiB,g1,e1,e2,e3,e4]
   exact⟨i+1,by simp,by omega,by omega⟩
  ·have g1:decide ((i:Int)<l.length)=false:=Qc (by omega)
   simp(disch:=omega)only[go_sem,QiB,g1]
   refine QT r1 ?_
   simp(disch:=omega)only[go_sem,nl]
   refine Q5 (fun i:Nat=>⟨[(1,.lst 2 (prs l)),(7,.sl 0 0 n),(8,.int .i64 i)],[(0,.arr 1 (QR (X3 n l i)))],1⟩) (fun i=>i≤l.length) (fun i=>l.length-i) 0 ?_ ?_ ?_
   ·simp(disch:=omega)only[go_sem,X3,nl]
    rfl
   ·simp
   ·intro i hi
    have gli:=gl i
    by_cases c:i<l.length
    ·have g1:decide ((i:Int)<l.length)=true:=Qd (by omega)
     obtain⟨⟨a1,a2⟩,b1,b2⟩:=hp i c
     have hs:X3 n l (i+1)=Yq (X3 n l i) (gt l i).a (gt l i).b:=rfl
     obtain⟨a,ha⟩:=Ye a1
     obtain⟨b,hb⟩:=Ye b1
     rw[ha,hb] at hs
     rw[ha] at a1 a2
     rw[hb] at b1 b2
     have r2:=hm (X3 n l i) a b (by omega) (by omega) (by omega)
     rw[←hs] at r2
     have gls:=gl (i+1)
     clear hs
     simp(disch:=omega)only[go_sem,QiC,g1,ha,hb,gli]
     refine QT r2 ?_
     simp(disch:=omega)only[go_sem,gls]
     exact⟨i+1,by simp,by omega,by omega⟩
    ·have g1:decide ((i:Int)<l.length)=false:=Qc (by omega)
     obtain rfl:i=l.length:=by omega
     have hE:X6 n l=X3 n l l.length:=rfl
     rw[hE]
     simp(disch:=omega)only[go_sem,QiC,g1,gli]
end
end Go.Am
