/- Quotients of graphs: the program's and the reference's functions; coequalizers. -/
import Derived.Test.YtgllpjliaepbdaaGreatSpPa
import Derived.Test.YtgllpjliaepbdaaGreatSpPb
import Derived.Test.YtgllpjliaepbdaaGreatSpPc
namespace Go.Am
open Go
set_option linter.unusedVariables false
set_option linter.unusedSimpArgs false
attribute [local irreducible] W
def Qw6:LL:=[qB 3 0,qa 6 [.nl 1,.nl 3],qa 7 [.nl 1,.nl 1],qi 8 0]
def Qw7(F:Fn):LL:=[qf 25 0 3,ql 26 1 25,qz 27 26,qm 28 1,qc 29 (F "aF") [.t 27,.t 28],qm 24 29,qx 30 24 0,qx 31 24 1,qm 9 30,qm 10 31]
def Qw8:LL:=[qm 32 10,qk .neq 33 32 0]
def Qw9:LL:=[qu 34 [.nl 1,.nl 3] [],qu 35 [.nl 1,.nl 1] [],qm 36 10,qs 2 6 34,qs 2 7 35,qm 8 36]
def Qxa(F:Fn):LL:=[qf 38 1 3,ql 39 1 38,qz 40 39,qm 41 2,qc 42 (F "aF") [.t 40,.t 41],qm 37 42,qx 43 37 0,qx 44 37 1,qm 11 43,qm 10 44]
def Qxb:LL:=[qm 45 10,qk .neq 46 45 0]
def Qxc:LL:=[qu 47 [.nl 1,.nl 3] [],qu 48 [.nl 1,.nl 1] [],qm 49 10,qs 2 6 47,qs 2 7 48,qm 8 49]
def Qxd(F:Fn):LL:=[qm 51 9,qc 52 (F "au") [.t 51],qm 50 52,qx 53 50 0,qx 54 50 1,qx 55 50 2,qm 12 53,qm 13 54,qm 14 55]
def Qxe(F:Fn):LL:=[qm 57 11,qc 58 (F "au") [.t 57],qm 56 58,qx 59 56 0,qx 60 56 1,qx 61 56 2,qm 15 59,qm 16 60,qm 17 61]
def Qxf:LL:=[qa 18 [.nl 1,.nl 3]]
def Qxg:LL:=[qm 62 9,qz 63 62,qi 64 0]
def Qxh:LL:=[qo .lss 65 64 63]
def Qxi:LL:=[qm 66 64,qd 67 1 62 64,ql 68 1 67,qm 19 66,qm 20 68]
def Qxj:LL:=[qm 69 20,qm 70 19,qo .eql 71 69 70]
def Qxk:LL:=[qf 72 0 18,ql 73 1 72,qf 74 0 3,ql 75 1 74,qm 76 19,qd 77 1 75 76,ql 78 1 77,qQp 79 (.buildSl 1 8 (.int .i64 (0)) 1 [(0,.t 78)]),qp 80 1 8 73 79,qf 81 0 18,qs 1 81 80]
def Qxl:LL:=[qk .add 82 64 1,qm 64 82]
def Qen:LC:=QQ [.reg Qxh [3,6,7,11,12,15,18,62,63,64,65],.cond (.t 65) .skip (.exit 0),.block 1 (QQ [.reg Qxi [3,6,7,11,12,15,18,19,20,62,63,64],.reg Qxj [3,6,7,11,12,15,18,19,62,63,64,71],.cond (.t 71) (.dreg [(1,none,[],true),(7,none,[1],false)] Qxk [3,6,7,11,12,15,18,62,63,64]) .skip]),.reg Qxl [3,6,7,11,12,15,18,62,63,64]]
def Qxm:LL:=[qm 83 11,qz 84 83,qi 85 0]
def Qxn:LL:=[qo .lss 86 85 84]
def Qxo:LL:=[qm 87 85,qd 88 1 83 85,ql 89 1 88,qm 21 87,qm 22 89]
def Qxp:LL:=[qm 90 22,qm 91 21,qo .eql 92 90 91]
def Qxq:LL:=[qf 93 1 3,ql 94 1 93,qm 95 21,qd 96 3 94 95,qL 97 3 96,qa 23 [.int .i64 (0),.int .i64 (0),.int .i64 (0)],qs 3 23 97]
def Qxr:LL:=[qf 98 1 18,ql 99 1 98,qf 100 0 23,ql 101 1 100,qm 102 12,qf 103 1 23,ql 104 1 103,qd 105 1 102 104,ql 106 1 105,qm 107 12,qf 108 2 23,ql 109 1 108,qd 110 1 107 109,ql 111 1 110,
 qu 112 [.int .i64 (0),.int .i64 (0),.int .i64 (0)] [(0,1,.t 101),(1,1,.t 106),(2,1,.t 111)],
 qQp 113 (.buildSl 3 24 (.agg [.int .i64 (0),.int .i64 (0),.int .i64 (0)]) 1 [(0,.t 112)]),qp 114 3 24 99 113,qf 115 1 18,qs 1 115 114]
def Qxs:LL:=[qk .add 116 85 1,qm 85 116]
def Qeo:LC:=QQ [.reg Qxn [3,6,7,12,15,18,83,84,85,86],.cond (.t 86) .skip (.exit 2),.block 3 (QQ [.reg Qxo [3,6,7,12,15,18,21,22,83,84,85],.reg Qxp [3,6,7,12,15,18,21,83,84,85,92],.cond (.t 92) (QQ [.reg Qxq [3,6,7,12,15,18,23,83,84,85],.dreg [(1,none,[],true),(15,none,[1],false)] Qxr [3,6,7,12,15,18,83,84,85]]) .skip]),.reg Qxs [3,6,7,12,15,18,83,84,85]]
def Qxt:LL:=[qL 117 2 18,qm 118 12,qm 119 15,qu 120 [.nl 1,.nl 1] [(0,1,.t 118),(1,1,.t 119)],qs 2 6 117,qs 2 7 120,qi 8 0]
def QiM(F:Fn):LC:=QQ [.reg Qw6 [1,2,3,6,7],.reg (Qw7 F) [2,3,6,7,9,10],QQ [.reg Qw8 [2,3,6,7,9,10,33],.cond (.t 33) (QQ [.reg Qw9 [6,7,8],.ret]) .skip],.reg (Qxa F) [3,6,7,9,10,11],QQ [.reg Qxb [3,6,7,9,10,11,46],.cond (.t 46) (QQ [.reg Qxc [6,7,8],.ret]) .skip],.reg (Qxd F) [3,6,7,9,11,12],.reg (Qxe F) [3,6,7,9,11,12,15],.reg Qxf [3,6,7,9,11,12,15,18],QQ [.reg Qxg [3,6,7,11,12,15,18,62,63,64],.block 0 (.loop [3,6,7,11,12,15,18,62,63,64] Qen)],QQ [.reg Qxm [3,6,7,12,15,18,83,84,85],.block 2 (.loop [3,6,7,12,15,18,83,84,85] Qeo)],.reg Qxt [6,7,8],.ret]
def Qxu:LL:=[qn 8 2]
def Qxv:LL:=[qn 9 2]
def Qxw:LL:=[qm 11 0,qz 12 11,qi 13 0]
def Qxx:LL:=[qo .lss 14 13 12]
def Qxy:LL:=[qm 15 13,qm 10 15]
def Qxz:LL:=[qm 16 9,qm 17 2,qm 18 0,qm 19 10,qd 20 1 18 19,ql 21 1 20,qd 22 1 17 21,ql 23 1 22,qm 24 3,qm 25 1,qm 26 10,qd 27 1 25 26,ql 28 1 27,qd 29 1 24 28,ql 30 1 29,
 qu 31 [.int .i64 (0),.int .i64 (0)] [(0,1,.t 23),(1,1,.t 30)],qQp 32 (.buildSl 2 16 (.agg [.int .i64 (0),.int .i64 (0)]) 1 [(0,.t 31)]),qp 33 2 16 16 32,qm 9 33]
def QxA:LL:=[qk .add 34 13 1,qm 13 34]
def QiN:LC:=QQ [.reg Qxx [0,1,2,3,9,12,13,14],.cond (.t 14) .skip (.exit 0),.block 1 (QQ [.reg Qxy [0,1,2,3,9,10,12,13],.dreg [] Qxz [0,1,2,3,9,12,13]]),.reg QxA [0,1,2,3,9,12,13]]
def QxB:LL:=[qm 35 9,qm 8 35]
def QiO(F:Fn):LC:=QQ [.reg Qxu [0,1,2,3],.reg Qxv [0,1,2,3,9],QQ [.reg Qxw [0,1,2,3,9,12,13],.block 0 (.loop [0,1,2,3,9,12,13] QiN)],.reg QxB [8],.ret]
def QxC:LL:=[qn 4 1]
def QxD:LL:=[qm 8 0,qz 9 8,qQp 10 (.makeSl 1 8 (.int .i64 (0)) (.t 9)),qm 5 10]
def QxE:LL:=[qm 11 0,qz 12 11,qi 13 0]
def QxF:LL:=[qo .lss 14 13 12]
def QxG:LL:=[qm 15 13,qd 16 1 11 13,ql 17 1 16,qm 6 15,qm 7 17]
def QxH:LL:=[qm 18 5,qm 19 6,qm 20 1,qm 21 7,qd 22 1 20 21,ql 23 1 22,qd 24 1 18 19,qs 1 24 23]
def QxI:LL:=[qk .add 25 13 1,qm 13 25]
def QxJ:LC:=QQ [.reg QxF [1,5,11,12,13,14],.cond (.t 14) .skip (.exit 0),.block 1 (QQ [.reg QxG [1,5,6,7,11,12,13],.reg QxH [1,5,11,12,13]]),.reg QxI [1,5,11,12,13]]
def QxK:LL:=[qm 26 5,qm 4 26]
def QiP(F:Fn):LC:=QQ [.reg QxC [0,1],.reg QxD [0,1,5],QQ [.reg QxE [1,5,11,12,13],.block 0 (.loop [1,5,11,12,13] QxJ)],.reg QxK [4],.ret]
def QxL:LL:=[qB 2 0,qB 3 1,qa 4 [.nl 1,.nl 1]]
def QxM(F:Fn):LL:=[qf 5 0 2,ql 6 1 5,qf 7 0 3,ql 8 1 7,qc 9 (F "al") [.t 6,.t 8],qf 10 1 2,ql 11 1 10,qf 12 1 3,ql 13 1 12,qc 14 (F "al") [.t 11,.t 13],qu 15 [.nl 1,.nl 1] [(0,1,.t 9),(1,1,.t 14)],
 qs 2 4 15]
def QiQ(F:Fn):LC:=QQ [.reg QxL [2,3,4],.dreg [(4,none,[],true),(6,(some 32),[4],false),(8,(some 128),[4],false)] (QxM F) [4],.ret]
def QxN:LL:=[qn 4 2]
def QxO:LL:=[qn 5 2]
def QxP:LL:=[qi 6 0]
def QxQ:LL:=[qm 7 6,qm 8 0,qz 9 8,qo .lss 10 7 9]
def QxR:LL:=[qm 13 5,qm 14 0,qm 15 6,qd 16 1 14 15,ql 17 1 16,qm 18 1,qm 19 6,qd 20 1 18 19,ql 21 1 20,qu 22 [.int .i64 (0),.int .i64 (0)] [(0,1,.t 17),(1,1,.t 21)],
 qQp 23 (.buildSl 2 16 (.agg [.int .i64 (0),.int .i64 (0)]) 1 [(0,.t 22)]),qp 24 2 16 13 23,qm 5 24]
def QxS:LL:=[qm 11 6,qk .add 12 11 1,qm 6 12]
def QiR:LC:=QQ [QQ [.reg QxQ [0,1,5,6,10],.cond (.t 10) .skip (.exit 0)],.block 1 (.dreg [] QxR [0,1,5,6]),.reg QxS [0,1,5,6]]
def QxT:LL:=[qm 25 5,qm 4 25]
def QiS(F:Fn):LC:=QQ [.reg QxN [0,1],.reg QxO [0,1,5],QQ [.reg QxP [0,1,5,6],.block 0 (.loop [0,1,5,6] QiR)],.reg QxT [4],.ret]
def QxU:LL:=[qB 3 0,qa 6 [.nl 1,.nl 3],qa 7 [.nl 1,.nl 1]]
def QxV(F:Fn):LL:=[qm 18 1,qc 19 (F "P") [.t 18],qm 17 19,qx 20 17 0,qx 21 17 1,qx 22 17 2,qm 8 20,qm 9 21,qm 10 22]
def QxW(F:Fn):LL:=[qm 24 2,qc 25 (F "P") [.t 24],qm 23 25,qx 26 23 0,qx 27 23 1,qx 28 23 2,qm 11 26,qm 12 27,qm 13 28]
def QxX:LL:=[qm 29 9,qQp 30 (.makeSl 1 8 (.int .i64 (0)) (.t 29)),qm 31 12,qQp 32 (.makeSl 3 24 (.agg [.int .i64 (0),.int .i64 (0),.int .i64 (0)]) (.t 31)),
 qu 33 [.nl 1,.nl 3] [(0,1,.t 30),(1,1,.t 32)],qa 14 [.nl 1,.nl 3],qs 2 14 33]
def QxY:LL:=[qi 15 0]
def QxZ:LL:=[qm 34 15,qf 35 0 3,ql 36 1 35,qz 37 36,qo .lss 38 34 37]
def Qx0:LL:=[qf 41 0 14,ql 42 1 41,qm 43 8,qm 44 15,qd 45 1 43 44,ql 46 1 45,qf 47 0 3,ql 48 1 47,qm 49 15,qd 50 1 48 49,ql 51 1 50,qd 52 1 42 46,qs 1 52 51]
def Qx1:LL:=[qm 39 15,qk .add 40 39 1,qm 15 40]
def QiT:LC:=QQ [QQ [.reg QxZ [3,6,7,8,11,14,15,38],.cond (.t 38) .skip (.exit 0)],.block 1 (.dreg [] Qx0 [3,6,7,8,11,14,15]),.reg Qx1 [3,6,7,8,11,14,15]]
def Qx2:LL:=[qi 16 0]
def Qx3:LL:=[qm 53 16,qf 54 1 3,ql 55 1 54,qz 56 55,qo .lss 57 53 56]
def Qx4:LL:=[qf 60 1 14,ql 61 1 60,qm 62 11,qm 63 16,qd 64 1 62 63,ql 65 1 64,qf 66 1 3,ql 67 1 66,qm 68 16,qd 69 3 67 68,qf 70 0 69,ql 71 1 70,qm 72 8,qf 73 1 3,ql 74 1 73,qm 75 16,
 qd 76 3 74 75,qf 77 1 76,ql 78 1 77,qd 79 1 72 78,ql 80 1 79,qm 81 8,qf 82 1 3,ql 83 1 82,qm 84 16,qd 85 3 83 84,qf 86 2 85,ql 87 1 86,qd 88 1 81 87,ql 89 1 88,
 qu 90 [.int .i64 (0),.int .i64 (0),.int .i64 (0)] [(0,1,.t 71),(1,1,.t 80),(2,1,.t 89)],qd 91 3 61 65,qs 3 91 90]
def Qx5:LL:=[qm 58 16,qk .add 59 58 1,qm 16 59]
def QiU:LC:=QQ [QQ [.reg Qx3 [3,6,7,8,11,14,16,57],.cond (.t 57) .skip (.exit 2)],.block 3 (.dreg [] Qx4 [3,6,7,8,11,14,16]),.reg Qx5 [3,6,7,8,11,14,16]]
def Qx6:LL:=[qL 92 2 14,qm 93 8,qm 94 11,qu 95 [.nl 1,.nl 1] [(0,1,.t 93),(1,1,.t 94)],qs 2 6 92,qs 2 7 95]
def QiV(F:Fn):LC:=QQ [.reg QxU [1,2,3,6,7],.reg (QxV F) [2,3,6,7,8,9],.reg (QxW F) [3,6,7,8,9,11,12],.dreg [] QxX [3,6,7,8,11,14],QQ [.reg QxY [3,6,7,8,11,14,15],.block 0 (.loop [3,6,7,8,11,14,15] QiT)],QQ [.reg Qx2 [3,6,7,8,11,14,16],.block 2 (.loop [3,6,7,8,11,14,16] QiU)],.reg Qx6 [6,7],.ret]
def Qx7:LL:=[qB 3 0,qB 4 1,qB 5 2,qa 6 [.nl 1,.nl 3],qa 7 [.nl 1,.nl 1]]
def Qx8(F:Fn):LL:=[qf 13 0 3,ql 14 1 13,qz 15 14,qf 16 0 4,ql 17 1 16,qf 18 0 5,ql 19 1 18,qc 20 (F "am") [.t 17,.t 19],qc 21 (F "aj") [.t 15,.t 20],qm 12 21,qx 22 12 0,qx 23 12 1,qm 8 22,qm 9 23]
def Qx9(F:Fn):LL:=[qf 25 1 3,ql 26 1 25,qz 27 26,qf 28 1 4,ql 29 1 28,qf 30 1 5,ql 31 1 30,qc 32 (F "am") [.t 29,.t 31],qc 33 (F "aj") [.t 27,.t 32],qm 24 33,qx 34 24 0,qx 35 24 1,qm 10 34,qm 11 35]
def Qya(F:Fn):LL:=[qL 36 2 3,qm 37 8,qm 38 10,qc 39 (F "cc") [.t 36,.t 37,.t 38],qx 40 39 0,qx 41 39 1,qs 2 6 40,qs 2 7 41]
def QiW(F:Fn):LC:=QQ [.reg Qx7 [3,4,5,6,7],.dreg [(1,none,[],true),(7,none,[1],false)] (Qx8 F) [3,4,5,6,7,8],.dreg [(1,none,[],true),(7,none,[1],false)] (Qx9 F) [3,6,7,8,10],.reg (Qya F) [6,7],.ret]
attribute [go_sem] Qw6 Qw7 Qw8 Qw9 Qxa Qxb Qxc Qxd Qxe Qxf Qxg Qxh Qxi Qxj Qxk Qxl Qxm Qxn Qxo Qxp Qxq Qxr Qxs Qxt QiM Qxu Qxv Qxw Qxx Qxy Qxz QxA QxB QiO QxC QxD QxE QxF QxG QxH QxI QxK QiP QxL QxM QiQ QxN QxO QxP QxQ QxR QxS QxT QiS QxU QxV QxW QxX QxY QxZ Qx0 Qx1 Qx2 Qx3 Qx4 Qx5 Qx6 QiV Qx7 Qx8 Qx9 Qya QiW
section
variable (P:Program) (F:String→Nat)
def QiX:Prop:=∀(g:G)(ns es:List Pr),QX g=0→ns.length≤1000→es.length≤1000→Zv g.n.length ns→Zv g.e.length es→FC P (F "bd") [gD g,.lst 2 (prs ns),.lst 2 (prs es)] (.tup [gA (Yl g (X6 g.n.length ns) (X6 g.e.length es)),mA (XU (X6 g.n.length ns) (X6 g.e.length es)),.int .i64 0]) []
def QiY:Prop:=∀(f g l r:List Int),f.length≤1000→g.length=f.length→(∀x∈f,0≤x∧x<l.length)→(∀x∈g,0≤x∧x<r.length)→FC P (F "ai") [.lst 1 (QR f),.lst 1 (QR g),.lst 1 (QR l),.lst 1 (QR r)] (.arr 2 (prs (prL (thr f l) (thr g r) (thr f l).length))) []
def QiZ:Prop:=∀l b:List Int,l.length≤1000000→(∀x∈l,0≤x∧x<b.length)→FC P (F "al") [.lst 1 (QR l),.lst 1 (QR b)] (.arr 1 (QR (thr l b))) []
def Qi0:Prop:=∀m n:Mo,m.n.length≤1000000→m.e.length≤1000000→(∀x∈m.n,0≤x∧x<n.n.length)→(∀x∈m.e,0≤x∧x<n.e.length)→FC P (F "ax") [mD m,mD n] (mA (QY m n)) []
def Qi1:Prop:=∀(f g:List Int),f.length≤1000→g.length=f.length→FC P (F "am") [.lst 1 (QR f),.lst 1 (QR g)] (.arr 2 (prs (prL f g f.length))) []
def Qi2:Prop:=∀(g:G)(p r:List Int),QX g=0→Cong g p r→FC P (F "cc") [gD g,.lst 1 (QR p),.lst 1 (QR r)] (.tup [gA (Yl g p r),mA (XU p r)]) []
def Qi3:Prop:=∀(a g:G)(f h:Mo),MOk a g f→MOk a g h→FC P (F "ca") [gD g,mD f,mD h] (.tup [gA (Js g f h),mA (ZX g f h)]) []
end
section
variable {P:Program} {F:String→Nat} {α:Type}
theorem Qi4{α:Type}[Inhabited α](l:List α)(p:List Int):∀n:Nat,(qN l p n).length≤n
 |0=>by simp [qN]
 |n+1=>by rw[qN];have:=Qi4 l p n;split<;>simp<;>omega
set_option maxRecDepth 100000 in
set_option maxHeartbeats 4000000 in
theorem QWY(hg:QiH P F)(hq:QiK P F)(g:G)(ns es:List Pr)(hv:QX g=0)(l1:ns.length≤1000)(l2:es.length≤1000)(p1:Zv g.n.length ns)(p2:Zv g.e.length es):
  W P (QiM F) (Done [.c 6 true 2,.c 7 true 2,.t 8] [] (.tup [gA (Yl g (X6 g.n.length ns) (X6 g.e.length es)),mA (XU (X6 g.n.length ns) (X6 g.e.length es)),.int .i64 0]) []) (init [gD g,.lst 2 (prs ns),.lst 2 (prs es)]):=by
 refine QZ ?_
 have vs:=Q8 hv
 have r1:=hg g.n.length ns (by omega) l1 p1
 have r2:=hg g.e.length es (by omega) l2 p2
 have i1:YR (X6 g.n.length ns):=Qd6 p1 (Qf _)
 have i2:YR (X6 g.e.length es):=Qd6 p2 (Qf _)
 have gl1:(X6 g.n.length ns).length=g.n.length:=Qah _
 have gl2:(X6 g.e.length es).length=g.e.length:=Qah _
 have r3:=hq _ i1 (by omega)
 have r4:=hq _ i2 (by omega)
 have q1:=Zi i1 _ (Qf _)
 have q2:=Zi i2 _ (Qf _)
 unfold Yl XU
 generalize X6 g.n.length ns=p at*
 generalize X6 g.e.length es=r at*
 have hb1:=q1.b
 have hl1:=q1.l
 have hl2:=q2.l
 clear q1 q2
 rw[gl1] at r3 hb1 hl1 ⊢
 rw[gl2] at r4 hl2 ⊢
 generalize (quo p g.n.length).1=q at*
 generalize (quo p g.n.length).2=qc at*
 generalize (quo r g.e.length).1=qe at*
 generalize (quo r g.e.length).2=qec at*
 have hef:∀i:Nat,i<g.e.length→(0≤(gt g.e i).f∧(gt g.e i).f<g.n.length)∧(0≤(gt g.e i).o∧(gt g.e i).o<g.n.length):=fun i hi=>(Zt hv (i:=i) (by omega)).2
 have hr:∀i:Nat,i<g.e.length→gt (reE q g.e) i=⟨(gt g.e i).t,gt q (gt g.e i).f,gt q (gt g.e i).o⟩:=fun i hi=>QcG hi
 have hrl:=QWB q g.e
 generalize reE q g.e=re at*
 obtain⟨gn,ge⟩:=g
 simp only[gD,gA,mA] at*
 simp(disch:=omega)only[go_sem]
 refine QT r1 ?_
 simp(disch:=omega)only[go_sem,gl1]
 refine QT r2 ?_
 simp(disch:=omega)only[go_sem,gl1,gl2]
 refine QT r3 ?_
 simp(disch:=omega)only[go_sem,gl1,gl2,hl1]
 refine QT r4 ?_
 simp(disch:=omega)only[go_sem,gl1,gl2,hl1,hl2]
 have lN:=Qi4 gn p
 refine Q5 (fun i:Nat=>⟨[(3,.pt 0 0),(6,.pt 3 0),(7,.pt 6 0),(11,.sl 7 0 ge.length),(12,.sl 8 0 gn.length),(15,.sl 9 0 ge.length),(18,.pt 12 0),(62,.sl 13 0 gn.length),(63,.int .i64 gn.length),(64,.int .i64 i)],
  [(0,.box [.lst 1 (QR gn),.lst 3 (eds ge)]),(1,.arr 1 []),(2,.arr 3 []),(3,.box [.sl 1 0 0,.sl 2 0 0]),(4,.arr 1 []),(5,.arr 1 []),(6,.box [.sl 4 0 0,.sl 5 0 0]),(7,.arr 1 (QR r)),(8,.arr 1 (QR q)),(9,.arr 1 (QR qe)),
   (10,.arr 1 (QR (qN gn p i))),(11,.arr 3 []),(12,.box [.sl 10 0 (qN gn p i).length,.sl 11 0 0]),(13,.arr 1 (QR p))],14⟩) (fun i=>i≤gn.length) (fun i=>gn.length-i) 0 ?_ ?_ ?_
 ·simp(disch:=omega)only[go_sem,qN,gl1,gl2,hl1,hl2,Zc]
  rfl
 ·simp
 ·intro i hi
  have lNi:=lN i
  by_cases c:i<gn.length
  ·have g1:decide ((i:Int)<gn.length)=true:=Qd (by omega)
   have hs:qN gn p (i+1)=if gt p i=i then qN gn p i++[gt gn i] else qN gn p i:=rfl
   by_cases d:gt p i=i
   ·have g2:decide (gt p i=i)=true:=Qd d
    rw[if_pos d] at hs
    simp(disch:=omega)only[go_sem,Qen,g1,g2,gl1]
    exact⟨i+1,by simp [hs],by omega,by omega⟩
   ·have g2:decide (gt p i=i)=false:=Qc d
    rw[if_neg d] at hs
    simp(disch:=omega)only[go_sem,Qen,g1,g2,gl1]
    exact⟨i+1,by simp [hs],by omega,by omega⟩
  ·have g1:decide ((i:Int)<gn.length)=false:=Qc (by omega)
   obtain rfl:i=gn.length:=by omega
   simp(disch:=omega)only[go_sem,Qen,g1,gl1,gl2,hl1,hl2]
   generalize qN gn p gn.length=on at*
   have lE:=Qi4 re r
   refine Q5 (fun i:Nat=>⟨[(3,.pt 0 0),(6,.pt 3 0),(7,.pt 6 0),(12,.sl 7 0 gn.length),(15,.sl 8 0 ge.length),(18,.pt 11 0),(83,.sl 12 0 ge.length),(84,.int .i64 ge.length),(85,.int .i64 i)],
    [(0,.box [.lst 1 (QR gn),.lst 3 (eds ge)]),(1,.arr 1 []),(2,.arr 3 []),(3,.box [.sl 1 0 0,.sl 2 0 0]),(4,.arr 1 []),(5,.arr 1 []),(6,.box [.sl 4 0 0,.sl 5 0 0]),(7,.arr 1 (QR q)),(8,.arr 1 (QR qe)),
     (9,.arr 1 (QR on)),(10,.arr 3 (eds (qN re r i))),(11,.box [.sl 9 0 on.length,.sl 10 0 (qN re r i).length]),(12,.arr 1 (QR r))],13⟩) (fun i=>i≤ge.length) (fun i=>ge.length-i) 0 ?_ ?_ ?_
   ·simp(disch:=omega)only[go_sem,qN,gl1,gl2,hl1,hl2,Zc]
    rfl
   ·simp
   ·intro i hi
    have lEi:=lE i
    by_cases c:i<ge.length
    ·have g1:decide ((i:Int)<ge.length)=true:=Qd (by omega)
     have hs:qN re r (i+1)=if gt r i=i then qN re r i++[gt re i] else qN re r i:=rfl
     rw[hr i c] at hs
     obtain⟨⟨f1,f2⟩,o1,o2⟩:=hef i c
     by_cases d:gt r i=i
     ·have g2:decide (gt r i=i)=true:=Qd d
      rw[if_pos d] at hs
      simp(disch:=omega)only[go_sem,Qeo,g1,g2,gl2,hl1]
      exact⟨i+1,by simp [hs],by omega,by omega⟩
     ·have g2:decide (gt r i=i)=false:=Qc d
      rw[if_neg d] at hs
      simp(disch:=omega)only[go_sem,Qeo,g1,g2,gl2]
      exact⟨i+1,by simp [hs],by omega,by omega⟩
    ·have g1:decide ((i:Int)<ge.length)=false:=Qc (by omega)
     obtain rfl:i=ge.length:=by omega
     simp(disch:=omega)only[go_sem,Qeo,g1,gl2,hl1,hl2]
     try rfl
theorem QWZ(f g l r:List Int)(hf:f.length≤1000)(hg:g.length=f.length)(h1:∀x∈f,0≤x∧x<l.length)(h2:∀x∈g,0≤x∧x<r.length):
  W P (QiO F) (Done [.t 8] [] (.arr 2 (prs (prL (thr f l) (thr g r) (thr f l).length))) []) (init [.lst 1 (QR f),.lst 1 (QR g),.lst 1 (QR l),.lst 1 (QR r)]):=by
 refine QZ ?_
 have e1:=ZY (thr f l) (thr g r)
 have e0:prL (thr f l) (thr g r) 0=[]:=rfl
 have e2:∀i:Nat,i<f.length→prL (thr f l) (thr g r) (i+1)=prL (thr f l) (thr g r) i++[⟨gt l (gt f i),gt r (gt g i)⟩]:=fun i hi=>by rw[Qut,Xi hi,Xi (by omega)]
 rw[Xp]
 generalize prL (thr f l) (thr g r)=pl at*
 simp(disch:=omega)only[go_sem]
 refine Q5 (fun i:Nat=>⟨[(0,.lst 1 (QR f)),(1,.lst 1 (QR g)),(2,.lst 1 (QR l)),(3,.lst 1 (QR r)),(9,.sl 0 0 i),(12,.int .i64 f.length),(13,.int .i64 i)],[(0,.arr 2 (prs (pl i)))],1⟩) (fun i=>i≤f.length) (fun i=>f.length-i) 0 ?_ ?_ ?_
 ·simp(disch:=omega)only[go_sem,e0]
  rfl
 ·simp
 ·intro i hi
  have e1i:=e1 i
  by_cases c:i<f.length
  ·have g1:decide ((i:Int)<f.length)=true:=Qd (by omega)
   have hx:=h1 _ (gt_mem (l:=f) (j:=i) (by omega) (by omega))
   have hy:=h2 _ (gt_mem (l:=g) (j:=i) (by omega) (by omega))
   simp(disch:=omega)only[go_sem,QiN,g1,hg,e1i]
   exact⟨i+1,by simp [e2 i c],by omega,by omega⟩
  ·have g1:decide ((i:Int)<f.length)=false:=Qc (by omega)
   obtain rfl:i=f.length:=by omega
   simp(disch:=omega)only[go_sem,QiN,g1,e1i]
theorem QW0(f g:List Int)(hf:f.length≤1000)(hg:g.length=f.length):W P (QiS F) (Done [.t 4] [] (.arr 2 (prs (prL f g f.length))) []) (init [.lst 1 (QR f),.lst 1 (QR g)]):=by
 refine QZ ?_
 have e1:=ZY f g
 have e0:prL f g 0=[]:=rfl
 have e2:=Qut f g
 generalize prL f g=pl at*
 simp(disch:=omega)only[go_sem]
 refine Q5 (fun i:Nat=>⟨[(0,.lst 1 (QR f)),(1,.lst 1 (QR g)),(5,.sl 0 0 i),(6,.int .i64 i)],[(0,.arr 2 (prs (pl i)))],1⟩) (fun i=>i≤f.length) (fun i=>f.length-i) 0 ?_ ?_ ?_
 ·simp(disch:=omega)only[go_sem,e0]
  rfl
 ·simp
 ·intro i hi
  have e1i:=e1 i
  by_cases c:i<f.length
  ·have g1:decide ((i:Int)<f.length)=true:=Qd (by omega)
   simp(disch:=omega)only[go_sem,QiR,g1,hg,e1i]
   exact⟨i+1,by simp [e2 i],by omega,by omega⟩
  ·have g1:decide ((i:Int)<f.length)=false:=Qc (by omega)
   obtain rfl:i=f.length:=by omega
   simp(disch:=omega)only[go_sem,QiR,g1,e1i]
theorem QW1(l b:List Int)(hl:l.length≤1000000)(hb:∀x∈l,0≤x∧x<b.length):W P (QiP F) (Done [.t 4] [] (.arr 1 (QR (thr l b))) []) (init [.lst 1 (QR l),.lst 1 (QR b)]):=by
 refine QZ ?_
 simp(config:={maxSteps:=1000000}) (disch:=first|omega|(simp only[go_sem];omega))only[go_sem]
 refine Q5 (fun i:Nat=>⟨[(1,.lst 1 (QR b)),(5,.sl 0 0 l.length),(11,.lst 1 (QR l)),(12,.int .i64 l.length),(13,.int .i64 i)],[(0,.arr 1 (QR (thr (l.take i) b++List.replicate (l.length-i) 0)))],1⟩) (fun i=>i≤l.length) (fun i=>l.length-i) 0 ?_ ?_ ?_
 ·simp(config:={maxSteps:=1000000}) (disch:=first|omega|(simp only[go_sem];omega))only[go_sem]
  rfl
 ·simp
 ·intro i hi
  have el:(thr (l.take i) b).length=i:=by rw[Xp];simp;omega
  simp(config:={maxSteps:=1000000}) (disch:=first|omega|(simp only[go_sem];omega))only[go_sem,QxJ]
  refine Q7 (fun c=>?_) (fun c=>?_)
  ·have hx:=hb _ (gt_mem (l:=l) (j:=i) (by omega) (by omega))
   have hf:(thr (l.take i) b++List.replicate (l.length-i) 0).set i (gt b (gt l i))=thr (l.take (i+1)) b++List.replicate (l.length-(i+1)) 0:=by
    have:=Qib (thr (l.take i) b) (gt b (gt l i)) 0 (l.length-(i+1))
    rw[el,show l.length-(i+1)+1=l.length-i by omega] at this
    rw[this,Qcy (by omega)]
   simp(config:={maxSteps:=1000000}) (disch:=first|omega|(simp only[go_sem];omega))only[go_sem,el,hf]
   exact⟨i+1,by simp,by omega,by omega⟩
  ·obtain rfl:i=l.length:=by omega
   rw[List.take_length] at el
   simp(config:={maxSteps:=1000000}) (disch:=first|omega|(simp only[go_sem];omega))only[go_sem,el]
   simp
theorem QW2(ht:QiZ P F)(m n:Mo)(h1:m.n.length≤1000000)(h2:m.e.length≤1000000)(h3:∀x∈m.n,0≤x∧x<n.n.length)(h4:∀x∈m.e,0≤x∧x<n.e.length):
  W P (QiQ F) (Done [.c 4 true 2] [] (mA (QY m n)) []) (init [mD m,mD n]):=by
 refine QZ ?_
 obtain⟨mn,me⟩:=m
 obtain⟨nn,ne⟩:=n
 have r1:=ht mn nn h1 h3
 have r2:=ht me ne h2 h4
 simp(disch:=omega)only[go_sem,mD]
 refine QT r1 ?_
 simp(disch:=omega)only[go_sem]
 refine QT r2 ?_
 simp(disch:=omega)only[go_sem,mA,QY]
set_option maxRecDepth 100000 in
set_option maxHeartbeats 4000000 in
theorem QW3(hq:Qd4 P F)(g:G)(p r:List Int)(hv:QX g=0)(hc:Cong g p r):
  W P (QiV F) (Done [.c 6 true 2,.c 7 true 2] [] (.tup [gA (Yl g p r),mA (XU p r)]) []) (init [gD g,.lst 1 (QR p),.lst 1 (QR r)]):=by
 refine QZ ?_
 have vs:=Q8 hv
 have hpl:=hc.pl
 have hrl:=hc.rl
 have r3:=hq p ⟨by omega,hc.ph⟩
 have r4:=hq r ⟨by omega,hc.rh⟩
 have q1:=Zi hc.ph _ (Qf _)
 have q2:=Zi hc.rh _ (Qf _)
 have eN:XR g.n (quo p p.length).1 (List.replicate (quo p p.length).2 0) g.n.length=qN g.n p p.length:=by
  refine Qus (by simp [ZI]) (fun i hi=>⟨(q1.b i (by omega)).1,QbN hc.ph (Qf _) hc.pt (by omega)⟩) fun k hk=>?_
  rw[ZI] at hk
  obtain⟨i,h1,_,h3⟩:=q1.s k hk
  exact⟨i,by omega,h3⟩
 have eE:XR (reE (quo p p.length).1 g.e) (quo r r.length).1 (List.replicate (quo r r.length).2 ⟨0,0,0⟩) g.e.length=qN (reE (quo p p.length).1 g.e) r r.length:=by
  refine Qus (by simp [ZI]) (fun i hi=>⟨(q2.b i (by omega)).1,QbN hc.rh (Qf _) hc.rt (by omega)⟩) fun k hk=>?_
  rw[ZI] at hk
  obtain⟨i,h1,_,h3⟩:=q2.s k hk
  exact⟨i,by omega,h3⟩
 unfold Yl XU
 rw[←eN,←eE]
 clear eN eE
 have hb1:=q1.b
 have hl1:=q1.l
 have hc1:=q1.c
 have hb2:=q2.b
 have hl2:=q2.l
 have hc2:=q2.c
 clear q1 q2
 rw[hpl] at r3 hb1 hl1 hc1 ⊢
 rw[hrl] at r4 hb2 hl2 hc2 ⊢
 generalize (quo p g.n.length).1=q at*
 generalize (quo p g.n.length).2=qc at*
 generalize (quo r g.e.length).1=qe at*
 generalize (quo r g.e.length).2=qec at*
 have hef:∀i:Nat,i<g.e.length→(0≤(gt g.e i).f∧(gt g.e i).f<g.n.length)∧(0≤(gt g.e i).o∧(gt g.e i).o<g.n.length):=fun i hi=>(Zt hv (i:=i) (by omega)).2
 have hr:∀i:Nat,i<g.e.length→gt (reE q g.e) i=⟨(gt g.e i).t,gt q (gt g.e i).f,gt q (gt g.e i).o⟩:=fun i hi=>QcG hi
 clear hc
 generalize reE q g.e=re at*
 obtain⟨gn,ge⟩:=g
 simp only[gD,gA,mA] at*
 have lN:∀i,(XR gn q (List.replicate qc 0) i).length=qc:=fun i=>by rw[Z9];simp
 have lE:∀i,(XR re qe (List.replicate qec ⟨0,0,0⟩) i).length=qec:=fun i=>by rw[Z9];simp
 simp(disch:=omega)only[go_sem]
 refine QT r3 ?_
 simp(disch:=omega)only[go_sem,hl1]
 refine QT r4 ?_
 simp(disch:=omega)only[go_sem,hl1,hl2]
 refine Q5 (fun i:Nat=>⟨[(3,.pt 0 0),(6,.pt 3 0),(7,.pt 6 0),(8,.sl 7 0 gn.length),(11,.sl 8 0 ge.length),(14,.pt 11 0),(15,.int .i64 i)],
  [(0,.box [.lst 1 (QR gn),.lst 3 (eds ge)]),(1,.arr 1 []),(2,.arr 3 []),(3,.box [.sl 1 0 0,.sl 2 0 0]),(4,.arr 1 []),(5,.arr 1 []),(6,.box [.sl 4 0 0,.sl 5 0 0]),(7,.arr 1 (QR q)),(8,.arr 1 (QR qe)),
   (9,.arr 1 (QR (XR gn q (List.replicate qc 0) i))),(10,.arr 3 (eds (List.replicate qec ⟨0,0,0⟩))),(11,.box [.sl 9 0 qc,.sl 10 0 qec])],12⟩) (fun i=>i≤gn.length) (fun i=>gn.length-i) 0 ?_ ?_ ?_
 ·simp(disch:=omega)only[go_sem,XR,hl1,hl2]
  rfl
 ·simp
 ·intro i hi
  have lNi:=lN i
  by_cases c:i<gn.length
  ·have g1:decide ((i:Int)<gn.length)=true:=Qd (by omega)
   have hs:XR gn q (List.replicate qc 0) (i+1)=(XR gn q (List.replicate qc 0) i).set (gt q i).toNat (gt gn i):=rfl
   obtain⟨b1,b2⟩:=hb1 i c
   generalize XR gn q (List.replicate qc 0) i=sn at*
   simp(disch:=omega)only[go_sem,QiT,g1,hl1,lNi]
   exact⟨i+1,by simp [hs],by omega,by omega⟩
  ·have g1:decide ((i:Int)<gn.length)=false:=Qc (by omega)
   obtain rfl:i=gn.length:=by omega
   simp(disch:=omega)only[go_sem,QiT,g1,hl1,hl2,lNi]
   generalize XR gn q (List.replicate qc 0) gn.length=on at*
   refine Q5 (fun i:Nat=>⟨[(3,.pt 0 0),(6,.pt 3 0),(7,.pt 6 0),(8,.sl 7 0 gn.length),(11,.sl 8 0 ge.length),(14,.pt 11 0),(16,.int .i64 i)],
    [(0,.box [.lst 1 (QR gn),.lst 3 (eds ge)]),(1,.arr 1 []),(2,.arr 3 []),(3,.box [.sl 1 0 0,.sl 2 0 0]),(4,.arr 1 []),(5,.arr 1 []),(6,.box [.sl 4 0 0,.sl 5 0 0]),(7,.arr 1 (QR q)),(8,.arr 1 (QR qe)),
     (9,.arr 1 (QR on)),(10,.arr 3 (eds (XR re qe (List.replicate qec ⟨0,0,0⟩) i))),(11,.box [.sl 9 0 qc,.sl 10 0 qec])],12⟩) (fun i=>i≤ge.length) (fun i=>ge.length-i) 0 ?_ ?_ ?_
   ·simp(disch:=omega)only[go_sem,XR,hl1,hl2]
    rfl
   ·simp
   ·intro i hi
    have lEi:=lE i
    by_cases c:i<ge.length
    ·have g1:decide ((i:Int)<ge.length)=true:=Qd (by omega)
     have hs:XR re qe (List.replicate qec ⟨0,0,0⟩) (i+1)=(XR re qe (List.replicate qec ⟨0,0,0⟩) i).set (gt qe i).toNat (gt re i):=rfl
     rw[hr i c] at hs
     obtain⟨⟨f1,f2⟩,o1,o2⟩:=hef i c
     obtain⟨b1,b2⟩:=hb2 i c
     generalize XR re qe (List.replicate qec ⟨0,0,0⟩) i=se at*
     simp(disch:=omega)only[go_sem,QiU,g1,hl1,hl2,lEi]
     exact⟨i+1,by simp [hs],by omega,by omega⟩
    ·have g1:decide ((i:Int)<ge.length)=false:=Qc (by omega)
     obtain rfl:i=ge.length:=by omega
     simp(disch:=omega)only[go_sem,QiU,g1,hl1,hl2,lNi,lEi]
     try rfl
theorem QW4(hp:Qi1 P F)(hg:QiL P F)(hq:Qi2 P F)(a g:G)(f h:Mo)(hf:MOk a g f)(hh:MOk a g h):
  W P (QiW F) (Done [.c 6 true 2,.c 7 true 2] [] (.tup [gA (Js g f h),mA (ZX g f h)]) []) (init [gD g,mD f,mD h]):=by
 refine QZ ?_
 have hc:=J3 hf hh
 have va:=Q8 hf.va
 have vs:=Q8 hf.vb
 have f1:=hf.ln
 have f2:=hf.le
 have h1:=hh.ln
 have h2:=hh.le
 have p1:=hp f.n h.n (by omega) (by omega)
 have p2:=hp f.e h.e (by omega) (by omega)
 have g1:=hg g.n.length (prL f.n h.n f.n.length) (by omega) (by rw[ZY];omega) (QbP hf hh)
 have g2:=hg g.e.length (prL f.e h.e f.e.length) (by omega) (by rw[ZY];omega) (QbQ hf hh)
 have r:=hq g _ _ hf.vb hc
 have l1:(YS g f h).length=g.n.length:=QcH
 have l2:(Ja g f h).length=g.e.length:=Qif
 rw[show X6 g.n.length (prL f.n h.n f.n.length)=YS g f h from rfl] at g1
 rw[show X6 g.e.length (prL f.e h.e f.e.length)=Ja g f h from rfl] at g2
 rw[show Yl g (YS g f h) (Ja g f h)=Js g f h from rfl,show XU (YS g f h) (Ja g f h)=ZX g f h from rfl] at r
 have pl1:=ZY f.n h.n f.n.length
 have pl2:=ZY f.e h.e f.e.length
 generalize prL f.n h.n f.n.length=q1 at*
 generalize prL f.e h.e f.e.length=q2 at*
 generalize YS g f h=gn' at*
 generalize Ja g f h=ge' at*
 generalize Js g f h=gg at*
 generalize ZX g f h=gm at*
 clear hc vs va hf hh
 obtain⟨gn,ge⟩:=g
 obtain⟨fn,fe⟩:=f
 obtain⟨hn,he⟩:=h
 obtain⟨ggn,gge⟩:=gg
 obtain⟨gmn,gme⟩:=gm
 simp only[gD,gA,mD,mA] at*
 simp(disch:=omega)only[go_sem]
 refine QT p1 ?_
 simp(disch:=omega)only[go_sem,pl1,QhG]
 refine QT g1 ?_
 simp(disch:=omega)only[go_sem,l1]
 refine QT p2 ?_
 simp(disch:=omega)only[go_sem,pl2,l1,QhG]
 refine QT g2 ?_
 simp(disch:=omega)only[go_sem,l1,l2]
 refine QT r ?_
 simp(disch:=omega)only[go_sem]
 rfl
end
def Qyb:LL:=[qB 1 0,qi 2 0]
def Qyc(F:Fn):LL:=[qf 4 0 1,qL 5 2 4,qf 6 2 1,qL 7 2 6,qf 8 6 1,qL 9 2 8,qc 10 (F "e") [.t 5,.t 7,.t 9],qm 3 10]
def Qyd:LL:=[qm 11 3,qk .neq 12 11 0]
def Qye:LL:=[qm 13 3,qm 2 13]
def Qyf(F:Fn):LL:=[qf 14 0 1,qL 15 2 14,qf 16 4 1,qL 17 2 16,qf 18 8 1,qL 19 2 18,qc 20 (F "e") [.t 15,.t 17,.t 19],qm 2 20]
def Qi5(F:Fn):LC:=QQ [.reg Qyb [1],QQ [.reg (Qyc F) [1,3],.reg Qyd [1,3,12],.cond (.t 12) (QQ [.reg Qye [2],.ret]) .skip],.reg (Qyf F) [2],.ret]
def Qyg:LL:=[qB 1 0,qa 2 [.nl 1,.nl 3],qa 3 [.nl 1,.nl 1],qa 4 [.nl 1,.nl 1],qi 5 0]
def Qyh(F:Fn):LL:=[qf 13 2 1,qL 14 2 13,qf 15 4 1,qL 16 2 15,qc 17 (F "bp") [.t 14,.t 16],qm 12 17,qx 18 12 0,qx 19 12 1,qx 20 12 2,qx 21 12 3,qa 6 [.nl 1,.nl 3],qa 7 [.nl 1,.nl 1],
 qa 8 [.nl 1,.nl 1],qs 2 6 18,qs 2 7 19,qs 2 8 20,qm 9 21]
def Qyi:LL:=[qm 22 9,qk .neq 23 22 0]
def Qyj:LL:=[qu 24 [.nl 1,.nl 3] [],qu 25 [.nl 1,.nl 1] [],qu 26 [.nl 1,.nl 1] [],qm 27 9,qs 2 2 24,qs 2 3 25,qs 2 4 26,qm 5 27]
def Qyk(F:Fn):LL:=[qL 29 2 6,qf 30 6 1,qf 31 0 30,ql 32 1 31,qf 33 8 1,qf 34 0 33,ql 35 1 34,qf 36 0 7,ql 37 1 36,qf 38 0 8,ql 39 1 38,qc 40 (F "ai") [.t 32,.t 35,.t 37,.t 39],qf 41 6 1,qf 42 1 41,
 ql 43 1 42,qf 44 8 1,qf 45 1 44,ql 46 1 45,qf 47 1 7,ql 48 1 47,qf 49 1 8,ql 50 1 49,qc 51 (F "ai") [.t 43,.t 46,.t 48,.t 50],qc 52 (F "bd") [.t 29,.t 40,.t 51],qm 28 52,qx 53 28 0,
 qx 54 28 1,qx 55 28 2,qa 10 [.nl 1,.nl 3],qa 11 [.nl 1,.nl 1],qs 2 10 53,qs 2 11 54,qm 9 55]
def Qyl:LL:=[qm 56 9,qk .neq 57 56 0]
def Qym:LL:=[qu 58 [.nl 1,.nl 3] [],qu 59 [.nl 1,.nl 1] [],qu 60 [.nl 1,.nl 1] [],qm 61 9,qs 2 2 58,qs 2 3 59,qs 2 4 60,qm 5 61]
def Qyn(F:Fn):LL:=[qL 62 2 10,qL 63 2 7,qL 64 2 11,qc 65 (F "ax") [.t 63,.t 64],qL 66 2 8,qL 67 2 11,qc 68 (F "ax") [.t 66,.t 67],qs 2 2 62,qs 2 3 65,qs 2 4 68,qi 5 0]
def Qi6(F:Fn):LC:=QQ [.reg Qyg [1,2,3,4],.reg (Qyh F) [1,2,3,4,6,7,8,9],QQ [.reg Qyi [1,2,3,4,6,7,8,9,23],.cond (.t 23) (QQ [.reg Qyj [2,3,4,5],.ret]) .skip],.dreg [(0,none,[],true),(11,none,[0],true),(14,(some 12288),[11],false),(17,(some 98304),[11],false),(19,(some 262144),[11],false),(21,(some 1048576),[11],false),(22,none,[0],false)] (Qyk F) [2,3,4,7,8,9,10,11],QQ [.reg Qyl [2,3,4,7,8,9,10,11,57],.cond (.t 57) (QQ [.reg Qym [2,3,4,5],.ret]) .skip],.dreg [(0,none,[],true),(3,none,[0],true),(4,(some 0),[3],false),(5,(some 0),[3],false),(6,none,[0],false)] (Qyn F) [2,3,4,5],.ret]
def Qyo:LL:=[qB 1 0,qa 2 [.nl 1,.nl 3],qa 3 [.nl 1,.nl 1],qa 4 [.nl 1,.nl 1],qi 5 0]
def Qyp(F:Fn):LL:=[qL 7 10 1,qc 8 (F "bo") [.t 7],qm 6 8]
def Qyq:LL:=[qm 9 6,qk .neq 10 9 0]
def Qyr:LL:=[qu 11 [.nl 1,.nl 3] [],qu 12 [.nl 1,.nl 1] [],qu 13 [.nl 1,.nl 1] [],qm 14 6,qs 2 2 11,qs 2 3 12,qs 2 4 13,qm 5 14]
def Qys(F:Fn):LL:=[qL 15 10 1,qc 16 (F "bh") [.t 15],qx 17 16 0,qx 18 16 1,qx 19 16 2,qx 20 16 3,qs 2 2 17,qs 2 3 18,qs 2 4 19,qm 5 20]
def Qi7(F:Fn):LC:=QQ [.reg Qyo [1,2,3,4],QQ [.reg (Qyp F) [1,2,3,4,6],.reg Qyq [1,2,3,4,6,10],.cond (.t 10) (QQ [.reg Qyr [2,3,4,5],.ret]) .skip],.reg (Qys F) [2,3,4,5],.ret]
def Qyt:LL:=[qB 1 0,qi 2 0]
def Qyu(F:Fn):LL:=[qf 4 0 1,qL 5 2 4,qf 6 2 1,qL 7 2 6,qf 8 6 1,qL 9 2 8,qc 10 (F "s") [.t 5,.t 7,.t 9],qm 3 10]
def Qyv:LL:=[qm 11 3,qk .neq 12 11 0]
def Qyw:LL:=[qm 13 3,qm 2 13]
def Qyx(F:Fn):LL:=[qf 14 0 1,qL 15 2 14,qf 16 4 1,qL 17 2 16,qf 18 8 1,qL 19 2 18,qc 20 (F "s") [.t 15,.t 17,.t 19],qm 2 20]
def Qi8(F:Fn):LC:=QQ [.reg Qyt [1],QQ [.reg (Qyu F) [1,3],.reg Qyv [1,3,12],.cond (.t 12) (QQ [.reg Qyw [2],.ret]) .skip],.reg (Qyx F) [2],.ret]
def Qyy:LL:=[qB 1 0,qa 2 [.nl 1,.nl 3],qa 3 [.nl 1,.nl 1],qa 4 [.nl 1,.nl 1],qi 5 0]
def Qyz(F:Fn):LL:=[qL 13 10 1,qc 14 (F "bX") [.t 13],qm 6 14]
def QyA:LL:=[qm 15 6,qk .neq 16 15 0]
def QyB:LL:=[qu 17 [.nl 1,.nl 3] [],qu 18 [.nl 1,.nl 1] [],qu 19 [.nl 1,.nl 1] [],qm 20 6,qs 2 2 17,qs 2 3 18,qs 2 4 19,qm 5 20]
def QyC(F:Fn):LL:=[qf 22 2 1,qL 23 2 22,qf 24 4 1,qL 25 2 24,qc 26 (F "aC") [.t 23,.t 25],qm 21 26,qx 27 21 0,qx 28 21 1,qx 29 21 2,qx 30 21 3,qa 7 [.nl 1,.nl 3],qa 8 [.nl 1,.nl 1],qa 9 [.nl 1,.nl 1],
 qs 2 7 27,qs 2 8 28,qs 2 9 29,qm 10 30]
def QyD:LL:=[qm 31 10,qk .neq 32 31 0]
def QyE:LL:=[qu 33 [.nl 1,.nl 3] [],qu 34 [.nl 1,.nl 1] [],qu 35 [.nl 1,.nl 1] [],qm 36 10,qs 2 2 33,qs 2 3 34,qs 2 4 35,qm 5 36]
def QyF(F:Fn):LL:=[qL 38 2 7,qf 39 6 1,qL 40 2 39,qL 41 2 8,qc 42 (F "n") [.t 40,.t 41],qf 43 8 1,qL 44 2 43,qL 45 2 9,qc 46 (F "n") [.t 44,.t 45],qc 47 (F "ca") [.t 38,.t 42,.t 46],qm 37 47,qx 48 37 0,
 qx 49 37 1,qa 11 [.nl 1,.nl 3],qa 12 [.nl 1,.nl 1],qs 2 11 48,qs 2 12 49]
def QyG(F:Fn):LL:=[qL 50 2 11,qL 51 2 8,qL 52 2 12,qc 53 (F "n") [.t 51,.t 52],qL 54 2 9,qL 55 2 12,qc 56 (F "n") [.t 54,.t 55],qs 2 2 50,qs 2 3 53,qs 2 4 56,qi 5 0]
def Qi9(F:Fn):LC:=QQ [.reg Qyy [1,2,3,4],QQ [.reg (Qyz F) [1,2,3,4,6],.reg QyA [1,2,3,4,6,16],.cond (.t 16) (QQ [.reg QyB [2,3,4,5],.ret]) .skip],.reg (QyC F) [1,2,3,4,7,8,9,10],QQ [.reg QyD [1,2,3,4,7,8,9,10,32],.cond (.t 32) (QQ [.reg QyE [2,3,4,5],.ret]) .skip],.dreg [(0,none,[],true),(4,none,[0],true),(6,(some 32),[4],false),(7,(some 0),[4],false),(8,none,[0],false)] (QyF F) [2,3,4,8,9,11,12],.dreg [(0,none,[],true),(3,none,[0],true),(4,(some 0),[3],false),(5,(some 0),[3],false),(6,none,[0],false)] (QyG F) [2,3,4,5],.ret]
def spD(s:Sp):D:=.agg [.lst 1 (QR s.a.n),.lst 3 (eds s.a.e),.lst 1 (QR s.b.n),.lst 3 (eds s.b.e),.lst 1 (QR s.c.n),.lst 3 (eds s.c.e),.lst 1 (QR s.f.n),.lst 1 (QR s.f.e),.lst 1 (QR s.g.n),.lst 1 (QR s.g.e)]
def poD(r:G×Mo×Mo×Int):D:=.tup [gA r.1,mA r.2.1,mA r.2.2.1,.int .i64 r.2.2.2]
def Sp.sm(s:Sp):Prop:=s.f.sm∧s.g.sm
attribute [go_sem] Qyb Qyc Qyd Qye Qyf Qi5 Qyg Qyh Qyi Qyj Qyk Qyl Qym Qyn Qi6 Qyo Qyp Qyq Qyr Qys Qi7 Qyt Qyu Qyv Qyw Qyx Qi8 Qyy Qyz QyA QyB QyC QyD QyE QyF QyG Qi9
section
variable (P:Program) (F:String→Nat)
def Qja:Prop:=∀s:Sp,FC P (F "bo") [spD s] (.int .i64 (spE s)) []
def Qjb:Prop:=∀s:Sp,FC P (F "bX") [spD s] (.int .i64 (spE s)) []
def Qjc:Prop:=∀s:Sp,spE s=0→FC P (F "bh") [spD s] (poD (poR s)) []
def Qjd:Prop:=∀s:Sp,FC P (F "bL") [spD s] (poD (poR s)) []
def Qje:Prop:=∀s:Sp,FC P (F "bx") [spD s] (poD (poR s)) []
end
section
variable {P:Program} {F:String→Nat} {α:Type}
theorem QW5(hv:QaA P F)(s:Sp):W P (Qi5 F) (Done [.t 2] [] (.int .i64 (spE s)) []) (init [spD s]):=by
 refine QZ ?_
 have r1:=hv s.a s.b s.f
 have r2:=hv s.a s.c s.g
 have:spE s=if XE s.a s.b s.f≠0 then XE s.a s.b s.f else XE s.a s.c s.g:=rfl
 rw[this]
 generalize XE s.a s.b s.f=u at*
 generalize XE s.a s.c s.g=v at*
 simp only[gD,mD] at r1 r2
 simp(disch:=omega)only[go_sem,spD]
 refine QT r1 ?_
 simp(disch:=omega)only[go_sem]
 refine XX (fun c=>?_) (fun c=>?_)
 ·simp(disch:=omega)only[go_sem]
  try simp [c]
 ·subst c
  simp(disch:=omega)only[go_sem]
  refine QT r2 ?_
  simp(disch:=omega)only[go_sem]
  try simp
theorem QW6(hv:QbF P F)(s:Sp):W P (Qi8 F) (Done [.t 2] [] (.int .i64 (spE s)) []) (init [spD s]):=by
 refine QZ ?_
 have r1:=hv s.a s.b s.f
 have r2:=hv s.a s.c s.g
 have:spE s=if XE s.a s.b s.f≠0 then XE s.a s.b s.f else XE s.a s.c s.g:=rfl
 rw[this]
 generalize XE s.a s.b s.f=u at*
 generalize XE s.a s.c s.g=v at*
 simp only[gD,mD] at r1 r2
 simp(disch:=omega)only[go_sem,spD]
 refine QT r1 ?_
 simp(disch:=omega)only[go_sem]
 refine XX (fun c=>?_) (fun c=>?_)
 ·simp(disch:=omega)only[go_sem]
  try simp [c]
 ·subst c
  simp(disch:=omega)only[go_sem]
  refine QT r2 ?_
  simp(disch:=omega)only[go_sem]
  try simp
theorem Qjf{b c:G}(vb:QX b=0)(vc:QX c=0):Y3 b c=if Big b c then (g0,m0,m0,3) else (unG b c,idM b,inR b c,0):=by
 unfold Y3
 rw[if_neg (by simp [vb]),if_neg (by simp [vc])]
 by_cases hb:Big b c
 ·rw[if_pos hb]
  unfold Big at hb
  rw[if_pos hb];rfl
 ·rw[if_neg hb]
  unfold Big at hb
  rw[if_neg hb];rfl
theorem QyH{s:Sp}(h:SOk s):poR s=(poG s,poP s,poK s,0):=by unfold poR;rw[if_pos (poErr_ok.2 h)]
theorem QyI{s:Sp}(h:spE s=0)(hb:Big s.b s.c):poR s=(g0,m0,m0,3):=by
 have:Yt s=3:=by unfold Yt;rw[if_neg (by simp [h]),if_pos hb]
 unfold poR
 rw[this];rfl
set_option maxHeartbeats 1000000 in
theorem QW7(hu:Qik P F)(hp:QiY P F)(hq:QiX P F)(ht:Qi0 P F)(s:Sp)(he:spE s=0):W P (Qi6 F) (Done [.c 2 true 2,.c 3 true 2,.c 4 true 2,.t 5] [] (poD (poR s)) []) (init [spD s]):=by
 refine QZ ?_
 obtain⟨hf,hg⟩:=spE_ok.1 he
 have r1:=hu s.b s.c
 rw[Qjf hf.vb hg.vb] at r1
 by_cases hb:Big s.b s.c
 ·rw[if_pos hb] at r1
  rw[QyI he hb]
  simp only[YT,gD,gA,mA,g0,m0] at r1
  simp(disch:=omega)only[go_sem,spD]
  refine QT r1 ?_
  simp(disch:=omega)only[go_sem]
  refine XX (fun _=>?_) (fun h=>absurd h (by decide))
  simp(disch:=omega)only[go_sem]
  simp [poD,g0,m0,gA,mA,QR,eds]
 ·rw[if_neg hb] at r1
  have hs:SOk s:=⟨hf,hg,hb⟩
  rw[QyH hs]
  have vu:=Qeh hf.vb hg.vb hb
  have il:=Qa5 hf.vb hg.vb hb
  have ir:=Qa6 hf.vb hg.vb hb
  have va:=Q8 hf.va
  have vb:=Q8 hf.vb
  have vc:=Q8 hg.vb
  have ln:=hf.ln
  have le:=hf.le
  have mn:=hg.ln
  have me:=hg.le
  have bf:=Z6 (mok.2 hf)
  have bg:=Z6 (mok.2 hg)
  have bi:=Z6 (mok.2 il)
  have br:=Z6 (mok.2 ir)
  have iln:=il.ln
  have ile:=il.le
  have irn:=ir.ln
  have ire:=ir.le
  have p1:=hp s.f.n s.g.n (idM s.b).n (inR s.b s.c).n (by omega) (by omega) (by rw[iln];exact bf.1) (by rw[irn];exact bg.1)
  have p2:=hp s.f.e s.g.e (idM s.b).e (inR s.b s.c).e (by omega) (by omega) (by rw[ile];exact bf.2) (by rw[ire];exact bg.2)
  have q:=hq (unG s.b s.c) (prL (poF s).n (poH s).n (poF s).n.length) (prL (poF s).e (poH s).e (poF s).e.length) vu
   (by rw[ZY];simp only[poF,QY,Xp];omega) (by rw[ZY];simp only[poF,QY,Xp];omega) (QbP hs.uF hs.uH) (QbQ hs.uF hs.uH)
  rw[show Yl (unG s.b s.c) (X6 (unG s.b s.c).n.length (prL (poF s).n (poH s).n (poF s).n.length)) (X6 (unG s.b s.c).e.length (prL (poF s).e (poH s).e (poF s).e.length))=poG s from rfl,
   show XU (X6 (unG s.b s.c).n.length (prL (poF s).n (poH s).n (poF s).n.length)) (X6 (unG s.b s.c).e.length (prL (poF s).e (poH s).e (poF s).e.length))=poQ s from rfl] at q
  rw[show prL (thr s.f.n (idM s.b).n) (thr s.g.n (inR s.b s.c).n) (thr s.f.n (idM s.b).n).length=prL (poF s).n (poH s).n (poF s).n.length from rfl] at p1
  rw[show prL (thr s.f.e (idM s.b).e) (thr s.g.e (inR s.b s.c).e) (thr s.f.e (idM s.b).e).length=prL (poF s).e (poH s).e (poF s).e.length from rfl] at p2
  have qn:=hs.q.ln
  have qe:=hs.q.le
  have t1:=ht (idM s.b) (poQ s) (by omega) (by omega) (by rw[qn];exact bi.1) (by rw[qe];exact bi.2)
  have t2:=ht (inR s.b s.c) (poQ s) (by omega) (by omega) (by rw[qn];exact br.1) (by rw[qe];exact br.2)
  rw[show QY (idM s.b) (poQ s)=poP s from rfl] at t1
  rw[show QY (inR s.b s.c) (poQ s)=poK s from rfl] at t2
  generalize prL (poF s).n (poH s).n (poF s).n.length=l1 at*
  generalize prL (poF s).e (poH s).e (poF s).e.length=l2 at*
  clear bf bg bi br il ir hs vu va vb vc hf hg he hb iln ile irn ire qn qe
  generalize poG s=d at*
  generalize poQ s=qq at*
  generalize poP s=pp at*
  generalize poK s=kk at*
  generalize unG s.b s.c=uu at*
  generalize idM s.b=ii at*
  generalize inR s.b s.c=jj at*
  obtain⟨dn,de⟩:=d
  obtain⟨un,ue⟩:=uu
  obtain⟨qn,qe⟩:=qq
  obtain⟨pn,pe⟩:=pp
  obtain⟨kn,ke⟩:=kk
  obtain⟨i1,i2⟩:=ii
  obtain⟨j1,j2⟩:=jj
  simp only[YT,gD,gA,mD,mA,spD,poD] at*
  simp(disch:=omega)only[go_sem]
  refine QT r1 ?_
  simp(disch:=omega)only[go_sem]
  refine QT p1 ?_
  simp(disch:=omega)only[go_sem]
  refine QT p2 ?_
  simp(disch:=omega)only[go_sem]
  refine QT q ?_
  simp(disch:=omega)only[go_sem]
  refine QT t1 ?_
  simp(disch:=omega)only[go_sem]
  refine QT t2 ?_
  simp(disch:=omega)only[go_sem]
  try rfl
theorem QW8(hp:Qja P F)(hg:Qjc P F)(s:Sp):W P (Qi7 F) (Done [.c 2 true 2,.c 3 true 2,.c 4 true 2,.t 5] [] (poD (poR s)) []) (init [spD s]):=by
 refine QZ ?_
 have r1:=hp s
 by_cases c:spE s=0
 ·have r2:=hg s c
  rw[c] at r1
  generalize poR s=r at*
  obtain⟨⟨dn,de⟩,⟨pn,pe⟩,⟨kn,ke⟩,er⟩:=r
  simp only[spD,poD,gA,mA] at*
  simp(disch:=omega)only[go_sem]
  refine QT r1 ?_
  simp(disch:=omega)only[go_sem]
  refine QT r2 ?_
  simp(disch:=omega)only[go_sem]
  try rfl
 ·have:poR s=(g0,m0,m0,spE s):=by
   have:Yt s=spE s:=by unfold Yt;rw[if_pos c]
   unfold poR;rw[this,if_neg c]
  rw[this]
  generalize spE s=e at*
  simp only[spD] at*
  simp(disch:=omega)only[go_sem]
  refine QT r1 ?_
  simp(disch:=omega)only[go_sem,c]
  simp [poD,g0,m0,gA,mA,QR,eds]
set_option maxHeartbeats 1000000 in
theorem QW9(hp:Qjb P F)(hu:Qee P F)(ht:QdT P F)(hg:Qi3 P F)(s:Sp):W P (Qi9 F) (Done [.c 2 true 2,.c 3 true 2,.c 4 true 2,.t 5] [] (poD (poR s)) []) (init [spD s]):=by
 refine QZ ?_
 have r0:=hp s
 by_cases he:spE s=0
 ·obtain⟨hf,hgg⟩:=spE_ok.1 he
  rw[he] at r0
  have r1:=hu s.b s.c
  rw[Qjf hf.vb hgg.vb] at r1
  by_cases hb:Big s.b s.c
  ·rw[if_pos hb] at r1
   rw[QyI he hb]
   simp only[YT,gD,gA,mA,g0,m0,spD] at*
   simp(disch:=omega)only[go_sem]
   refine QT r0 ?_
   simp(disch:=omega)only[go_sem]
   refine QT r1 ?_
   simp(disch:=omega)only[go_sem]
   refine XX (fun _=>?_) (fun h=>absurd h (by decide))
   simp(disch:=omega)only[go_sem]
   simp [poD,g0,m0,gA,mA,QR,eds]
  ·rw[if_neg hb] at r1
   have hs:SOk s:=⟨hf,hgg,hb⟩
   rw[QyH hs]
   have il:=Qa5 hf.vb hgg.vb hb
   have ir:=Qa6 hf.vb hgg.vb hb
   have va:=Q8 hf.va
   have vb:=Q8 hf.vb
   have vc:=Q8 hgg.vb
   have ln:=hf.ln
   have le:=hf.le
   have mn:=hgg.ln
   have me:=hgg.le
   have bf:=Z6 (mok.2 hf)
   have bg:=Z6 (mok.2 hgg)
   have bi:=Z6 (mok.2 il)
   have br:=Z6 (mok.2 ir)
   have iln:=il.ln
   have ile:=il.le
   have irn:=ir.ln
   have ire:=ir.le
   have t1:=ht s.f (idM s.b) (by omega) (by omega) (by rw[iln];exact bf.1) (by rw[ile];exact bf.2)
   have t2:=ht s.g (inR s.b s.c) (by omega) (by omega) (by rw[irn];exact bg.1) (by rw[ire];exact bg.2)
   have q:=hg s.a (unG s.b s.c) (poF s) (poH s) hs.uF hs.uH
   rw[show Js (unG s.b s.c) (poF s) (poH s)=poG s from rfl,show ZX (unG s.b s.c) (poF s) (poH s)=poQ s from rfl] at q
   have qn:=hs.q.ln
   have qe:=hs.q.le
   have t3:=ht (idM s.b) (poQ s) (by omega) (by omega) (by rw[qn];exact bi.1) (by rw[qe];exact bi.2)
   have t4:=ht (inR s.b s.c) (poQ s) (by omega) (by omega) (by rw[qn];exact br.1) (by rw[qe];exact br.2)
   rw[show QY (idM s.b) (poQ s)=poP s from rfl] at t3
   rw[show QY (inR s.b s.c) (poQ s)=poK s from rfl] at t4
   rw[show QY s.f (idM s.b)=poF s from rfl] at t1
   rw[show QY s.g (inR s.b s.c)=poH s from rfl] at t2
   clear bf bg bi br il ir hs va vb vc hf hgg he hb iln ile irn ire qn qe
   generalize poG s=d at*
   generalize poQ s=qq at*
   generalize poP s=pp at*
   generalize poK s=kk at*
   generalize poF s=ff at*
   generalize poH s=hh at*
   generalize unG s.b s.c=uu at*
   generalize idM s.b=ii at*
   generalize inR s.b s.c=jj at*
   obtain⟨dn,de⟩:=d
   obtain⟨un,ue⟩:=uu
   obtain⟨qn,qe⟩:=qq
   obtain⟨pn,pe⟩:=pp
   obtain⟨kn,ke⟩:=kk
   obtain⟨i1,i2⟩:=ii
   obtain⟨j1,j2⟩:=jj
   obtain⟨f1,f2⟩:=ff
   obtain⟨h1,h2⟩:=hh
   simp only[YT,gD,gA,mD,mA,spD,poD] at*
   simp(disch:=omega)only[go_sem]
   refine QT r0 ?_
   simp(disch:=omega)only[go_sem]
   refine QT r1 ?_
   simp(disch:=omega)only[go_sem]
   refine QT t1 ?_
   simp(disch:=omega)only[go_sem]
   refine QT t2 ?_
   simp(disch:=omega)only[go_sem]
   refine QT q ?_
   simp(disch:=omega)only[go_sem]
   refine QT t3 ?_
   simp(disch:=omega)only[go_sem]
   refine QT t4 ?_
   simp(disch:=omega)only[go_sem]
   try rfl
 ·have:poR s=(g0,m0,m0,spE s):=by
   have:Yt s=spE s:=by unfold Yt;rw[if_pos he]
   unfold poR;rw[this,if_neg he]
  rw[this]
  generalize spE s=e at*
  simp only[spD] at*
  simp(disch:=omega)only[go_sem]
  refine QT r0 ?_
  simp(disch:=omega)only[go_sem,he]
  simp [poD,g0,m0,gA,mA,QR,eds]
end
section
variable {α:Type}
theorem QyJ(p:α→Bool):∀(l:List α)(i:Int),0≤i→idx p l i= -1→∀x∈l,p x=false
 |[],_,_,_,x,hx=>by simp at hx
 |a::l,i,h0,h,x,hx=>by
  simp only[idx] at h
  split at h
  ·omega
  ·rename_i ha
   rcases Qh.1 hx with rfl|hx
   ·simpa using ha
   ·exact QyJ p l (i+1) (by omega) h x hx
theorem Qep[Inhabited α](p:α→Bool):∀(l:List α)(i:Int),idx p l i≠ -1→∃k:Nat,idx p l i=i+k∧k<l.length∧p (gt l k)=true∧∀x∈l.take k,p x=false
 |[],_,h=>absurd rfl h
 |a::l,i,h=>by
  simp only[idx] at h ⊢
  split
  ·rename_i ha
   exact⟨0,by simp,by simp,by simpa [gt] using ha,by simp⟩
  ·rename_i ha
   rw[if_neg ha] at h
   obtain⟨k,h1,h2,h3,h4⟩:=Qep p l (i+1) h
   refine⟨k+1,by rw[h1];push_cast;omega,by simpa using h2,?_,?_⟩
   ·rw[Xc (by simpa using h2)]
    rw[Xc h2] at h3
    simpa using h3
   ·rw[List.take_succ_cons]
    intro x hx
    rcases Qh.1 hx with rfl|hx
    ·simpa using ha
    ·exact h4 x hx
end
structure Cs where
 b:G
 c:G
 d:G
 f:Mo
 g:Mo
 deriving DecidableEq,Inhabited
section
variable (P:Program) (F:String→Nat)
end
section
variable {P:Program} {F:String→Nat} {α:Type}
end
def Cs.sm(s:Cs):Prop:=s.f.sm∧s.g.sm
section
variable (P:Program) (F:String→Nat)
end
section
variable {P:Program} {F:String→Nat} {α:Type}
end
def bls(l:List Bool):List D:=l.map .bool
theorem QXa(l:List Bool):(bls l).length=l.length:=by simp [bls]
theorem QyK{l:List Bool}{j:Int}(h0:0≤j)(h:j<l.length):(bls l)[j.toNat]?=some (.bool (gt l j)):=by
 unfold bls
 rw[List.getElem?_map,Qcm h0 h];rfl
theorem QXb{l:List Bool}{i:Nat}(h:i<l.length):(bls l)[i]?=some (.bool (gt l i)):=by
 have:=QyK (l:=l) (j:=i) (by omega) (by omega)
 simpa using this
theorem QXc{l:List Bool}{i:Nat}{b:Bool}:(bls l).set i (.bool b)=bls (l.set i b):=by simp [bls,List.map_set]
theorem QXd{n:Nat}{b:Bool}:List.replicate n (.bool b)=bls (List.replicate n b):=by simp [bls]
theorem QXe(l m:List Bool):bls l++bls m=bls (l++m):=by simp [bls]
theorem QXf(l:List Bool):(bls l).all D.flatE=true:=by simp [bls,D.flatE,D.flat0]
attribute [go_sem] QXa QyK QXc QXd QXe QXf
attribute [go_sem low] QXb
structure AscL(l:List Int)(n:Nat):Prop where
 p:l.Pairwise (·<·)
 b:∀x∈l,0≤x∧x<n
def Jc(g:G)(p:Mo):Bool:=p.e.any fun x=>!(decide ((gt g.e x).f∈p.n)&&decide ((gt g.e x).o∈p.n))
def Jx(g:G)(p:Mo):Int:=if XQ g.n.length none p.n≠0 then XQ g.n.length none p.n else if XQ g.e.length none p.e≠0 then XQ g.e.length none p.e else if Jc g p=true then 14 else 0
def Yf(g:G)(p:Mo):Int:=if QX g≠0 then QX g else Jx g p
structure PK(g:G)(p:Mo):Prop where
 v:QX g=0
 n:AscL p.n g.n.length
 e:AscL p.e g.e.length
 d:∀x∈p.e,(gt g.e x).f∈p.n∧(gt g.e x).o∈p.n
def YE(g:G)(es:List Int):List Int:=es.flatMap fun x=>[(gt g.e x).f,(gt g.e x).o]
def QcI(g:G)(ns es:List Int):Mo:=⟨sel (fun k:Nat=>decide ((k:Int)∈ns)||decide ((k:Int)∈YE g es)) g.n.length,sel (fun k:Nat=>decide ((k:Int)∈es)) g.e.length⟩
section
theorem QcJ{α:Type}[Inhabited α]{l:List α}{k i:Nat}{v:α}(hi:i<l.length):gt (l.set k v) i=if k=i then v else gt l i:=by
 rw[Xc (by simpa using hi),Xc hi,List.getElem_set]
theorem sel_mem{p:Nat→Bool}{n:Nat}{x:Int}:x∈sel p n↔∃k:Nat,k<n∧p k=true∧x=k:=by
 unfold sel
 simp only[Qu,List.mem_filter,List.mem_range]
 exact⟨fun⟨k,⟨h1,h2⟩,h3⟩=>⟨k,h1,h2,h3.symm⟩,fun⟨k,h1,h2,h3⟩=>⟨k,⟨h1,h2⟩,h3.symm⟩⟩
theorem sel_memN{p:Nat→Bool}{n k:Nat}:(k:Int)∈sel p n↔k<n∧p k=true:=by
 rw[sel_mem]
 constructor
 ·rintro⟨j,h1,h2,h3⟩
  obtain rfl:k=j:=by omega
  exact⟨h1,h2⟩
 ·rintro⟨h1,h2⟩
  exact⟨k,h1,h2,rfl⟩
theorem QaD(p:Nat→Bool)(n:Nat):(sel p n).Pairwise (·<·):=by
 unfold sel
 rw[List.pairwise_map]
 exact (List.pairwise_lt_range.sublist List.filter_sublist).imp fun h=>by omega
theorem Qeq(p:Nat→Bool)(n:Nat):AscL (sel p n) n:=⟨QaD p n,fun x hx=>by obtain⟨k,h1,_,rfl⟩:=sel_mem.1 hx;omega⟩
theorem Qer:∀{a b:List Int},a.Pairwise (·<·)→b.Pairwise (·<·)→(∀x,x∈a↔x∈b)→a=b
 |[],[],_,_,_=>rfl
 |[],y::b,_,_,h=>absurd ((h y).2 (by simp)) (by simp)
 |x::a,[],_,_,h=>absurd ((h x).1 (by simp)) (by simp)
 |x::a,y::b,ha,hb,h=>by
  rw[List.pairwise_cons] at ha hb
  have e:x=y:=by
   have h1:=(h x).1 (by simp)
   have h2:=(h y).2 (by simp)
   simp only[Qh] at h1 h2
   rcases h1 with h1|h1
   ·exact h1
   rcases h2 with h2|h2
   ·exact h2.symm
   have:=hb.1 x h1
   have:=ha.1 y h2
   omega
  subst e
  rw[Qer ha.2 hb.2 fun z=>?_]
  have hz:=h z
  simp only[Qh] at hz
  constructor
  ·intro m
   rcases hz.1 (.inr m) with r|r
   ·have:=ha.1 z m;omega
   ·exact r
  ·intro m
   rcases hz.2 (.inr m) with r|r
   ·have:=hb.1 z m;omega
   ·exact r
theorem Qjg:∀{b a:List Int},a.Pairwise (·<·)→b.Pairwise (·<·)→(∀x∈a,x∈b)→a.length≤b.length∧(a.length=b.length→a=b)
 |[],a,_,_,h=>by
  cases a with
  |nil=>simp
  |cons x a=>exact absurd (h x (by simp)) (by simp)
 |y::b,[],_,_,_=>by simp
 |y::b,x::a,ha,hb,h=>by
  have ha':=ha
  rw[List.pairwise_cons] at ha hb
  by_cases e:x=y
  ·subst e
   have ih:=Qjg (b:=b) (a:=a) ha.2 hb.2 fun z hz=>by
    have:=h z (by simp [hz])
    simp only[Qh] at this
    rcases this with r|r
    ·have:=ha.1 z hz;omega
    ·exact r
   simp only[List.length_cons]
   exact⟨by omega,fun q=>by rw[ih.2 (by omega)]⟩
  ·have hx:x∈b:=by
    have:=h x (by simp)
    simp only[Qh] at this
    rcases this with r|r
    ·exact absurd r e
    ·exact r
   have hyx:=hb.1 x hx
   have ih:=Qjg (b:=b) (a:=x::a) ha' hb.2 fun z hz=>by
    have:=h z hz
    simp only[Qh] at this hz
    rcases this with r|r
    ·rcases hz with s|s
     ·omega
     ·have:=ha.1 z s;omega
    ·exact r
   simp only[List.length_cons] at ih ⊢
   exact⟨by omega,fun q=>by omega⟩
theorem ascG_iff{n:Nat}:∀{l:List Int},XQ n none l=0↔AscL l n:=fun {l}=>by
 constructor
 ·intro h
  obtain⟨h1,_,h3⟩:=QqK n l none h
  exact⟨h3,fun x hx=>by have:=h1 x hx;omega⟩
 ·rintro⟨h1,h2⟩
  have gen:∀(l:List Int)(q:Option Int),l.Pairwise (·<·)→(∀x∈l,0≤x∧x<n)→(∀z,q=some z→∀x∈l,z<x)→XQ n q l=0:=by
   intro l
   induction l with
   |nil=>intro q _ _ _;rfl
   |cons x l ih=>
    intro q hp hb hq
    rw[List.pairwise_cons] at hp
    have hx:=hb x (by simp)
    have hle:leO x q=false:=by
     cases q with
     |none=>rfl
     |some z=>
      have:=hq z rfl x (by simp)
      simp only[leO,QE]
      omega
    have:=ih (some x) hp.2 (fun y hy=>hb y (by simp [hy])) (fun z hz y hy=>by cases hz;exact hp.1 y hy)
    simp only[XQ]
    rw[if_pos (by omega),hle]
    simpa using this
  exact gen l none h1 h2 (fun z hz=>by cases hz)
theorem validP_ok{g:G}{p:Mo}:Yf g p=0↔PK g p:=by
 unfold Yf
 split
 ·rename_i h;exact⟨fun e=>absurd e h,fun e=>absurd e.v h⟩
 rename_i h1
 unfold Jx
 split
 ·rename_i h;exact⟨fun e=>absurd e h,fun e=>absurd (ascG_iff.2 e.n) h⟩
 rename_i h2
 split
 ·rename_i h;exact⟨fun e=>absurd e h,fun e=>absurd (ascG_iff.2 e.e) h⟩
 rename_i h3
 split
 ·rename_i h
  refine⟨fun e=>absurd e (by decide),fun e=>?_⟩
  unfold Jc at h
  rw[List.any_eq_true] at h
  obtain⟨x,hx,hd⟩:=h
  have:=e.d x hx
  simp [this] at hd
 ·rename_i h
  refine⟨fun _=>⟨Qo.1 h1,ascG_iff.1 (Qo.1 h2),ascG_iff.1 (Qo.1 h3),fun x hx=>?_⟩,fun _=>rfl⟩
  unfold Jc at h
  rw[Bool.not_eq_true,List.any_eq_false] at h
  have:=h x hx
  simpa using this
theorem QaE{l:List Int}{n:Nat}(h:AscL l n):l.length≤n:=by
 have:=(Qjg (b:=Xf 0 n) h.p (by
  unfold Xf
  rw[List.pairwise_map]
  exact List.pairwise_lt_range.imp fun h=>by omega) fun x hx=>nums_mem.2 (h.b x hx)).1
 rwa [Xh] at this
theorem PK.len{g:G}{p:Mo}(h:PK g p):p.n.length≤40∧p.e.length≤80:=by
 have:=Q8 h.v
 have:=QaE h.n
 have:=QaE h.e
 omega
theorem ends_mem{g:G}{es:List Int}{x:Int}:x∈YE g es↔∃e∈es,(gt g.e e).f=x∨(gt g.e e).o=x:=by
 unfold YE
 simp only[Qp,Qh,List.not_mem_nil,or_false]
 exact⟨fun⟨e,h1,h2⟩=>⟨e,h1,h2.imp Eq.symm Eq.symm⟩,fun⟨e,h1,h2⟩=>⟨e,h1,h2.imp Eq.symm Eq.symm⟩⟩
theorem QXg{g:G}{ns es:List Int}(hv:QX g=0):PK g (QcI g ns es):=by
 refine⟨hv,Qeq _ _,Qeq _ _,fun x hx=>?_⟩
 obtain⟨k,hk,hk2,rfl⟩:=sel_mem.1 hx
 simp only[Qk] at hk2
 obtain⟨_,t2,t3⟩:=Zt hv (i:=k) (by omega)
 obtain⟨a,ha,ha2⟩:=gtI t2
 obtain⟨b,hb,hb2⟩:=gtI t3
 simp only[QcI]
 rw[ha2,hb2,sel_memN,sel_memN]
 refine⟨⟨ha,?_⟩,hb,?_⟩
 ·simp only[Qx,Qk]
  exact .inr (ends_mem.2 ⟨k,hk2,.inl ha2⟩)
 ·simp only[Qx,Qk]
  exact .inr (ends_mem.2 ⟨k,hk2,.inr hb2⟩)
theorem QXh{x y:Mo}(h1:x.n=y.n)(h2:x.e=y.e):x=y:=by cases x;cases y;simp only at h1 h2;rw[h1,h2]
end
end Go.Am
