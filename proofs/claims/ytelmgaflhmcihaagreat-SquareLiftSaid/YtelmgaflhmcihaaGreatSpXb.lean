/- Squares: lifting: the walks; the law Lift. -/
import Derived.Test.YtelmgaflhmcihaaGreatSpPa
import Derived.Test.YtelmgaflhmcihaaGreatSpPb
import Derived.Test.YtelmgaflhmcihaaGreatSpPc
import Derived.Test.YtelmgaflhmcihaaGreatSpPd
import Derived.Test.YtelmgaflhmcihaaGreatSpPe
import Derived.Test.YtelmgaflhmcihaaGreatSpXa
namespace Go.Am
open Go
set_option linter.unusedVariables false
set_option linter.unusedSimpArgs false
attribute [local irreducible] W
@[go_sem] def c_square_pull_r0 : LL := [qB 5 0,qB 6 1,qB 7 2,qB 8 3,qB 9 4,qa 10 [.nl 1,.nl 3,.nl 1,.nl 3,.nl 1,.nl 3,.nl 1,.nl 1,.nl 1,.nl 1,.nl 1,.nl 3,.nl 1,.nl 1,.nl 1,.nl 1],qi 11 0]
@[go_sem] def c_square_pull_r1 : LL := [qL 17 2 5,qL 18 2 7,qL 19 2 6,qL 20 2 8,qL 21 2 9,
 qu 22 [.nl 1,.nl 3,.nl 1,.nl 3,.nl 1,.nl 3,.nl 1,.nl 1,.nl 1,.nl 1] [(0,2,.t 17),(2,2,.t 18),(4,2,.t 19),(6,2,.t 20),(8,2,.t 21)],
 qa 12 [.nl 1,.nl 3,.nl 1,.nl 3,.nl 1,.nl 3,.nl 1,.nl 1,.nl 1,.nl 1],qs 10 12 22]
@[go_sem] def c_square_pull_r2 (F : Fn) : LL := [qL 24 10 12,qc 25 (F "pullback.Of") [.t 24],qm 23 25,qx 26 23 0,qx 27 23 1,qx 28 23 2,qx 29 23 3,qa 13 [.nl 1,.nl 3],qa 14 [.nl 1,.nl 1],qa 15 [.nl 1,.nl 1],qs 2 13 26,qs 2 14 27,qs 2 15 28,
 qm 16 29]
@[go_sem] def c_square_pull_r3 : LL := [qL 30 10 12,qL 31 2 13,qL 32 2 14,qL 33 2 15,
 qu 34 [.nl 1,.nl 3,.nl 1,.nl 3,.nl 1,.nl 3,.nl 1,.nl 1,.nl 1,.nl 1,.nl 1,.nl 3,.nl 1,.nl 1,.nl 1,.nl 1] [(0,10,.t 30),(10,2,.t 31),(12,2,.t 32),(14,2,.t 33)],
 qm 35 16,qs 16 10 34,qm 11 35]
@[go_sem] def c_square_pull (F : Fn) : LC := (.seq (.reg c_square_pull_r0 [5,6,7,8,9,10]) (.seq (.reg c_square_pull_r1 [10,12]) (.seq (.reg (c_square_pull_r2 F) [10,12,13,14,15,16]) (.seq (.reg c_square_pull_r3 [10,11]) .ret))))
def h_square_pull : Hints := hOf [] (c_square_pull fun _ => 0)
@[go_sem] def c_square_Lift_r0 : LL := [qB 3 0,qB 4 1,qB 5 2,qa 6 [.nl 1,.nl 3,.nl 1,.nl 3,.nl 1,.nl 3,.nl 1,.nl 3,.nl 1,.nl 1,.nl 1,.nl 1,.nl 1,.nl 1,.nl 1,.nl 1],qi 7 0]
@[go_sem] def c_square_Lift_r1 (F : Fn) : LL := [qL 16 16 3,qc 17 (F "square.valid") [.t 16],qm 8 17]
@[go_sem] def c_square_Lift_r2 : LL := [qm 18 8,qk .neq 19 18 0]
@[go_sem] def c_square_Lift_r3 : LL := [qu 20 [.nl 1,.nl 3,.nl 1,.nl 3,.nl 1,.nl 3,.nl 1,.nl 3,.nl 1,.nl 1,.nl 1,.nl 1,.nl 1,.nl 1,.nl 1,.nl 1] [],qm 21 8,qs 16 6 20,qm 7 21]
@[go_sem] def c_square_Lift_r4 (F : Fn) : LL := [qL 22 2 4,qf 23 6 3,qL 24 2 23,qL 25 2 5,qc 26 (F "morphism.Valid") [.t 22,.t 24,.t 25],qm 9 26]
@[go_sem] def c_square_Lift_r5 : LL := [qm 27 9,qk .neq 28 27 0]
@[go_sem] def c_square_Lift_r6 : LL := [qu 29 [.nl 1,.nl 3,.nl 1,.nl 3,.nl 1,.nl 3,.nl 1,.nl 3,.nl 1,.nl 1,.nl 1,.nl 1,.nl 1,.nl 1,.nl 1,.nl 1] [],qm 30 9,qs 16 6 29,qm 7 30]
@[go_sem] def c_square_Lift_r7 (F : Fn) : LL := [qL 31 16 3,qc 32 (F "square.commutes") [.t 31],qv 33 32]
@[go_sem] def c_square_Lift_r8 : LL := [qu 34 [.nl 1,.nl 3,.nl 1,.nl 3,.nl 1,.nl 3,.nl 1,.nl 3,.nl 1,.nl 1,.nl 1,.nl 1,.nl 1,.nl 1,.nl 1,.nl 1] [],qs 16 6 34,qi 7 11]
@[go_sem] def c_square_Lift_r9 (F : Fn) : LL := [qf 36 2 3,qL 37 2 36,qf 38 6 3,qL 39 2 38,qL 40 2 4,qf 41 12 3,qL 42 2 41,qL 43 2 5,qc 44 (F "square.pull") [.t 37,.t 39,.t 40,.t 42,.t 43],qm 35 44,qx 45 35 0,qx 46 35 1,
 qa 10 [.nl 1,.nl 3,.nl 1,.nl 3,.nl 1,.nl 3,.nl 1,.nl 1,.nl 1,.nl 1,.nl 1,.nl 3,.nl 1,.nl 1,.nl 1,.nl 1],qs 16 10 45,qm 11 46]
@[go_sem] def c_square_Lift_r10 : LL := [qm 47 11,qk .neq 48 47 0]
@[go_sem] def c_square_Lift_r11 : LL := [qu 49 [.nl 1,.nl 3,.nl 1,.nl 3,.nl 1,.nl 3,.nl 1,.nl 3,.nl 1,.nl 1,.nl 1,.nl 1,.nl 1,.nl 1,.nl 1,.nl 1] [],qm 50 11,qs 16 6 49,qm 7 50]
@[go_sem] def c_square_Lift_r12 (F : Fn) : LL := [qf 52 4 3,qL 53 2 52,qf 54 6 3,qL 55 2 54,qL 56 2 4,qf 57 14 3,qL 58 2 57,qL 59 2 5,qc 60 (F "square.pull") [.t 53,.t 55,.t 56,.t 58,.t 59],qm 51 60,qx 61 51 0,qx 62 51 1,
 qa 12 [.nl 1,.nl 3,.nl 1,.nl 3,.nl 1,.nl 3,.nl 1,.nl 1,.nl 1,.nl 1,.nl 1,.nl 3,.nl 1,.nl 1,.nl 1,.nl 1],qs 16 12 61,qm 11 62]
@[go_sem] def c_square_Lift_r13 : LL := [qm 63 11,qk .neq 64 63 0]
@[go_sem] def c_square_Lift_r14 : LL := [qu 65 [.nl 1,.nl 3,.nl 1,.nl 3,.nl 1,.nl 3,.nl 1,.nl 3,.nl 1,.nl 1,.nl 1,.nl 1,.nl 1,.nl 1,.nl 1,.nl 1] [],qm 66 11,qs 16 6 65,qm 7 66]
@[go_sem] def c_square_Lift_r15 (F : Fn) : LL := [qf 68 0 3,qL 69 2 68,qf 70 6 3,qL 71 2 70,qL 72 2 4,qf 73 8 3,qL 74 2 73,qf 75 12 3,qL 76 2 75,qc 77 (F "square.then") [.t 74,.t 76],qL 78 2 5,qc 79 (F "square.pull") [.t 69,.t 71,.t 72,.t 77,.t 78],
 qm 67 79,qx 80 67 0,qx 81 67 1,qa 13 [.nl 1,.nl 3,.nl 1,.nl 3,.nl 1,.nl 3,.nl 1,.nl 1,.nl 1,.nl 1,.nl 1,.nl 3,.nl 1,.nl 1,.nl 1,.nl 1],qs 16 13 80,qm 11 81]
@[go_sem] def c_square_Lift_r16 : LL := [qm 82 11,qk .neq 83 82 0]
@[go_sem] def c_square_Lift_r17 : LL := [qu 84 [.nl 1,.nl 3,.nl 1,.nl 3,.nl 1,.nl 3,.nl 1,.nl 3,.nl 1,.nl 1,.nl 1,.nl 1,.nl 1,.nl 1,.nl 1,.nl 1] [],qm 85 11,qs 16 6 84,qm 7 85]
@[go_sem] def c_square_Lift_r18 (F : Fn) : LL := [qf 87 0 10,qL 88 10 87,qf 89 10 13,qL 90 2 89,qf 91 12 13,qL 92 2 91,qf 93 8 3,qL 94 2 93,qc 95 (F "square.then") [.t 92,.t 94],qf 96 14 13,qL 97 2 96,qc 98 (F "pullback.Mediate") [.t 88,.t 90,.t 95,.t 97],
 qm 86 98,qx 99 86 0,qx 100 86 1,qa 14 [.nl 1,.nl 1],qs 2 14 99,qm 11 100]
@[go_sem] def c_square_Lift_r19 : LL := [qm 101 11,qk .neq 102 101 0]
@[go_sem] def c_square_Lift_r20 : LL := [qu 103 [.nl 1,.nl 3,.nl 1,.nl 3,.nl 1,.nl 3,.nl 1,.nl 3,.nl 1,.nl 1,.nl 1,.nl 1,.nl 1,.nl 1,.nl 1,.nl 1] [],qm 104 11,qs 16 6 103,qm 7 104]
@[go_sem] def c_square_Lift_r21 (F : Fn) : LL := [qf 106 0 12,qL 107 10 106,qf 108 10 13,qL 109 2 108,qf 110 12 13,qL 111 2 110,qf 112 10 3,qL 113 2 112,qc 114 (F "square.then") [.t 111,.t 113],qf 115 14 13,qL 116 2 115,
 qc 117 (F "pullback.Mediate") [.t 107,.t 109,.t 114,.t 116],qm 105 117,qx 118 105 0,qx 119 105 1,qa 15 [.nl 1,.nl 1],qs 2 15 118,qm 11 119]
@[go_sem] def c_square_Lift_r22 : LL := [qm 120 11,qk .neq 121 120 0]
@[go_sem] def c_square_Lift_r23 : LL := [qu 122 [.nl 1,.nl 3,.nl 1,.nl 3,.nl 1,.nl 3,.nl 1,.nl 3,.nl 1,.nl 1,.nl 1,.nl 1,.nl 1,.nl 1,.nl 1,.nl 1] [],qm 123 11,qs 16 6 122,qm 7 123]
@[go_sem] def c_square_Lift_r24 (F : Fn) : LL := [qf 124 10 13,qL 125 2 124,qf 126 10 10,qL 127 2 126,qf 128 10 12,qL 129 2 128,qL 130 2 4,qc 131 (F "square.copied") [.t 130],qL 132 2 14,qL 133 2 15,qf 134 14 10,qL 135 2 134,qf 136 14 12,
 qL 137 2 136,
 qu 138 [.nl 1,.nl 3,.nl 1,.nl 3,.nl 1,.nl 3,.nl 1,.nl 3,.nl 1,.nl 1,.nl 1,.nl 1,.nl 1,.nl 1,.nl 1,.nl 1] [(0,2,.t 125),(2,2,.t 127),(4,2,.t 129),(6,2,.t 131),(8,2,.t 132),(10,2,.t 133),(12,2,.t 135),(14,2,.t 137)],
 qs 16 6 138,qi 7 0]
@[go_sem] def c_square_Lift (F : Fn) : LC := (.seq (.reg c_square_Lift_r0 [3,4,5,6]) (.seq (.seq (.reg (c_square_Lift_r1 F) [3,4,5,6,8]) (.seq (.reg c_square_Lift_r2 [3,4,5,6,8,19]) (.cond (.t 19) (.seq (.reg c_square_Lift_r3 [6,7]) .ret) .skip))) (.seq (.seq (.reg (c_square_Lift_r4 F) [3,4,5,6,9]) (.seq (.reg c_square_Lift_r5 [3,4,5,6,9,28]) (.cond (.t 28) (.seq (.reg c_square_Lift_r6 [6,7]) .ret) .skip))) (.seq (.seq (.reg (c_square_Lift_r7 F) [3,4,5,6,33]) (.cond (.t 33) (.seq (.reg c_square_Lift_r8 [6,7]) .ret) .skip)) (.seq (.reg (c_square_Lift_r9 F) [3,4,5,6,10,11]) (.seq (.seq (.reg c_square_Lift_r10 [3,4,5,6,10,11,48]) (.cond (.t 48) (.seq (.reg c_square_Lift_r11 [6,7]) .ret) .skip)) (.seq (.reg (c_square_Lift_r12 F) [3,4,5,6,10,11,12]) (.seq (.seq (.reg c_square_Lift_r13 [3,4,5,6,10,11,12,64]) (.cond (.t 64) (.seq (.reg c_square_Lift_r14 [6,7]) .ret) .skip)) (.seq (.dreg [(1,none,[],true),(3,none,[],true),(4,none,[],true),(9,none,[1,3,4],true),(10,(some 0),[9],false)] (c_square_Lift_r15 F) [3,4,6,10,11,12,13]) (.seq (.seq (.reg c_square_Lift_r16 [3,4,6,10,11,12,13,83]) (.cond (.t 83) (.seq (.reg c_square_Lift_r17 [6,7]) .ret) .skip)) (.seq (.dreg [(1,none,[],true),(3,none,[],true),(8,none,[1,3],true),(10,(some 512),[8],false)] (c_square_Lift_r18 F) [3,4,6,10,11,12,13,14]) (.seq (.seq (.reg c_square_Lift_r19 [3,4,6,10,11,12,13,14,102]) (.cond (.t 102) (.seq (.reg c_square_Lift_r20 [6,7]) .ret) .skip)) (.seq (.dreg [(1,none,[],true),(3,none,[],true),(8,none,[1,3],true),(10,(some 512),[8],false)] (c_square_Lift_r21 F) [4,6,10,11,12,13,14,15]) (.seq (.seq (.reg c_square_Lift_r22 [4,6,10,11,12,13,14,15,121]) (.cond (.t 121) (.seq (.reg c_square_Lift_r23 [6,7]) .ret) .skip)) (.seq (.dreg [(1,none,[],true),(3,none,[],true),(5,none,[],true),(7,none,[1,3,5],true),(8,(some 0),[7],false),(9,(some 0),[7],false),(11,(some 1024),[7],false),(13,(some 4096),[7],false)] (c_square_Lift_r24 F) [6,7]) .ret)))))))))))))))
def h_square_Lift : Hints := hOf [] (c_square_Lift fun _ => 0)
@[go_sem] def c_r14_Lift_r0 : LL := [qB 3 0,qB 4 1,qB 5 2,qa 6 [.nl 1,.nl 3,.nl 1,.nl 3,.nl 1,.nl 3,.nl 1,.nl 3,.nl 1,.nl 1,.nl 1,.nl 1,.nl 1,.nl 1,.nl 1,.nl 1],qi 7 0]
@[go_sem] def c_r14_Lift_r1 (F : Fn) : LL := [qL 24 16 3,qc 25 (F "r14.Valid") [.t 24],qm 8 25]
@[go_sem] def c_r14_Lift_r2 : LL := [qm 26 8,qk .neq 27 26 0]
@[go_sem] def c_r14_Lift_r3 : LL := [qu 28 [.nl 1,.nl 3,.nl 1,.nl 3,.nl 1,.nl 3,.nl 1,.nl 3,.nl 1,.nl 1,.nl 1,.nl 1,.nl 1,.nl 1,.nl 1,.nl 1] [],qm 29 8,qs 16 6 28,qm 7 29]
@[go_sem] def c_r14_Lift_r4 (F : Fn) : LL := [qL 30 2 4,qf 31 6 3,qL 32 2 31,qL 33 2 5,qc 34 (F "r06.Valid") [.t 30,.t 32,.t 33],qm 9 34]
@[go_sem] def c_r14_Lift_r5 : LL := [qm 35 9,qk .neq 36 35 0]
@[go_sem] def c_r14_Lift_r6 : LL := [qu 37 [.nl 1,.nl 3,.nl 1,.nl 3,.nl 1,.nl 3,.nl 1,.nl 3,.nl 1,.nl 1,.nl 1,.nl 1,.nl 1,.nl 1,.nl 1,.nl 1] [],qm 38 9,qs 16 6 37,qm 7 38]
@[go_sem] def c_r14_Lift_r7 (F : Fn) : LL := [qL 39 16 3,qc 40 (F "r14.commutes") [.t 39],qv 41 40]
@[go_sem] def c_r14_Lift_r8 : LL := [qu 42 [.nl 1,.nl 3,.nl 1,.nl 3,.nl 1,.nl 3,.nl 1,.nl 3,.nl 1,.nl 1,.nl 1,.nl 1,.nl 1,.nl 1,.nl 1,.nl 1] [],qs 16 6 42,qi 7 11]
@[go_sem] def c_r14_Lift_r9 : LL := [qf 43 2 3,qL 44 2 43,qL 45 2 4,qf 46 6 3,qL 47 2 46,qf 48 12 3,qL 49 2 48,qL 50 2 5,
 qu 51 [.nl 1,.nl 3,.nl 1,.nl 3,.nl 1,.nl 3,.nl 1,.nl 1,.nl 1,.nl 1] [(0,2,.t 44),(2,2,.t 45),(4,2,.t 47),(6,2,.t 49),(8,2,.t 50)],
 qa 10 [.nl 1,.nl 3,.nl 1,.nl 3,.nl 1,.nl 3,.nl 1,.nl 1,.nl 1,.nl 1],qs 10 10 51]
@[go_sem] def c_r14_Lift_r10 (F : Fn) : LL := [qL 53 10 10,qc 54 (F "r11.Of") [.t 53],qm 52 54,qx 55 52 0,qx 56 52 1,qx 57 52 2,qx 58 52 3,qa 11 [.nl 1,.nl 3],qa 12 [.nl 1,.nl 1],qa 13 [.nl 1,.nl 1],qs 2 11 55,qs 2 12 56,qs 2 13 57,
 qm 14 58]
@[go_sem] def c_r14_Lift_r11 : LL := [qm 59 14,qk .neq 60 59 0]
@[go_sem] def c_r14_Lift_r12 : LL := [qu 61 [.nl 1,.nl 3,.nl 1,.nl 3,.nl 1,.nl 3,.nl 1,.nl 3,.nl 1,.nl 1,.nl 1,.nl 1,.nl 1,.nl 1,.nl 1,.nl 1] [],qm 62 14,qs 16 6 61,qm 7 62]
@[go_sem] def c_r14_Lift_r13 : LL := [qf 63 4 3,qL 64 2 63,qL 65 2 4,qf 66 6 3,qL 67 2 66,qf 68 14 3,qL 69 2 68,qL 70 2 5,
 qu 71 [.nl 1,.nl 3,.nl 1,.nl 3,.nl 1,.nl 3,.nl 1,.nl 1,.nl 1,.nl 1] [(0,2,.t 64),(2,2,.t 65),(4,2,.t 67),(6,2,.t 69),(8,2,.t 70)],
 qa 15 [.nl 1,.nl 3,.nl 1,.nl 3,.nl 1,.nl 3,.nl 1,.nl 1,.nl 1,.nl 1],qs 10 15 71]
@[go_sem] def c_r14_Lift_r14 (F : Fn) : LL := [qL 73 10 15,qc 74 (F "r11.Of") [.t 73],qm 72 74,qx 75 72 0,qx 76 72 1,qx 77 72 2,qx 78 72 3,qa 16 [.nl 1,.nl 3],qa 17 [.nl 1,.nl 1],qa 18 [.nl 1,.nl 1],qs 2 16 75,qs 2 17 76,qs 2 18 77,
 qm 14 78]
@[go_sem] def c_r14_Lift_r15 : LL := [qm 79 14,qk .neq 80 79 0]
@[go_sem] def c_r14_Lift_r16 : LL := [qu 81 [.nl 1,.nl 3,.nl 1,.nl 3,.nl 1,.nl 3,.nl 1,.nl 3,.nl 1,.nl 1,.nl 1,.nl 1,.nl 1,.nl 1,.nl 1,.nl 1] [],qm 82 14,qs 16 6 81,qm 7 82]
@[go_sem] def c_r14_Lift_r17 (F : Fn) : LL := [qf 84 0 3,qL 85 2 84,qL 86 2 4,qf 87 6 3,qL 88 2 87,qf 89 8 3,qL 90 2 89,qf 91 12 3,qL 92 2 91,qc 93 (F "r06.Then") [.t 90,.t 92],qL 94 2 5,
 qu 95 [.nl 1,.nl 3,.nl 1,.nl 3,.nl 1,.nl 3,.nl 1,.nl 1,.nl 1,.nl 1] [(0,2,.t 85),(2,2,.t 86),(4,2,.t 88),(6,2,.t 93),(8,2,.t 94)],qc 96 (F "r11.Of") [.t 95],qm 83 96,
 qx 97 83 0,qx 98 83 1,qx 99 83 2,qx 100 83 3,qa 19 [.nl 1,.nl 3],qa 20 [.nl 1,.nl 1],qa 21 [.nl 1,.nl 1],qs 2 19 97,qs 2 20 98,qs 2 21 99,qm 14 100]
@[go_sem] def c_r14_Lift_r18 : LL := [qm 101 14,qk .neq 102 101 0]
@[go_sem] def c_r14_Lift_r19 : LL := [qu 103 [.nl 1,.nl 3,.nl 1,.nl 3,.nl 1,.nl 3,.nl 1,.nl 3,.nl 1,.nl 1,.nl 1,.nl 1,.nl 1,.nl 1,.nl 1,.nl 1] [],qm 104 14,qs 16 6 103,qm 7 104]
@[go_sem] def c_r14_Lift_r20 (F : Fn) : LL := [qL 106 10 10,qL 107 2 19,qL 108 2 20,qf 109 8 3,qL 110 2 109,qc 111 (F "r06.Then") [.t 108,.t 110],qL 112 2 21,qc 113 (F "r11.Mediate") [.t 106,.t 107,.t 111,.t 112],qm 105 113,qx 114 105 0,
 qx 115 105 1,qa 22 [.nl 1,.nl 1],qs 2 22 114,qm 14 115]
@[go_sem] def c_r14_Lift_r21 : LL := [qm 116 14,qk .neq 117 116 0]
@[go_sem] def c_r14_Lift_r22 : LL := [qu 118 [.nl 1,.nl 3,.nl 1,.nl 3,.nl 1,.nl 3,.nl 1,.nl 3,.nl 1,.nl 1,.nl 1,.nl 1,.nl 1,.nl 1,.nl 1,.nl 1] [],qm 119 14,qs 16 6 118,qm 7 119]
@[go_sem] def c_r14_Lift_r23 (F : Fn) : LL := [qL 121 10 15,qL 122 2 19,qL 123 2 20,qf 124 10 3,qL 125 2 124,qc 126 (F "r06.Then") [.t 123,.t 125],qL 127 2 21,qc 128 (F "r11.Mediate") [.t 121,.t 122,.t 126,.t 127],qm 120 128,qx 129 120 0,
 qx 130 120 1,qa 23 [.nl 1,.nl 1],qs 2 23 129,qm 14 130]
@[go_sem] def c_r14_Lift_r24 : LL := [qm 131 14,qk .neq 132 131 0]
@[go_sem] def c_r14_Lift_r25 : LL := [qu 133 [.nl 1,.nl 3,.nl 1,.nl 3,.nl 1,.nl 3,.nl 1,.nl 3,.nl 1,.nl 1,.nl 1,.nl 1,.nl 1,.nl 1,.nl 1,.nl 1] [],qm 134 14,qs 16 6 133,qm 7 134]
@[go_sem] def c_r14_Lift_r26 (F : Fn) : LL := [qL 135 2 19,qL 136 2 11,qL 137 2 16,qL 138 2 4,qc 139 (F "r05.Copied") [.t 138],qL 140 2 22,qL 141 2 23,qL 142 2 13,qL 143 2 18,
 qu 144 [.nl 1,.nl 3,.nl 1,.nl 3,.nl 1,.nl 3,.nl 1,.nl 3,.nl 1,.nl 1,.nl 1,.nl 1,.nl 1,.nl 1,.nl 1,.nl 1] [(0,2,.t 135),(2,2,.t 136),(4,2,.t 137),(6,2,.t 139),(8,2,.t 140),(10,2,.t 141),(12,2,.t 142),(14,2,.t 143)],
 qs 16 6 144,qi 7 0]
@[go_sem] def c_r14_Lift (F : Fn) : LC := (.seq (.reg c_r14_Lift_r0 [3,4,5,6]) (.seq (.seq (.reg (c_r14_Lift_r1 F) [3,4,5,6,8]) (.seq (.reg c_r14_Lift_r2 [3,4,5,6,8,27]) (.cond (.t 27) (.seq (.reg c_r14_Lift_r3 [6,7]) .ret) .skip))) (.seq (.seq (.reg (c_r14_Lift_r4 F) [3,4,5,6,9]) (.seq (.reg c_r14_Lift_r5 [3,4,5,6,9,36]) (.cond (.t 36) (.seq (.reg c_r14_Lift_r6 [6,7]) .ret) .skip))) (.seq (.seq (.reg (c_r14_Lift_r7 F) [3,4,5,6,41]) (.cond (.t 41) (.seq (.reg c_r14_Lift_r8 [6,7]) .ret) .skip)) (.seq (.reg c_r14_Lift_r9 [3,4,5,6,10]) (.seq (.reg (c_r14_Lift_r10 F) [3,4,5,6,10,11,13,14]) (.seq (.seq (.reg c_r14_Lift_r11 [3,4,5,6,10,11,13,14,60]) (.cond (.t 60) (.seq (.reg c_r14_Lift_r12 [6,7]) .ret) .skip)) (.seq (.reg c_r14_Lift_r13 [3,4,5,6,10,11,13,15]) (.seq (.reg (c_r14_Lift_r14 F) [3,4,5,6,10,11,13,14,15,16,18]) (.seq (.seq (.reg c_r14_Lift_r15 [3,4,5,6,10,11,13,14,15,16,18,80]) (.cond (.t 80) (.seq (.reg c_r14_Lift_r16 [6,7]) .ret) .skip)) (.seq (.dreg [(1,none,[],true),(2,none,[],true),(4,none,[],true),(9,none,[1,2,4],true),(10,(some 0),[9],false)] (c_r14_Lift_r17 F) [3,4,6,10,11,13,14,15,16,18,19,20,21]) (.seq (.seq (.reg c_r14_Lift_r18 [3,4,6,10,11,13,14,15,16,18,19,20,21,102]) (.cond (.t 102) (.seq (.reg c_r14_Lift_r19 [6,7]) .ret) .skip)) (.seq (.dreg [(0,none,[],true),(1,none,[],true),(5,none,[0,1],true),(6,(some 0),[5],false)] (c_r14_Lift_r20 F) [3,4,6,11,13,14,15,16,18,19,20,21,22]) (.seq (.seq (.reg c_r14_Lift_r21 [3,4,6,11,13,14,15,16,18,19,20,21,22,117]) (.cond (.t 117) (.seq (.reg c_r14_Lift_r22 [6,7]) .ret) .skip)) (.seq (.dreg [(0,none,[],true),(1,none,[],true),(5,none,[0,1],true),(6,(some 0),[5],false)] (c_r14_Lift_r23 F) [4,6,11,13,14,16,18,19,22,23]) (.seq (.seq (.reg c_r14_Lift_r24 [4,6,11,13,14,16,18,19,22,23,132]) (.cond (.t 132) (.seq (.reg c_r14_Lift_r25 [6,7]) .ret) .skip)) (.seq (.dreg [(0,none,[],true),(1,none,[],true),(2,none,[],true),(4,none,[0,1,2],true),(5,(some 0),[4],false),(6,(some 0),[4],false),(7,(some 0),[4],false),(8,(some 0),[4],false)] (c_r14_Lift_r26 F) [6,7]) .ret)))))))))))))))))
def h_r14_Lift : Hints := hOf [] (c_r14_Lift fun _ => 0)
@[go_sem] def c_l14_SquareLift_r0 : LL := [qB 3 0,qB 4 1,qB 5 2,qb 6 false]
@[go_sem] def c_l14_SquareLift_r1 (F : Fn) : LL := [qc 11 (F "l14.awake") [],qv 12 11,qm 13 12,qg 13 false (qL 14 16 3),qg 13 false (qc 15 (F "r14.Few") [.t 14]),qg 13 false (qv 16 15),qQ 17 13 16,qm 18 17,qg 18 false (qL 19 2 4),
 qg 18 false (qc 20 (F "r05.Few") [.t 19]),qg 18 false (qv 21 20),qQ 22 18 21,qm 23 22,qg 23 false (qL 24 2 5),qg 23 false (qc 25 (F "r06.Few") [.t 24,.k (.int .i64 (140))]),qg 23 false (qv 26 25),
 qQ 27 23 26]
@[go_sem] def c_l14_SquareLift_r2 (F : Fn) : LL := [qc 28 (F "l14.awake") [],qm 6 28]
@[go_sem] def c_l14_SquareLift_r3 (F : Fn) : LL := [qL 30 16 3,qL 31 2 4,qL 32 2 5,qc 33 (F "square.Lift") [.t 30,.t 31,.t 32],qm 29 33,qx 34 29 0,qx 35 29 1,
 qa 7 [.nl 1,.nl 3,.nl 1,.nl 3,.nl 1,.nl 3,.nl 1,.nl 3,.nl 1,.nl 1,.nl 1,.nl 1,.nl 1,.nl 1,.nl 1,.nl 1],qs 16 7 34,qm 8 35]
@[go_sem] def c_l14_SquareLift_r4 (F : Fn) : LL := [qL 37 16 3,qL 38 2 4,qL 39 2 5,qc 40 (F "r14.Lift") [.t 37,.t 38,.t 39],qm 36 40,qx 41 36 0,qx 42 36 1,
 qa 9 [.nl 1,.nl 3,.nl 1,.nl 3,.nl 1,.nl 3,.nl 1,.nl 3,.nl 1,.nl 1,.nl 1,.nl 1,.nl 1,.nl 1,.nl 1,.nl 1],qs 16 9 41,qm 10 42]
@[go_sem] def c_l14_SquareLift_r5 (F : Fn) : LL := [qm 43 8,qm 44 10,qo .eql 45 43 44,qm 46 45,qg 46 true (qL 47 16 7),qg 46 true (qL 48 16 9),qg 46 true (qc 49 (F "r14.Same") [.t 47,.t 48]),qP 50 46 49,qm 6 50]
@[go_sem] def c_l14_SquareLift (F : Fn) : LC := (.seq (.reg c_l14_SquareLift_r0 [3,4,5]) (.seq (.seq (.reg (c_l14_SquareLift_r1 F) [3,4,5,27]) (.cond (.t 27) (.seq (.reg (c_l14_SquareLift_r2 F) [6]) .ret) .skip)) (.seq (.reg (c_l14_SquareLift_r3 F) [3,4,5,7,8]) (.seq (.reg (c_l14_SquareLift_r4 F) [7,8,9,10]) (.seq (.reg (c_l14_SquareLift_r5 F) [6]) .ret)))))
def h_l14_SquareLift : Hints := hOf [] (c_l14_SquareLift fun _ => 0)
def Sq.oB (s : Sq) (x : G) (m : Mo) : Cs := ⟨s.b, x, s.d, s.h, m⟩
def Sq.oC (s : Sq) (x : G) (m : Mo) : Cs := ⟨s.c, x, s.d, s.k, m⟩
def Sq.oA (s : Sq) (x : G) (m : Mo) : Cs := ⟨s.a, x, s.d, thenM s.f s.h, m⟩
def lifF (s : Sq) (x : G) (m : Mo) : Mo × Int := medM (s.oB x m) (pbG (s.oA x m)) (thenM (pbP (s.oA x m)) s.f) (pbQ (s.oA x m))
def lifG (s : Sq) (x : G) (m : Mo) : Mo × Int := medM (s.oC x m) (pbG (s.oA x m)) (thenM (pbP (s.oA x m)) s.g) (pbQ (s.oA x m))
def liftE (s : Sq) (x : G) (m : Mo) : Int := if sqE s ≠ 0 then sqE s else if validM x s.d m ≠ 0 then validM x s.d m else if comB s = false then 11 else if pbErr (s.oB x m) ≠ 0 then pbErr (s.oB x m) else if pbErr (s.oC x m) ≠ 0 then pbErr (s.oC x m) else
 if pbErr (s.oA x m) ≠ 0 then pbErr (s.oA x m) else if (lifF s x m).2 ≠ 0 then (lifF s x m).2 else (lifG s x m).2
def lifS (s : Sq) (x : G) (m : Mo) : Sq := ⟨pbG (s.oA x m), pbG (s.oB x m), pbG (s.oC x m), x, (lifF s x m).1, (lifG s x m).1, pbQ (s.oB x m), pbQ (s.oC x m)⟩
def liftR (s : Sq) (x : G) (m : Mo) : Sq × Int := if liftE s x m = 0 then (lifS s x m, 0) else (sq0, liftE s x m)
def pulD (s : Cs) : D := .agg [.lst 1 (ints s.b.n), .lst 3 (eds s.b.e), .lst 1 (ints s.c.n), .lst 3 (eds s.c.e), .lst 1 (ints s.d.n), .lst 3 (eds s.d.e), .lst 1 (ints s.f.n), .lst 1 (ints s.f.e), .lst 1 (ints s.g.n), .lst 1 (ints s.g.e),
 .arr 1 (ints (pbG s).n), .arr 3 (eds (pbG s).e), .arr 1 (ints (pbP s).n), .arr 1 (ints (pbP s).e), .arr 1 (ints (pbQ s).n), .arr 1 (ints (pbQ s).e)]
section
variable (P : Program) (F : String → Nat)
def K_square_pull : Prop := ∀ s : Cs, FC P (F "square.pull") [gD s.b, gD s.d, gD s.c, mD s.f, mD s.g] (.tup [pulD s, .int .i64 (pbErr s)]) []
def K_square_Lift : Prop := ∀ (s : Sq) (x : G) (m : Mo), x.n.length ≤ 1000000 → x.e.length ≤ 1000000 → FC P (F "square.Lift") [sqD s, gD x, mD m] (.tup [sqA (liftR s x m).1, .int .i64 (liftR s x m).2]) []
def K_r14_Lift : Prop := ∀ (s : Sq) (x : G) (m : Mo), x.n.length ≤ 1000000 → x.e.length ≤ 1000000 → FC P (F "r14.Lift") [sqD s, gD x, mD m] (.tup [sqA (liftR s x m).1, .int .i64 (liftR s x m).2]) []
def K_l14_SquareLift : Prop := ∀ (s : Sq) (x : G) (m : Mo), s.sm → m.sm → FC P (F "l14.SquareLift") [sqD s, gD x, mD m] (.bool true) []
end
section
variable {P : Program} {F : String → Nat} {α : Type}
theorem w_square_pull (ho : K_pullback_Of P F) (s : Cs) : W P (c_square_pull F) (Done [.c 10 true 16, .t 11] [] (.tup [pulD s, .int .i64 (pbErr s)]) []) (init [gD s.b, gD s.d, gD s.c, mD s.f, mD s.g]) := by
 refine W_of ?_
 have r1 := ho s
 simp only [gD, mD, gA, mA, csD] at *
 simp (disch := omega) only [go_sem, ↓reduceIte]
 refine call_by r1 ?_
 simp (disch := omega) only [go_sem, ↓reduceIte]
 try rfl
theorem csD_oB (s : Sq) (x : G) (m : Mo) : csD (s.oB x m) = .agg [.lst 1 (ints s.b.n), .lst 3 (eds s.b.e), .lst 1 (ints x.n), .lst 3 (eds x.e), .lst 1 (ints s.d.n), .lst 3 (eds s.d.e), .lst 1 (ints s.h.n), .lst 1 (ints s.h.e), .lst 1 (ints m.n), .lst 1 (ints m.e)] := rfl
theorem pulD_oB (s : Sq) (x : G) (m : Mo) : pulD (s.oB x m) = .agg [.lst 1 (ints s.b.n), .lst 3 (eds s.b.e), .lst 1 (ints x.n), .lst 3 (eds x.e), .lst 1 (ints s.d.n), .lst 3 (eds s.d.e), .lst 1 (ints s.h.n), .lst 1 (ints s.h.e), .lst 1 (ints m.n), .lst 1 (ints m.e), .arr 1 (ints (pbG (s.oB x m)).n), .arr 3 (eds (pbG (s.oB x m)).e), .arr 1 (ints (pbP (s.oB x m)).n), .arr 1 (ints (pbP (s.oB x m)).e), .arr 1 (ints (pbQ (s.oB x m)).n), .arr 1 (ints (pbQ (s.oB x m)).e)] := rfl
theorem csD_oC (s : Sq) (x : G) (m : Mo) : csD (s.oC x m) = .agg [.lst 1 (ints s.c.n), .lst 3 (eds s.c.e), .lst 1 (ints x.n), .lst 3 (eds x.e), .lst 1 (ints s.d.n), .lst 3 (eds s.d.e), .lst 1 (ints s.k.n), .lst 1 (ints s.k.e), .lst 1 (ints m.n), .lst 1 (ints m.e)] := rfl
theorem pulD_oC (s : Sq) (x : G) (m : Mo) : pulD (s.oC x m) = .agg [.lst 1 (ints s.c.n), .lst 3 (eds s.c.e), .lst 1 (ints x.n), .lst 3 (eds x.e), .lst 1 (ints s.d.n), .lst 3 (eds s.d.e), .lst 1 (ints s.k.n), .lst 1 (ints s.k.e), .lst 1 (ints m.n), .lst 1 (ints m.e), .arr 1 (ints (pbG (s.oC x m)).n), .arr 3 (eds (pbG (s.oC x m)).e), .arr 1 (ints (pbP (s.oC x m)).n), .arr 1 (ints (pbP (s.oC x m)).e), .arr 1 (ints (pbQ (s.oC x m)).n), .arr 1 (ints (pbQ (s.oC x m)).e)] := rfl
theorem csD_oA (s : Sq) (x : G) (m : Mo) : csD (s.oA x m) = .agg [.lst 1 (ints s.a.n), .lst 3 (eds s.a.e), .lst 1 (ints x.n), .lst 3 (eds x.e), .lst 1 (ints s.d.n), .lst 3 (eds s.d.e), .lst 1 (ints (thenM s.f s.h).n), .lst 1 (ints (thenM s.f s.h).e), .lst 1 (ints m.n), .lst 1 (ints m.e)] := rfl
theorem pulD_oA (s : Sq) (x : G) (m : Mo) : pulD (s.oA x m) = .agg [.lst 1 (ints s.a.n), .lst 3 (eds s.a.e), .lst 1 (ints x.n), .lst 3 (eds x.e), .lst 1 (ints s.d.n), .lst 3 (eds s.d.e), .lst 1 (ints (thenM s.f s.h).n), .lst 1 (ints (thenM s.f s.h).e), .lst 1 (ints m.n), .lst 1 (ints m.e), .arr 1 (ints (pbG (s.oA x m)).n), .arr 3 (eds (pbG (s.oA x m)).e), .arr 1 (ints (pbP (s.oA x m)).n), .arr 1 (ints (pbP (s.oA x m)).e), .arr 1 (ints (pbQ (s.oA x m)).n), .arr 1 (ints (pbQ (s.oA x m)).e)] := rfl
theorem liftR_bad {s : Sq} {x : G} {m : Mo} {v : Int} (h : liftE s x m = v) (hn : v ≠ 0) : liftR s x m = (sq0, v) := by unfold liftR; rw [h, if_neg hn]
theorem liftR_ok {s : Sq} {x : G} {m : Mo} (h : liftE s x m = 0) : liftR s x m = (lifS s x m, 0) := by unfold liftR; rw [if_pos h]
theorem pbP_ok {s : Cs} (h : pbErr s = 0) : MOk (pbG s) s.b (pbP s) ∧ MOk (pbG s) s.c (pbQ s) := by
 have := pb_of h
 unfold pbG pbP pbQ
 rw [if_pos h, if_pos h, if_pos h]
 exact ⟨this.p, this.q⟩
set_option maxHeartbeats 4000000 in
theorem w_square_Lift (hv : K_square_valid P F) (hm : K_morphism_Valid P F) (hc : K_square_commutes P F) (ho : K_square_pull P F) (ht : K_square_then P F) (hmd : K_pullback_Mediate P F) (hcp : K_square_copied P F) (s : Sq) (x : G) (m : Mo) (hx1 : x.n.length ≤ 1000000) (hx2 : x.e.length ≤ 1000000) : W P (c_square_Lift F) (Done [.c 6 true 16, .t 7] [] (.tup [sqA (liftR s x m).1, .int .i64 (liftR s x m).2]) []) (init [sqD s, gD x, mD m]) := by
 refine W_of ?_
 have r1 := hv s
 have hE : liftE s x m = if sqE s ≠ 0 then sqE s else if validM x s.d m ≠ 0 then validM x s.d m else if comB s = false then 11 else if pbErr (s.oB x m) ≠ 0 then pbErr (s.oB x m) else if pbErr (s.oC x m) ≠ 0 then pbErr (s.oC x m) else
  if pbErr (s.oA x m) ≠ 0 then pbErr (s.oA x m) else if (lifF s x m).2 ≠ 0 then (lifF s x m).2 else (lifG s x m).2 := rfl
 by_cases c1 : sqE s = 0
 case neg =>
  rw [if_pos c1] at hE
  rw [liftR_bad hE c1]
  clear hE
  generalize sqE s = v at *
  simp only [sqD, gD, mD] at *
  simp (disch := omega) only [go_sem, ↓reduceIte]
  refine call_by r1 ?_
  simp (disch := omega) only [go_sem, ↓reduceIte]
  refine bran_ndec (fun c => ?_) (fun c => absurd c c1)
  simp (disch := omega) only [go_sem, ↓reduceIte]
  simp [sqA, sq0, g0, m0, ints, eds]
 rw [if_neg (by simp [c1])] at hE
 have r2 := hm x s.d m
 by_cases c2 : validM x s.d m = 0
 case neg =>
  rw [if_pos c2] at hE
  rw [liftR_bad hE c2]
  rw [c1] at r1
  clear hE
  generalize validM x s.d m = v at *
  simp only [sqD, gD, mD] at *
  simp (disch := omega) only [go_sem, ↓reduceIte]
  refine call_by r1 ?_
  simp (disch := omega) only [go_sem, ↓reduceIte]
  refine call_by r2 ?_
  simp (disch := omega) only [go_sem, ↓reduceIte]
  refine bran_ndec (fun c => ?_) (fun c => absurd c c2)
  simp (disch := omega) only [go_sem, ↓reduceIte]
  simp [sqA, sq0, g0, m0, ints, eds]
 rw [if_neg (by simp [c2])] at hE
 have r3 := hc s c1
 have q := sqE_ok.1 c1
 have qm := mok.1 c2
 rw [c1] at r1
 rw [c2] at r2
 by_cases c3 : comB s = false
 ·rw [if_pos c3] at hE
  rw [liftR_bad hE (by decide)]
  rw [c3] at r3
  clear hE
  simp only [sqD, gD, mD] at *
  simp (disch := omega) only [go_sem, ↓reduceIte]
  refine call_by r1 ?_
  simp (disch := omega) only [go_sem, ↓reduceIte]
  refine call_by r2 ?_
  simp (disch := omega) only [go_sem, ↓reduceIte]
  refine call_by r3 ?_
  simp (disch := omega) only [go_sem, ↓reduceIte]
  simp [sqA, sq0, g0, m0, ints, eds]
 rw [if_neg c3] at hE
 rw [Bool.not_eq_false] at c3
 rw [c3] at r3
 have f1 := q.f.fit q.h
 have r7 := ht s.f s.h (by omega) (by omega) f1.2.1 f1.2.2
 have r4 : FC P (F "square.pull") [gD s.b, gD s.d, gD x, mD s.h, mD m] (.tup [pulD (s.oB x m), .int .i64 (pbErr (s.oB x m))]) [] := ho (s.oB x m)
 have r5 : FC P (F "square.pull") [gD s.c, gD s.d, gD x, mD s.k, mD m] (.tup [pulD (s.oC x m), .int .i64 (pbErr (s.oC x m))]) [] := ho (s.oC x m)
 have r6 : FC P (F "square.pull") [gD s.a, gD s.d, gD x, mD (thenM s.f s.h), mD m] (.tup [pulD (s.oA x m), .int .i64 (pbErr (s.oA x m))]) [] := ho (s.oA x m)
 have p6 := @pbP_ok (s.oA x m)
 have r8 : pbErr (s.oA x m) = 0 → _ := fun h => ht (pbP (s.oA x m)) s.f (by have := ((p6 h).1.fit q.f); omega) (by have := ((p6 h).1.fit q.f); omega) ((p6 h).1.fit q.f).2.1 ((p6 h).1.fit q.f).2.2
 have r9 : pbErr (s.oA x m) = 0 → _ := fun h => ht (pbP (s.oA x m)) s.g (by have := ((p6 h).1.fit q.g); omega) (by have := ((p6 h).1.fit q.g); omega) ((p6 h).1.fit q.g).2.1 ((p6 h).1.fit q.g).2.2
 have r10 := hmd (s.oB x m) (pbG (s.oA x m)) (thenM (pbP (s.oA x m)) s.f) (pbQ (s.oA x m))
 have r11 := hmd (s.oC x m) (pbG (s.oA x m)) (thenM (pbP (s.oA x m)) s.g) (pbQ (s.oA x m))
 have r12 := hcp x (by omega) (by omega)
 have hS : lifS s x m = ⟨pbG (s.oA x m), pbG (s.oB x m), pbG (s.oC x m), x, (lifF s x m).1, (lifG s x m).1, pbQ (s.oB x m), pbQ (s.oC x m)⟩ := rfl
 rw [show medM (s.oB x m) (pbG (s.oA x m)) (thenM (pbP (s.oA x m)) s.f) (pbQ (s.oA x m)) = lifF s x m from rfl] at r10
 rw [show medM (s.oC x m) (pbG (s.oA x m)) (thenM (pbP (s.oA x m)) s.g) (pbQ (s.oA x m)) = lifG s x m from rfl] at r11
 have hok : liftE s x m = 0 → liftR s x m = (lifS s x m, 0) := liftR_ok
 have hbad := fun v => @liftR_bad s x m v
 clear f1 p6 q qm hv hm hc ho ht hmd hcp
 rw [hS] at hok
 clear hS
 simp only [pulD_oA, pulD_oB, pulD_oC, csD_oA, csD_oB, csD_oC] at r4 r5 r6 r10 r11
 generalize lifF s x m = LF at *
 generalize lifG s x m = LG at *
 generalize liftE s x m = le at *
 generalize liftR s x m = R at *
 generalize pbErr (s.oB x m) = eb at *
 generalize pbG (s.oB x m) = gb at *
 generalize pbP (s.oB x m) = pb at *
 generalize pbQ (s.oB x m) = qb at *
 generalize pbErr (s.oC x m) = ec at *
 generalize pbG (s.oC x m) = gc at *
 generalize pbP (s.oC x m) = pc at *
 generalize pbQ (s.oC x m) = qc at *
 generalize pbErr (s.oA x m) = ea at *
 generalize pbG (s.oA x m) = ga at *
 generalize pbP (s.oA x m) = pa at *
 generalize pbQ (s.oA x m) = qa at *
 generalize thenM s.f s.h = fh at *
 generalize thenM pa s.f = tf at *
 generalize thenM pa s.g = tg at *
 obtain ⟨⟨lfn, lfe⟩, lfv⟩ := LF
 obtain ⟨⟨lgn, lge⟩, lgv⟩ := LG
 obtain ⟨gbn, gbe⟩ := gb
 obtain ⟨gcn, gce⟩ := gc
 obtain ⟨gan, gae⟩ := ga
 obtain ⟨fhn, fhe⟩ := fh
 obtain ⟨tfn, tfe⟩ := tf
 obtain ⟨tgn, tge⟩ := tg
 simp only at hE
 simp only [sqD, gD, mD, gA, mA] at r1 r2 r3 r4 r5 r6 r7 r8 r9 r10 r11 r12 ⊢
 by_cases c_eb : eb = 0
 case neg =>
  rw [if_pos c_eb] at hE
  rw [hbad _ hE c_eb]
  simp (disch := omega) only [go_sem, ↓reduceIte]
  refine call_by r1 ?_
  simp (disch := omega) only [go_sem, ↓reduceIte]
  refine call_by r2 ?_
  simp (disch := omega) only [go_sem, ↓reduceIte]
  refine call_by r3 ?_
  simp (disch := omega) only [go_sem, ↓reduceIte]
  refine call_fz r4 ?_
  simp (disch := omega) only [go_sem, ↓reduceIte]
  refine bran_ndec (fun c => ?_) (fun c => absurd c c_eb)
  simp (disch := omega) only [go_sem, ↓reduceIte]
  simp [sqA, sq0, g0, m0, ints, eds]
 rw [if_neg (by simp [c_eb])] at hE
 subst c_eb
 by_cases c_ec : ec = 0
 case neg =>
  rw [if_pos c_ec] at hE
  rw [hbad _ hE c_ec]
  simp (disch := omega) only [go_sem, ↓reduceIte]
  refine call_by r1 ?_
  simp (disch := omega) only [go_sem, ↓reduceIte]
  refine call_by r2 ?_
  simp (disch := omega) only [go_sem, ↓reduceIte]
  refine call_by r3 ?_
  simp (disch := omega) only [go_sem, ↓reduceIte]
  refine call_fz r4 ?_
  simp (disch := omega) only [go_sem, ↓reduceIte]
  refine call_fz r5 ?_
  simp (disch := omega) only [go_sem, ↓reduceIte]
  refine bran_ndec (fun c => ?_) (fun c => absurd c c_ec)
  simp (disch := omega) only [go_sem, ↓reduceIte]
  simp [sqA, sq0, g0, m0, ints, eds]
 rw [if_neg (by simp [c_ec])] at hE
 subst c_ec
 by_cases c_ea : ea = 0
 case neg =>
  rw [if_pos c_ea] at hE
  rw [hbad _ hE c_ea]
  simp (disch := omega) only [go_sem, ↓reduceIte]
  refine call_by r1 ?_
  simp (disch := omega) only [go_sem, ↓reduceIte]
  refine call_by r2 ?_
  simp (disch := omega) only [go_sem, ↓reduceIte]
  refine call_by r3 ?_
  simp (disch := omega) only [go_sem, ↓reduceIte]
  refine call_fz r4 ?_
  simp (disch := omega) only [go_sem, ↓reduceIte]
  refine call_fz r5 ?_
  simp (disch := omega) only [go_sem, ↓reduceIte]
  refine call_by r7 ?_
  simp (disch := omega) only [go_sem, ↓reduceIte]
  refine call_fz r6 ?_
  simp (disch := omega) only [go_sem, ↓reduceIte]
  refine bran_ndec (fun c => ?_) (fun c => absurd c c_ea)
  simp (disch := omega) only [go_sem, ↓reduceIte]
  simp [sqA, sq0, g0, m0, ints, eds]
 rw [if_neg (by simp [c_ea])] at hE
 have t8 := r8 c_ea
 have t9 := r9 c_ea
 clear r8 r9
 subst c_ea
 by_cases c_f : lfv = 0
 case neg =>
  rw [if_pos c_f] at hE
  rw [hbad _ hE c_f]
  simp (disch := omega) only [go_sem, ↓reduceIte]
  refine call_by r1 ?_
  simp (disch := omega) only [go_sem, ↓reduceIte]
  refine call_by r2 ?_
  simp (disch := omega) only [go_sem, ↓reduceIte]
  refine call_by r3 ?_
  simp (disch := omega) only [go_sem, ↓reduceIte]
  refine call_fz r4 ?_
  simp (disch := omega) only [go_sem, ↓reduceIte]
  refine call_fz r5 ?_
  simp (disch := omega) only [go_sem, ↓reduceIte]
  refine call_by r7 ?_
  simp (disch := omega) only [go_sem, ↓reduceIte]
  refine call_fz r6 ?_
  simp (disch := omega) only [go_sem, ↓reduceIte]
  refine call_by t8 ?_
  simp (disch := omega) only [go_sem, ↓reduceIte]
  refine call_by r10 ?_
  simp (disch := omega) only [go_sem, ↓reduceIte]
  refine bran_ndec (fun c => ?_) (fun c => absurd c c_f)
  simp (disch := omega) only [go_sem, ↓reduceIte]
  simp [sqA, sq0, g0, m0, ints, eds]
 rw [if_neg (by simp [c_f])] at hE
 subst c_f
 by_cases c_g : lgv = 0
 case neg =>
  rw [hbad _ hE c_g]
  simp (disch := omega) only [go_sem, ↓reduceIte]
  refine call_by r1 ?_
  simp (disch := omega) only [go_sem, ↓reduceIte]
  refine call_by r2 ?_
  simp (disch := omega) only [go_sem, ↓reduceIte]
  refine call_by r3 ?_
  simp (disch := omega) only [go_sem, ↓reduceIte]
  refine call_fz r4 ?_
  simp (disch := omega) only [go_sem, ↓reduceIte]
  refine call_fz r5 ?_
  simp (disch := omega) only [go_sem, ↓reduceIte]
  refine call_by r7 ?_
  simp (disch := omega) only [go_sem, ↓reduceIte]
  refine call_fz r6 ?_
  simp (disch := omega) only [go_sem, ↓reduceIte]
  refine call_by t8 ?_
  simp (disch := omega) only [go_sem, ↓reduceIte]
  refine call_by r10 ?_
  simp (disch := omega) only [go_sem, ↓reduceIte]
  refine call_by t9 ?_
  simp (disch := omega) only [go_sem, ↓reduceIte]
  refine call_by r11 ?_
  simp (disch := omega) only [go_sem, ↓reduceIte]
  refine bran_ndec (fun c => ?_) (fun c => absurd c c_g)
  simp (disch := omega) only [go_sem, ↓reduceIte]
  simp [sqA, sq0, g0, m0, ints, eds]
 subst c_g
 rw [hok hE]
 simp (disch := omega) only [go_sem, ↓reduceIte]
 refine call_by r1 ?_
 simp (disch := omega) only [go_sem, ↓reduceIte]
 refine call_by r2 ?_
 simp (disch := omega) only [go_sem, ↓reduceIte]
 refine call_by r3 ?_
 simp (disch := omega) only [go_sem, ↓reduceIte]
 refine call_fz r4 ?_
 simp (disch := omega) only [go_sem, ↓reduceIte]
 refine call_fz r5 ?_
 simp (disch := omega) only [go_sem, ↓reduceIte]
 refine call_by r7 ?_
 simp (disch := omega) only [go_sem, ↓reduceIte]
 refine call_fz r6 ?_
 simp (disch := omega) only [go_sem, ↓reduceIte]
 refine call_by t8 ?_
 simp (disch := omega) only [go_sem, ↓reduceIte]
 refine call_by r10 ?_
 simp (disch := omega) only [go_sem, ↓reduceIte]
 refine call_by t9 ?_
 simp (disch := omega) only [go_sem, ↓reduceIte]
 refine call_by r11 ?_
 simp (disch := omega) only [go_sem, ↓reduceIte]
 refine call_by r12 ?_
 simp (disch := omega) only [go_sem, ↓reduceIte]
 try rfl
set_option maxHeartbeats 4000000 in
theorem w_r14_Lift (hv : K_r14_Valid P F) (hm : K_r06_Valid P F) (hc : K_r14_commutes P F) (ho : K_r11_Of P F) (ht : K_r06_Then P F) (hmd : K_r11_Mediate P F) (hcp : K_r05_Copied P F) (s : Sq) (x : G) (m : Mo) (hx1 : x.n.length ≤ 1000000) (hx2 : x.e.length ≤ 1000000) : W P (c_r14_Lift F) (Done [.c 6 true 16, .t 7] [] (.tup [sqA (liftR s x m).1, .int .i64 (liftR s x m).2]) []) (init [sqD s, gD x, mD m]) := by
 refine W_of ?_
 have r1 := hv s
 have hE : liftE s x m = if sqE s ≠ 0 then sqE s else if validM x s.d m ≠ 0 then validM x s.d m else if comB s = false then 11 else if pbErr (s.oB x m) ≠ 0 then pbErr (s.oB x m) else if pbErr (s.oC x m) ≠ 0 then pbErr (s.oC x m) else
  if pbErr (s.oA x m) ≠ 0 then pbErr (s.oA x m) else if (lifF s x m).2 ≠ 0 then (lifF s x m).2 else (lifG s x m).2 := rfl
 by_cases c1 : sqE s = 0
 case neg =>
  rw [if_pos c1] at hE
  rw [liftR_bad hE c1]
  clear hE
  generalize sqE s = v at *
  simp only [sqD, gD, mD] at *
  simp (disch := omega) only [go_sem, ↓reduceIte]
  refine call_by r1 ?_
  simp (disch := omega) only [go_sem, ↓reduceIte]
  refine bran_ndec (fun c => ?_) (fun c => absurd c c1)
  simp (disch := omega) only [go_sem, ↓reduceIte]
  simp [sqA, sq0, g0, m0, ints, eds]
 rw [if_neg (by simp [c1])] at hE
 have r2 := hm x s.d m
 by_cases c2 : validM x s.d m = 0
 case neg =>
  rw [if_pos c2] at hE
  rw [liftR_bad hE c2]
  rw [c1] at r1
  clear hE
  generalize validM x s.d m = v at *
  simp only [sqD, gD, mD] at *
  simp (disch := omega) only [go_sem, ↓reduceIte]
  refine call_by r1 ?_
  simp (disch := omega) only [go_sem, ↓reduceIte]
  refine call_by r2 ?_
  simp (disch := omega) only [go_sem, ↓reduceIte]
  refine bran_ndec (fun c => ?_) (fun c => absurd c c2)
  simp (disch := omega) only [go_sem, ↓reduceIte]
  simp [sqA, sq0, g0, m0, ints, eds]
 rw [if_neg (by simp [c2])] at hE
 have r3 := hc s c1
 have q := sqE_ok.1 c1
 have qm := mok.1 c2
 rw [c1] at r1
 rw [c2] at r2
 by_cases c3 : comB s = false
 ·rw [if_pos c3] at hE
  rw [liftR_bad hE (by decide)]
  rw [c3] at r3
  clear hE
  simp only [sqD, gD, mD] at *
  simp (disch := omega) only [go_sem, ↓reduceIte]
  refine call_by r1 ?_
  simp (disch := omega) only [go_sem, ↓reduceIte]
  refine call_by r2 ?_
  simp (disch := omega) only [go_sem, ↓reduceIte]
  refine call_by r3 ?_
  simp (disch := omega) only [go_sem, ↓reduceIte]
  simp [sqA, sq0, g0, m0, ints, eds]
 rw [if_neg c3] at hE
 rw [Bool.not_eq_false] at c3
 rw [c3] at r3
 have f1 := q.f.fit q.h
 have r7 := ht s.f s.h (by omega) (by omega) f1.2.1 f1.2.2
 have r4 := ho (s.oB x m)
 have r5 := ho (s.oC x m)
 have r6 := ho (s.oA x m)
 have p6 := @pbP_ok (s.oA x m)
 have r8 : pbErr (s.oA x m) = 0 → _ := fun h => ht (pbP (s.oA x m)) s.f (by have := ((p6 h).1.fit q.f); omega) (by have := ((p6 h).1.fit q.f); omega) ((p6 h).1.fit q.f).2.1 ((p6 h).1.fit q.f).2.2
 have r9 : pbErr (s.oA x m) = 0 → _ := fun h => ht (pbP (s.oA x m)) s.g (by have := ((p6 h).1.fit q.g); omega) (by have := ((p6 h).1.fit q.g); omega) ((p6 h).1.fit q.g).2.1 ((p6 h).1.fit q.g).2.2
 have r10 := hmd (s.oB x m) (pbG (s.oA x m)) (thenM (pbP (s.oA x m)) s.f) (pbQ (s.oA x m))
 have r11 := hmd (s.oC x m) (pbG (s.oA x m)) (thenM (pbP (s.oA x m)) s.g) (pbQ (s.oA x m))
 have r12 := hcp x (by omega) (by omega)
 have hS : lifS s x m = ⟨pbG (s.oA x m), pbG (s.oB x m), pbG (s.oC x m), x, (lifF s x m).1, (lifG s x m).1, pbQ (s.oB x m), pbQ (s.oC x m)⟩ := rfl
 rw [show medM (s.oB x m) (pbG (s.oA x m)) (thenM (pbP (s.oA x m)) s.f) (pbQ (s.oA x m)) = lifF s x m from rfl] at r10
 rw [show medM (s.oC x m) (pbG (s.oA x m)) (thenM (pbP (s.oA x m)) s.g) (pbQ (s.oA x m)) = lifG s x m from rfl] at r11
 have hok : liftE s x m = 0 → liftR s x m = (lifS s x m, 0) := liftR_ok
 have hbad := fun v => @liftR_bad s x m v
 clear f1 p6 q qm hv hm hc ho ht hmd hcp
 rw [hS] at hok
 clear hS
 simp only [pulD_oA, pulD_oB, pulD_oC, csD_oA, csD_oB, csD_oC] at r4 r5 r6 r10 r11
 generalize lifF s x m = LF at *
 generalize lifG s x m = LG at *
 generalize liftE s x m = le at *
 generalize liftR s x m = R at *
 generalize pbErr (s.oB x m) = eb at *
 generalize pbG (s.oB x m) = gb at *
 generalize pbP (s.oB x m) = pb at *
 generalize pbQ (s.oB x m) = qb at *
 generalize pbErr (s.oC x m) = ec at *
 generalize pbG (s.oC x m) = gc at *
 generalize pbP (s.oC x m) = pc at *
 generalize pbQ (s.oC x m) = qc at *
 generalize pbErr (s.oA x m) = ea at *
 generalize pbG (s.oA x m) = ga at *
 generalize pbP (s.oA x m) = pa at *
 generalize pbQ (s.oA x m) = qa at *
 generalize thenM s.f s.h = fh at *
 generalize thenM pa s.f = tf at *
 generalize thenM pa s.g = tg at *
 obtain ⟨⟨lfn, lfe⟩, lfv⟩ := LF
 obtain ⟨⟨lgn, lge⟩, lgv⟩ := LG
 obtain ⟨gbn, gbe⟩ := gb
 obtain ⟨gcn, gce⟩ := gc
 obtain ⟨gan, gae⟩ := ga
 obtain ⟨fhn, fhe⟩ := fh
 obtain ⟨tfn, tfe⟩ := tf
 obtain ⟨tgn, tge⟩ := tg
 simp only at hE
 simp only [sqD, gD, mD, gA, mA] at r1 r2 r3 r4 r5 r6 r7 r8 r9 r10 r11 r12 ⊢
 by_cases c_eb : eb = 0
 case neg =>
  rw [if_pos c_eb] at hE
  rw [hbad _ hE c_eb]
  simp (disch := omega) only [go_sem, ↓reduceIte]
  refine call_by r1 ?_
  simp (disch := omega) only [go_sem, ↓reduceIte]
  refine call_by r2 ?_
  simp (disch := omega) only [go_sem, ↓reduceIte]
  refine call_by r3 ?_
  simp (disch := omega) only [go_sem, ↓reduceIte]
  refine call_by r4 ?_
  simp (disch := omega) only [go_sem, ↓reduceIte]
  refine bran_ndec (fun c => ?_) (fun c => absurd c c_eb)
  simp (disch := omega) only [go_sem, ↓reduceIte]
  simp [sqA, sq0, g0, m0, ints, eds]
 rw [if_neg (by simp [c_eb])] at hE
 subst c_eb
 by_cases c_ec : ec = 0
 case neg =>
  rw [if_pos c_ec] at hE
  rw [hbad _ hE c_ec]
  simp (disch := omega) only [go_sem, ↓reduceIte]
  refine call_by r1 ?_
  simp (disch := omega) only [go_sem, ↓reduceIte]
  refine call_by r2 ?_
  simp (disch := omega) only [go_sem, ↓reduceIte]
  refine call_by r3 ?_
  simp (disch := omega) only [go_sem, ↓reduceIte]
  refine call_by r4 ?_
  simp (disch := omega) only [go_sem, ↓reduceIte]
  refine call_by r5 ?_
  simp (disch := omega) only [go_sem, ↓reduceIte]
  refine bran_ndec (fun c => ?_) (fun c => absurd c c_ec)
  simp (disch := omega) only [go_sem, ↓reduceIte]
  simp [sqA, sq0, g0, m0, ints, eds]
 rw [if_neg (by simp [c_ec])] at hE
 subst c_ec
 by_cases c_ea : ea = 0
 case neg =>
  rw [if_pos c_ea] at hE
  rw [hbad _ hE c_ea]
  simp (disch := omega) only [go_sem, ↓reduceIte]
  refine call_by r1 ?_
  simp (disch := omega) only [go_sem, ↓reduceIte]
  refine call_by r2 ?_
  simp (disch := omega) only [go_sem, ↓reduceIte]
  refine call_by r3 ?_
  simp (disch := omega) only [go_sem, ↓reduceIte]
  refine call_by r4 ?_
  simp (disch := omega) only [go_sem, ↓reduceIte]
  refine call_by r5 ?_
  simp (disch := omega) only [go_sem, ↓reduceIte]
  refine call_by r7 ?_
  simp (disch := omega) only [go_sem, ↓reduceIte]
  refine call_by r6 ?_
  simp (disch := omega) only [go_sem, ↓reduceIte]
  refine bran_ndec (fun c => ?_) (fun c => absurd c c_ea)
  simp (disch := omega) only [go_sem, ↓reduceIte]
  simp [sqA, sq0, g0, m0, ints, eds]
 rw [if_neg (by simp [c_ea])] at hE
 have t8 := r8 c_ea
 have t9 := r9 c_ea
 clear r8 r9
 subst c_ea
 by_cases c_f : lfv = 0
 case neg =>
  rw [if_pos c_f] at hE
  rw [hbad _ hE c_f]
  simp (disch := omega) only [go_sem, ↓reduceIte]
  refine call_by r1 ?_
  simp (disch := omega) only [go_sem, ↓reduceIte]
  refine call_by r2 ?_
  simp (disch := omega) only [go_sem, ↓reduceIte]
  refine call_by r3 ?_
  simp (disch := omega) only [go_sem, ↓reduceIte]
  refine call_by r4 ?_
  simp (disch := omega) only [go_sem, ↓reduceIte]
  refine call_by r5 ?_
  simp (disch := omega) only [go_sem, ↓reduceIte]
  refine call_by r7 ?_
  simp (disch := omega) only [go_sem, ↓reduceIte]
  refine call_by r6 ?_
  simp (disch := omega) only [go_sem, ↓reduceIte]
  refine call_by t8 ?_
  simp (disch := omega) only [go_sem, ↓reduceIte]
  refine call_by r10 ?_
  simp (disch := omega) only [go_sem, ↓reduceIte]
  refine bran_ndec (fun c => ?_) (fun c => absurd c c_f)
  simp (disch := omega) only [go_sem, ↓reduceIte]
  simp [sqA, sq0, g0, m0, ints, eds]
 rw [if_neg (by simp [c_f])] at hE
 subst c_f
 by_cases c_g : lgv = 0
 case neg =>
  rw [hbad _ hE c_g]
  simp (disch := omega) only [go_sem, ↓reduceIte]
  refine call_by r1 ?_
  simp (disch := omega) only [go_sem, ↓reduceIte]
  refine call_by r2 ?_
  simp (disch := omega) only [go_sem, ↓reduceIte]
  refine call_by r3 ?_
  simp (disch := omega) only [go_sem, ↓reduceIte]
  refine call_by r4 ?_
  simp (disch := omega) only [go_sem, ↓reduceIte]
  refine call_by r5 ?_
  simp (disch := omega) only [go_sem, ↓reduceIte]
  refine call_by r7 ?_
  simp (disch := omega) only [go_sem, ↓reduceIte]
  refine call_by r6 ?_
  simp (disch := omega) only [go_sem, ↓reduceIte]
  refine call_by t8 ?_
  simp (disch := omega) only [go_sem, ↓reduceIte]
  refine call_by r10 ?_
  simp (disch := omega) only [go_sem, ↓reduceIte]
  refine call_by t9 ?_
  simp (disch := omega) only [go_sem, ↓reduceIte]
  refine call_by r11 ?_
  simp (disch := omega) only [go_sem, ↓reduceIte]
  refine bran_ndec (fun c => ?_) (fun c => absurd c c_g)
  simp (disch := omega) only [go_sem, ↓reduceIte]
  simp [sqA, sq0, g0, m0, ints, eds]
 subst c_g
 rw [hok hE]
 simp (disch := omega) only [go_sem, ↓reduceIte]
 refine call_by r1 ?_
 simp (disch := omega) only [go_sem, ↓reduceIte]
 refine call_by r2 ?_
 simp (disch := omega) only [go_sem, ↓reduceIte]
 refine call_by r3 ?_
 simp (disch := omega) only [go_sem, ↓reduceIte]
 refine call_by r4 ?_
 simp (disch := omega) only [go_sem, ↓reduceIte]
 refine call_by r5 ?_
 simp (disch := omega) only [go_sem, ↓reduceIte]
 refine call_by r7 ?_
 simp (disch := omega) only [go_sem, ↓reduceIte]
 refine call_by r6 ?_
 simp (disch := omega) only [go_sem, ↓reduceIte]
 refine call_by t8 ?_
 simp (disch := omega) only [go_sem, ↓reduceIte]
 refine call_by r10 ?_
 simp (disch := omega) only [go_sem, ↓reduceIte]
 refine call_by t9 ?_
 simp (disch := omega) only [go_sem, ↓reduceIte]
 refine call_by r11 ?_
 simp (disch := omega) only [go_sem, ↓reduceIte]
 refine call_by r12 ?_
 simp (disch := omega) only [go_sem, ↓reduceIte]
 try rfl
theorem pbG_len (s : Cs) : ((pbG s).n.length ≤ 40 ∧ (pbG s).e.length ≤ 80) ∧ ((pbP s).n.length ≤ 40 ∧ (pbP s).e.length ≤ 80) ∧ ((pbQ s).n.length ≤ 40 ∧ (pbQ s).e.length ≤ 80) := by
 by_cases h : pbErr s = 0
 ·obtain ⟨h1, h2, _⟩ := pbN_len h
  unfold pbG pbP pbQ
  rw [if_pos h, if_pos h, if_pos h]
  simp only [pbG0, asA, asB, List.length_map]
  omega
 ·unfold pbG pbP pbQ
  rw [if_neg h, if_neg h, if_neg h]
  simp [g0, m0]
theorem meetI_len' (l : List Pr) (h k : List Int) : ∀ n, (meetI l h k n).length ≤ n := fun n => by simp [meetI]
theorem medM_len (s : Cs) (x : G) (h k : Mo) : (medM s x h k).1.n.length ≤ 1000 ∧ (medM s x h k).1.e.length ≤ 1000 := by
 unfold medM
 split
 ·simp [m0]
 ·rename_i c
  split
  ·have hv : validM x s.b h = 0 := by
    unfold medErr at c
    split at c
    ·rename_i c1; exact absurd c1 c
    ·split at c
     ·rename_i c2; exact absurd c2 c
     ·rename_i c2; exact Decidable.not_not.1 c2
   have := validM_len hv
   have e1 := meetI_len' (pbN s) h.n k.n h.n.length
   have e2 := meetI_len' (pbE s) h.e k.e h.e.length
   unfold meetL
   simp only
   constructor <;> omega
  ·simp [m0]
theorem liftR_bd (s : Sq) (x : G) (m : Mo) (h1 : x.n.length ≤ 1000000) (h2 : x.e.length ≤ 1000000) : SqBd (liftR s x m).1 := by
 unfold liftR
 split
 ·have a := pbG_len (s.oA x m)
  have b := pbG_len (s.oB x m)
  have c := pbG_len (s.oC x m)
  have f := medM_len (s.oB x m) (pbG (s.oA x m)) (thenM (pbP (s.oA x m)) s.f) (pbQ (s.oA x m))
  have g := medM_len (s.oC x m) (pbG (s.oA x m)) (thenM (pbP (s.oA x m)) s.g) (pbQ (s.oA x m))
  simp only [lifS, lifF, lifG]
  refine ⟨⟨?_, ?_⟩, ⟨?_, ?_⟩, ⟨?_, ?_⟩, ⟨?_, ?_⟩, ⟨?_, ?_⟩, ⟨?_, ?_⟩, ⟨?_, ?_⟩, ?_, ?_⟩ <;> simp only <;> unfold maxL <;> omega
 ·exact sq0_bd
set_option maxHeartbeats 1000000 in
theorem w_l14_SquareLift (hw : K_l14_awake P F) (hf : K_r14_Few P F) (hg : K_r05_Few P F) (hm : K_r06_Few P F) (h1 : K_square_Lift P F) (h2 : K_r14_Lift P F) (h3 : K_r14_Same P F) (s : Sq) (x : G) (m : Mo) (hs : s.sm) (hms : m.sm) : W P (c_l14_SquareLift F) (Done [.t 6] [] (.bool true) []) (init [sqD s, gD x, mD m]) := by
 refine W_of ?_
 have r1 := hf s hs
 have r2 := hg x
 have r3 := hm m 140 hms.1 hms.2
 cases c : fewSq s
 ·rw [c] at r1
  simp only [sqD, gD, mD] at *
  simp (disch := omega) only [go_sem, ↓reduceIte]
  refine call_by hw ?_
  simp (disch := omega) only [go_sem, ↓reduceIte]
  refine call_by r1 ?_
  simp (disch := omega) only [go_sem, ↓reduceIte]
  refine call_by hw ?_
  simp (disch := omega) only [go_sem, ↓reduceIte]
 rw [c] at r1
 cases c2 : few x
 ·rw [c2] at r2
  simp only [sqD, gD, mD] at *
  simp (disch := omega) only [go_sem, ↓reduceIte]
  refine call_by hw ?_
  simp (disch := omega) only [go_sem, ↓reduceIte]
  refine call_by r1 ?_
  simp (disch := omega) only [go_sem, ↓reduceIte]
  refine call_by r2 ?_
  simp (disch := omega) only [go_sem, ↓reduceIte]
  refine call_by hw ?_
  simp (disch := omega) only [go_sem, ↓reduceIte]
 rw [c2] at r2
 have cl : x.n.length ≤ 45 ∧ x.e.length ≤ 90 := by simpa only [few, Bool.and_eq_true, decide_eq_true_eq] using c2
 cases c3 : fewM m 140
 ·rw [c3] at r3
  simp only [sqD, gD, mD] at *
  simp (disch := omega) only [go_sem, ↓reduceIte]
  refine call_by hw ?_
  simp (disch := omega) only [go_sem, ↓reduceIte]
  refine call_by r1 ?_
  simp (disch := omega) only [go_sem, ↓reduceIte]
  refine call_by r2 ?_
  simp (disch := omega) only [go_sem, ↓reduceIte]
  refine call_by r3 ?_
  simp (disch := omega) only [go_sem, ↓reduceIte]
  refine call_by hw ?_
  simp (disch := omega) only [go_sem, ↓reduceIte]
 rw [c3] at r3
 have r4 := h1 s x m (by omega) (by omega)
 have r5 := h2 s x m (by omega) (by omega)
 have r6 := h3 (liftR s x m).1 (liftR s x m).1 (liftR_bd s x m (by omega) (by omega))
 rw [decide_eq_true rfl] at r6
 generalize liftR s x m = R at *
 obtain ⟨⟨⟨an, ae⟩, ⟨bn, be⟩, ⟨cn, ce⟩, ⟨dn, de⟩, ⟨fn, fe⟩, ⟨gn, ge⟩, ⟨hn, he⟩, ⟨kn, ke⟩⟩, v⟩ := R
 simp only [sqD, sqA, gD, mD] at *
 simp (disch := omega) only [go_sem, ↓reduceIte]
 refine call_by hw ?_
 simp (disch := omega) only [go_sem, ↓reduceIte]
 refine call_by r1 ?_
 simp (disch := omega) only [go_sem, ↓reduceIte]
 refine call_by r2 ?_
 simp (disch := omega) only [go_sem, ↓reduceIte]
 refine call_by r3 ?_
 simp (disch := omega) only [go_sem, ↓reduceIte]
 refine call_by r4 ?_
 simp (disch := omega) only [go_sem, ↓reduceIte]
 refine call_by r5 ?_
 simp (disch := omega) only [go_sem, ↓reduceIte]
 refine call_by r6 ?_
 simp (disch := omega) only [go_sem, ↓reduceIte]
 try simp
theorem x_l14_SquareLift (h : K_l14_SquareLift P F) (args : List D) (ha : HasEls [shSq, shG, shM] args) : FC P (F "l14.SquareLift") args (.bool true) [] := by
 simp only [HasEls] at ha
 obtain ⟨_, _, rfl, h1, _, _, rfl, h2, _, _, rfl, h3, rfl⟩ := ha
 obtain ⟨s, rfl, k⟩ := rd_sq h1
 obtain ⟨x, rfl⟩ := rd_graph h2
 obtain ⟨m, rfl, k2⟩ := rd_morph h3
 exact h s x m k k2
end
section
theorem meet_gt {l : List Pr} {h k : List Int} {i : Nat} (hi : i < h.length) : gt (meetL l h k) i = idx (fun p => decide (p = ⟨gt h i, gt k i⟩)) l 0 := by
 unfold meetL meetI
 rw [gt_nat (by simpa using hi)]
 simp
theorem meet_len (l : List Pr) (h k : List Int) : (meetL l h k).length = h.length := by rw [meetL, meetI_len]
theorem med_mk {s : Cs} {x : G} {h k : Mo} (e : pbErr s = 0) (hh : MOk x s.b h) (hk : MOk x s.c k) (cn : ∀ i : Nat, i < x.n.length → gt s.f.n (gt h.n i) = gt s.g.n (gt k.n i)) (ce : ∀ i : Nat, i < x.e.length → gt s.f.e (gt h.e i) = gt s.g.e (gt k.e i)) :
  ∃ m, medM s x h k = (m, 0) ∧ MOk x (pbG0 s) m ∧ (∀ i : Nat, i < x.n.length → gt (pbN s) (gt m.n i) = ⟨gt h.n i, gt k.n i⟩) ∧ ∀ i : Nat, i < x.e.length → gt (pbE s) (gt m.e i) = ⟨gt h.e i, gt k.e i⟩ := by
 have pb := pb_of e
 have hln := hh.ln
 have hle := hh.le
 have nN : ∀ i : Nat, i < x.n.length → (0 ≤ gt (meetL (pbN s) h.n k.n) i ∧ gt (meetL (pbN s) h.n k.n) i < (pbN s).length) ∧ gt (pbN s) (gt (meetL (pbN s) h.n k.n) i) = ⟨gt h.n i, gt k.n i⟩ := fun i hi => by
  rw [meet_gt (by omega)]
  exact idx_spec ((pbN_in pb.f pb.g (hh.nd i hi).1 (hk.nd i hi).1).2 (cn i hi))
 have nE : ∀ i : Nat, i < x.e.length → (0 ≤ gt (meetL (pbE s) h.e k.e) i ∧ gt (meetL (pbE s) h.e k.e) i < (pbE s).length) ∧ gt (pbE s) (gt (meetL (pbE s) h.e k.e) i) = ⟨gt h.e i, gt k.e i⟩ := fun i hi => by
  rw [meet_gt (by omega)]
  exact idx_spec ((pbE_in pb.f pb.g (hh.ed i hi).1 (hk.ed i hi).1).2 (ce i hi))
 have o1 : meetOk (pbN s) h.n k.n = true := by
  unfold meetOk
  rw [List.all_eq_true]
  intro y hy
  obtain ⟨i, hi, rfl⟩ := mem_gt hy
  rw [meet_len] at hi
  simpa using (nN i (by omega)).1.1
 have o2 : meetOk (pbE s) h.e k.e = true := by
  unfold meetOk
  rw [List.all_eq_true]
  intro y hy
  obtain ⟨i, hi, rfl⟩ := mem_gt hy
  rw [meet_len] at hi
  simpa using (nE i (by omega)).1.1
 have er : medErr s x h k = 0 := by
  unfold medErr
  rw [if_neg (by simp [e]), if_neg (by rw [mok.2 hh]; simp)]
  exact mok.2 hk
 refine ⟨⟨meetL (pbN s) h.n k.n, meetL (pbE s) h.e k.e⟩, ?_, ⟨hh.va, pb.p.va, by simp only [meet_len]; omega, by simp only [meet_len]; omega, fun i hi => ?_, fun i hi => ?_⟩, fun i hi => (nN i hi).2, fun i hi => (nE i hi).2⟩
 ·unfold medM
  rw [if_neg (by simp [er]), if_pos ⟨o1, o2⟩]
 ·obtain ⟨h1, h2⟩ := nN i hi
  refine ⟨by simpa [pbG0] using h1, ?_⟩
  obtain ⟨j, hj, hj2⟩ := gtI h1
  simp only
  rw [hj2] at h2 ⊢
  have : gt (pbG0 s).n j = gt s.b.n (gt (pbN s) j).a := gt_map hj
  rw [this, h2]
  exact (hh.nd i hi).2
 ·obtain ⟨h1, h2⟩ := nE i hi
  refine ⟨by simpa [pbG0] using h1, ?_⟩
  obtain ⟨j, hj, hj2⟩ := gtI h1
  simp only
  rw [hj2] at h2 ⊢
  have hg : gt (pbG0 s).e j = pbEdge s.b.e s.c.e (pbN s) (gt (pbE s) j) := gt_map hj
  obtain ⟨_, b1, b2, b3⟩ := hh.ed i hi
  obtain ⟨_, c1, c2, c3⟩ := hk.ed i hi
  obtain ⟨_, f1, f2⟩ := edge_fits hh.va (i := i) (by omega)
  obtain ⟨p, hp, hp2⟩ := gtI f1
  obtain ⟨q, hq, hq2⟩ := gtI f2
  rw [hg, h2]
  refine ⟨b1, ?_, ?_⟩
  ·rw [hp2] at b2 c2 ⊢
   rw [meet_gt (by omega), b2, c2]
   rfl
  ·rw [hq2] at b3 c3 ⊢
   rw [meet_gt (by omega), b3, c3]
   rfl
def Cs.sw (s : Cs) : Cs := ⟨s.c, s.b, s.d, s.g, s.f⟩
end
section
variable (P : Program) (F : String → Nat)
end
section
variable {P : Program} {F : String → Nat} {α : Type}
theorem chk_pb {s : Cs} (e : pbErr s = 0) {a : G} {h k : Mo} (hh : MOk a s.b h) (hk : MOk a s.c k) (hc : thenM h s.f = thenM k s.g)
  (n1 : ∀ i j : Nat, i < a.n.length → j < a.n.length → gt h.n i = gt h.n j → gt k.n i = gt k.n j → i = j)
  (n2 : ∀ x y : Nat, x < s.b.n.length → y < s.c.n.length → gt s.f.n x = gt s.g.n y → ∃ i : Nat, i < a.n.length ∧ gt h.n i = x ∧ gt k.n i = y)
  (m1 : ∀ i j : Nat, i < a.e.length → j < a.e.length → gt h.e i = gt h.e j → gt k.e i = gt k.e j → i = j)
  (m2 : ∀ x y : Nat, x < s.b.e.length → y < s.c.e.length → gt s.f.e x = gt s.g.e y → ∃ i : Nat, i < a.e.length ∧ gt h.e i = x ∧ gt k.e i = y) : checkM s a h k = true := by
 obtain ⟨m, hm, ok, pn, pe⟩ := med_mk e hh hk (fun i hi => thenM_n hc (by rw [hh.ln]; exact hi) (by rw [hk.ln]; exact hi)) (fun i hi => thenM_e hc (by rw [hh.le]; exact hi) (by rw [hk.le]; exact hi))
 have pb := pb_of e
 have hG : pbG s = pbG0 s := by simp [pbG, e]
 have g1 : (pbG0 s).n.length = (pbN s).length := by simp [pbG0]
 have g2 : (pbG0 s).e.length = (pbE s).length := by simp [pbG0]
 have l1 := ok.ln
 have l2 := ok.le
 unfold checkM
 rw [hm, hG]
 have i1 : injM a (pbG0 s) m = true := (injM_ok ok).2 ⟨nodup_ix fun i j hi hj q => by
   rw [l1] at hi hj
   have h1 := pn i hi
   have h2 := pn j hj
   rw [q] at h1
   rw [h1] at h2
   simp only [Pr.mk.injEq] at h2
   exact n1 i j hi hj h2.1 h2.2, nodup_ix fun i j hi hj q => by
   rw [l2] at hi hj
   have h1 := pe i hi
   have h2 := pe j hj
   rw [q] at h1
   rw [h1] at h2
   simp only [Pr.mk.injEq] at h2
   exact m1 i j hi hj h2.1 h2.2⟩
 have i2 : surM a (pbG0 s) m = true := (surM_ok ok).2 ⟨covers_ix.2 fun j hj => by
   rw [g1] at hj
   obtain ⟨b1, b2, b3⟩ := pbN_bd pb.f pb.g (gt_mem (l := pbN s) (j := (j : Int)) (by omega) (by omega))
   obtain ⟨x, hx, ex⟩ := gtI b1
   obtain ⟨y, hy, ey⟩ := gtI b2
   rw [ex, ey] at b3
   obtain ⟨i, hi, q1, q2⟩ := n2 x y hx hy b3
   refine ⟨i, by omega, ?_⟩
   obtain ⟨t, ht, et⟩ := gtI (ok.nd i hi).1
   rw [et]
   have h1 := pn i hi
   rw [et, q1, q2, ← ex, ← ey] at h1
   rw [gt_inj (pairsL_nodup s.f.n s.g.n) (show t < (pbN s).length by omega) hj h1], covers_ix.2 fun j hj => by
   rw [g2] at hj
   obtain ⟨b1, b2, b3⟩ := pbE_bd pb.f pb.g (gt_mem (l := pbE s) (j := (j : Int)) (by omega) (by omega))
   obtain ⟨x, hx, ex⟩ := gtI b1
   obtain ⟨y, hy, ey⟩ := gtI b2
   rw [ex, ey] at b3
   obtain ⟨i, hi, q1, q2⟩ := m2 x y hx hy b3
   refine ⟨i, by omega, ?_⟩
   obtain ⟨t, ht, et⟩ := gtI (ok.ed i hi).1
   rw [et]
   have h1 := pe i hi
   rw [et, q1, q2, ← ex, ← ey] at h1
   rw [gt_inj (pairsL_nodup s.f.e s.g.e) (show t < (pbE s).length by omega) hj h1]⟩
 simp [i1, i2]
section
variable {a b : G} {m : Mo} (hm : MOk a b m) (hn : m.n.Nodup)
include hm
include hn
end
end
section
variable {na nb nc nd : Nat} {f g h k : List Int}
theorem Sep.monoF (hS : Sep na nb nc f g h k) (hf : f.Nodup) (lf : f.length = na) {x y : Nat} (hx : x < nb) (hy : y < nc) (e : gt h x = gt k y) : ∃ i : Nat, i < na ∧ gt f i = x ∧ gt g i = y := by
 obtain ⟨_, a2, _⟩ := hS (fun z => if idx (fun y => decide (z = y)) f 0 < 0 then -1 else gt g (idx (fun y => decide (z = y)) f 0)) (fun z => z) (fun i hi => by
  rw [idx_nd hf (by omega), if_neg (by omega)])
 have := a2 x y hx hy e
 by_cases c : (x : Int) ∈ f
 ·obtain ⟨i, hi, ei⟩ := mem_gt c
  rw [← ei, idx_nd hf hi, if_neg (by omega)] at this
  exact ⟨i, by omega, ei, this⟩
 ·rw [if_pos (idx_neg.2 c)] at this
  omega
theorem Sep.sw (hS : Sep na nb nc f g h k) : Sep na nc nb g f k h := by
 intro φ ψ he
 obtain ⟨a1, a2, a3⟩ := hS ψ φ fun i hi => (he i hi).symm
 exact ⟨a3, fun i j hi hj e => (a2 j i hj hi e.symm).symm, a1⟩
end
section
variable {s t : Sq}
theorem Psh.pull (h : Psh s) (hi : injM s.a s.b s.f = true ∨ injM s.a s.c s.g = true) (he : pbErr s.up = 0) : checkM s.up s.a s.f s.g = true := by
 have q := h.q
 refine chk_pb he q.f q.g h.c (fun i j hi' hj' e1 e2 => ?_) (fun x y hx hy e => ?_) (fun i j hi' hj' e1 e2 => ?_) (fun x y hx hy e => ?_)
 ·rcases hi with hi | hi
  ·exact gt_inj ((injM_ok q.f).1 hi).1 (by rw [q.f.ln]; exact hi') (by rw [q.f.ln]; exact hj') e1
  ·exact gt_inj ((injM_ok q.g).1 hi).1 (by rw [q.g.ln]; exact hi') (by rw [q.g.ln]; exact hj') e2
 ·rcases hi with hi | hi
  ·exact h.sn.monoF ((injM_ok q.f).1 hi).1 q.f.ln hx hy e
  ·obtain ⟨i, i1, i2, i3⟩ := h.sn.sw.monoF ((injM_ok q.g).1 hi).1 q.g.ln hy hx e.symm
   exact ⟨i, i1, i3, i2⟩
 ·rcases hi with hi | hi
  ·exact gt_inj ((injM_ok q.f).1 hi).2 (by rw [q.f.le]; exact hi') (by rw [q.f.le]; exact hj') e1
  ·exact gt_inj ((injM_ok q.g).1 hi).2 (by rw [q.g.le]; exact hi') (by rw [q.g.le]; exact hj') e2
 ·rcases hi with hi | hi
  ·exact h.se.monoF ((injM_ok q.f).1 hi).2 q.f.le hx hy e
  ·obtain ⟨i, i1, i2, i3⟩ := h.se.sw.monoF ((injM_ok q.g).1 hi).2 q.g.le hy hx e.symm
   exact ⟨i, i1, i3, i2⟩
end
section
variable {na nb nc nd nb' nd' : Nat} {f g h k f' h' k' : List Int}
end
section
variable {s t : Sq} (e1 : t.a = s.b) (e2 : t.c = s.d) (e3 : t.g = s.h)
include e1 e2 e3
end
end Go.Am
