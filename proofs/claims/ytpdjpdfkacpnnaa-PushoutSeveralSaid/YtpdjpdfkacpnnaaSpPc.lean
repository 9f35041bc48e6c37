/- Quotients of graphs: the program's and the reference's functions; coequalizers. -/
import Derived.Test.YtpdjpdfkacpnnaaSpPa
import Derived.Test.YtpdjpdfkacpnnaaSpPb
namespace Go.Am
open Go
set_option linter.unusedVariables false
set_option linter.unusedSimpArgs false
attribute [local irreducible] W
@[go_sem] def c_pushout_quotient_r0 : LL := [qB 3 0,qa 6 [.nl 1,.nl 3],qa 7 [.nl 1,.nl 1],qi 8 0]
@[go_sem] def c_pushout_quotient_r1 (F : Fn) : LL := [qf 25 0 3,ql 26 1 25,qz 27 26,qm 28 1,qc 29 (F "partition.Generate") [.t 27,.t 28],qm 24 29,qx 30 24 0,qx 31 24 1,qm 9 30,qm 10 31]
@[go_sem] def c_pushout_quotient_r2 : LL := [qm 32 10,qk .neq 33 32 0]
@[go_sem] def c_pushout_quotient_r3 : LL := [qu 34 [.nl 1,.nl 3] [],qu 35 [.nl 1,.nl 1] [],qm 36 10,qs 2 6 34,qs 2 7 35,qm 8 36]
@[go_sem] def c_pushout_quotient_r4 (F : Fn) : LL := [qf 38 1 3,ql 39 1 38,qz 40 39,qm 41 2,qc 42 (F "partition.Generate") [.t 40,.t 41],qm 37 42,qx 43 37 0,qx 44 37 1,qm 11 43,qm 10 44]
@[go_sem] def c_pushout_quotient_r5 : LL := [qm 45 10,qk .neq 46 45 0]
@[go_sem] def c_pushout_quotient_r6 : LL := [qu 47 [.nl 1,.nl 3] [],qu 48 [.nl 1,.nl 1] [],qm 49 10,qs 2 6 47,qs 2 7 48,qm 8 49]
@[go_sem] def c_pushout_quotient_r7 (F : Fn) : LL := [qm 51 9,qc 52 (F "partition.Quotient") [.t 51],qm 50 52,qx 53 50 0,qx 54 50 1,qx 55 50 2,qm 12 53,qm 13 54,qm 14 55]
@[go_sem] def c_pushout_quotient_r8 (F : Fn) : LL := [qm 57 11,qc 58 (F "partition.Quotient") [.t 57],qm 56 58,qx 59 56 0,qx 60 56 1,qx 61 56 2,qm 15 59,qm 16 60,qm 17 61]
@[go_sem] def c_pushout_quotient_r9 : LL := [qa 18 [.nl 1,.nl 3]]
@[go_sem] def c_pushout_quotient_r10 : LL := [qm 62 9,qz 63 62,qi 64 0]
@[go_sem] def c_pushout_quotient_r11 : LL := [qo .lss 65 64 63]
@[go_sem] def c_pushout_quotient_r12 : LL := [qm 66 64,qd 67 1 62 64,ql 68 1 67,qm 19 66,qm 20 68]
@[go_sem] def c_pushout_quotient_r13 : LL := [qm 69 20,qm 70 19,qo .eql 71 69 70]
@[go_sem] def c_pushout_quotient_r14 : LL := [qf 72 0 18,ql 73 1 72,qf 74 0 3,ql 75 1 74,qm 76 19,qd 77 1 75 76,ql 78 1 77,⟨some 79,.buildSl 1 8 (.int .i64 (0)) 1 [(0,.t 78)],none⟩,qp 80 1 8 73 79,qf 81 0 18,qs 1 81 80]
@[go_sem] def c_pushout_quotient_r15 : LL := [qk .add 82 64 1,qm 64 82]
def c_pushout_quotient_b16 : LC := (.seq (.reg c_pushout_quotient_r11 [3,6,7,11,12,15,18,62,63,64,65]) (.seq (.cond (.t 65) .skip (.exit 0)) (.seq (.block 1 (.seq (.reg c_pushout_quotient_r12 [3,6,7,11,12,15,18,19,20,62,63,64]) (.seq (.reg c_pushout_quotient_r13 [3,6,7,11,12,15,18,19,62,63,64,71]) (.cond (.t 71) (.dreg [(1,none,[],true),(7,none,[1],false)] c_pushout_quotient_r14 [3,6,7,11,12,15,18,62,63,64]) .skip)))) (.reg c_pushout_quotient_r15 [3,6,7,11,12,15,18,62,63,64]))))
@[go_sem] def c_pushout_quotient_r17 : LL := [qm 83 11,qz 84 83,qi 85 0]
@[go_sem] def c_pushout_quotient_r18 : LL := [qo .lss 86 85 84]
@[go_sem] def c_pushout_quotient_r19 : LL := [qm 87 85,qd 88 1 83 85,ql 89 1 88,qm 21 87,qm 22 89]
@[go_sem] def c_pushout_quotient_r20 : LL := [qm 90 22,qm 91 21,qo .eql 92 90 91]
@[go_sem] def c_pushout_quotient_r21 : LL := [qf 93 1 3,ql 94 1 93,qm 95 21,qd 96 3 94 95,qL 97 3 96,qa 23 [.int .i64 (0),.int .i64 (0),.int .i64 (0)],qs 3 23 97]
@[go_sem] def c_pushout_quotient_r22 : LL := [qf 98 1 18,ql 99 1 98,qf 100 0 23,ql 101 1 100,qm 102 12,qf 103 1 23,ql 104 1 103,qd 105 1 102 104,ql 106 1 105,qm 107 12,qf 108 2 23,ql 109 1 108,qd 110 1 107 109,ql 111 1 110,
 qu 112 [.int .i64 (0),.int .i64 (0),.int .i64 (0)] [(0,1,.t 101),(1,1,.t 106),(2,1,.t 111)],
 ⟨some 113,.buildSl 3 24 (.agg [.int .i64 (0),.int .i64 (0),.int .i64 (0)]) 1 [(0,.t 112)],none⟩,qp 114 3 24 99 113,qf 115 1 18,qs 1 115 114]
@[go_sem] def c_pushout_quotient_r23 : LL := [qk .add 116 85 1,qm 85 116]
def c_pushout_quotient_b24 : LC := (.seq (.reg c_pushout_quotient_r18 [3,6,7,12,15,18,83,84,85,86]) (.seq (.cond (.t 86) .skip (.exit 2)) (.seq (.block 3 (.seq (.reg c_pushout_quotient_r19 [3,6,7,12,15,18,21,22,83,84,85]) (.seq (.reg c_pushout_quotient_r20 [3,6,7,12,15,18,21,83,84,85,92]) (.cond (.t 92) (.seq (.reg c_pushout_quotient_r21 [3,6,7,12,15,18,23,83,84,85]) (.dreg [(1,none,[],true),(15,none,[1],false)] c_pushout_quotient_r22 [3,6,7,12,15,18,83,84,85])) .skip)))) (.reg c_pushout_quotient_r23 [3,6,7,12,15,18,83,84,85]))))
@[go_sem] def c_pushout_quotient_r25 : LL := [qL 117 2 18,qm 118 12,qm 119 15,qu 120 [.nl 1,.nl 1] [(0,1,.t 118),(1,1,.t 119)],qs 2 6 117,qs 2 7 120,qi 8 0]
@[go_sem] def c_pushout_quotient (F : Fn) : LC := (.seq (.reg c_pushout_quotient_r0 [1,2,3,6,7]) (.seq (.reg (c_pushout_quotient_r1 F) [2,3,6,7,9,10]) (.seq (.seq (.reg c_pushout_quotient_r2 [2,3,6,7,9,10,33]) (.cond (.t 33) (.seq (.reg c_pushout_quotient_r3 [6,7,8]) .ret) .skip)) (.seq (.reg (c_pushout_quotient_r4 F) [3,6,7,9,10,11]) (.seq (.seq (.reg c_pushout_quotient_r5 [3,6,7,9,10,11,46]) (.cond (.t 46) (.seq (.reg c_pushout_quotient_r6 [6,7,8]) .ret) .skip)) (.seq (.reg (c_pushout_quotient_r7 F) [3,6,7,9,11,12]) (.seq (.reg (c_pushout_quotient_r8 F) [3,6,7,9,11,12,15]) (.seq (.reg c_pushout_quotient_r9 [3,6,7,9,11,12,15,18]) (.seq (.seq (.reg c_pushout_quotient_r10 [3,6,7,11,12,15,18,62,63,64]) (.block 0 (.loop [3,6,7,11,12,15,18,62,63,64] c_pushout_quotient_b16))) (.seq (.seq (.reg c_pushout_quotient_r17 [3,6,7,12,15,18,83,84,85]) (.block 2 (.loop [3,6,7,12,15,18,83,84,85] c_pushout_quotient_b24))) (.seq (.reg c_pushout_quotient_r25 [6,7,8]) .ret)))))))))))
def h_pushout_quotient : Hints := hOf [] (c_pushout_quotient fun _ => 0)
@[go_sem] def c_pushout_pairs_r0 : LL := [qn 8 2]
@[go_sem] def c_pushout_pairs_r1 : LL := [qn 9 2]
@[go_sem] def c_pushout_pairs_r2 : LL := [qm 11 0,qz 12 11,qi 13 0]
@[go_sem] def c_pushout_pairs_r3 : LL := [qo .lss 14 13 12]
@[go_sem] def c_pushout_pairs_r4 : LL := [qm 15 13,qm 10 15]
@[go_sem] def c_pushout_pairs_r5 : LL := [qm 16 9,qm 17 2,qm 18 0,qm 19 10,qd 20 1 18 19,ql 21 1 20,qd 22 1 17 21,ql 23 1 22,qm 24 3,qm 25 1,qm 26 10,qd 27 1 25 26,ql 28 1 27,qd 29 1 24 28,ql 30 1 29,
 qu 31 [.int .i64 (0),.int .i64 (0)] [(0,1,.t 23),(1,1,.t 30)],⟨some 32,.buildSl 2 16 (.agg [.int .i64 (0),.int .i64 (0)]) 1 [(0,.t 31)],none⟩,qp 33 2 16 16 32,qm 9 33]
@[go_sem] def c_pushout_pairs_r6 : LL := [qk .add 34 13 1,qm 13 34]
def c_pushout_pairs_b7 : LC := (.seq (.reg c_pushout_pairs_r3 [0,1,2,3,9,12,13,14]) (.seq (.cond (.t 14) .skip (.exit 0)) (.seq (.block 1 (.seq (.reg c_pushout_pairs_r4 [0,1,2,3,9,10,12,13]) (.dreg [] c_pushout_pairs_r5 [0,1,2,3,9,12,13]))) (.reg c_pushout_pairs_r6 [0,1,2,3,9,12,13]))))
@[go_sem] def c_pushout_pairs_r8 : LL := [qm 35 9,qm 8 35]
@[go_sem] def c_pushout_pairs (F : Fn) : LC := (.seq (.reg c_pushout_pairs_r0 [0,1,2,3]) (.seq (.reg c_pushout_pairs_r1 [0,1,2,3,9]) (.seq (.seq (.reg c_pushout_pairs_r2 [0,1,2,3,9,12,13]) (.block 0 (.loop [0,1,2,3,9,12,13] c_pushout_pairs_b7))) (.seq (.reg c_pushout_pairs_r8 [8]) .ret))))
def h_pushout_pairs : Hints := hOf [] (c_pushout_pairs fun _ => 0)
@[go_sem] def c_pushout_follow_r0 : LL := [qn 4 1]
@[go_sem] def c_pushout_follow_r1 : LL := [qm 8 0,qz 9 8,⟨some 10,.makeSl 1 8 (.int .i64 (0)) (.t 9),none⟩,qm 5 10]
@[go_sem] def c_pushout_follow_r2 : LL := [qm 11 0,qz 12 11,qi 13 0]
@[go_sem] def c_pushout_follow_r3 : LL := [qo .lss 14 13 12]
@[go_sem] def c_pushout_follow_r4 : LL := [qm 15 13,qd 16 1 11 13,ql 17 1 16,qm 6 15,qm 7 17]
@[go_sem] def c_pushout_follow_r5 : LL := [qm 18 5,qm 19 6,qm 20 1,qm 21 7,qd 22 1 20 21,ql 23 1 22,qd 24 1 18 19,qs 1 24 23]
@[go_sem] def c_pushout_follow_r6 : LL := [qk .add 25 13 1,qm 13 25]
def c_pushout_follow_b7 : LC := (.seq (.reg c_pushout_follow_r3 [1,5,11,12,13,14]) (.seq (.cond (.t 14) .skip (.exit 0)) (.seq (.block 1 (.seq (.reg c_pushout_follow_r4 [1,5,6,7,11,12,13]) (.reg c_pushout_follow_r5 [1,5,11,12,13]))) (.reg c_pushout_follow_r6 [1,5,11,12,13]))))
@[go_sem] def c_pushout_follow_r8 : LL := [qm 26 5,qm 4 26]
@[go_sem] def c_pushout_follow (F : Fn) : LC := (.seq (.reg c_pushout_follow_r0 [0,1]) (.seq (.reg c_pushout_follow_r1 [0,1,5]) (.seq (.seq (.reg c_pushout_follow_r2 [1,5,11,12,13]) (.block 0 (.loop [1,5,11,12,13] c_pushout_follow_b7))) (.seq (.reg c_pushout_follow_r8 [4]) .ret))))
def h_pushout_follow : Hints := hOf [] (c_pushout_follow fun _ => 0)
@[go_sem] def c_pushout_then_r0 : LL := [qB 2 0,qB 3 1,qa 4 [.nl 1,.nl 1]]
@[go_sem] def c_pushout_then_r1 (F : Fn) : LL := [qf 5 0 2,ql 6 1 5,qf 7 0 3,ql 8 1 7,qc 9 (F "pushout.follow") [.t 6,.t 8],qf 10 1 2,ql 11 1 10,qf 12 1 3,ql 13 1 12,qc 14 (F "pushout.follow") [.t 11,.t 13],qu 15 [.nl 1,.nl 1] [(0,1,.t 9),(1,1,.t 14)],
 qs 2 4 15]
@[go_sem] def c_pushout_then (F : Fn) : LC := (.seq (.reg c_pushout_then_r0 [2,3,4]) (.seq (.dreg [(4,none,[],true),(6,(some 32),[4],false),(8,(some 128),[4],false)] (c_pushout_then_r1 F) [4]) .ret))
def h_pushout_then : Hints := hOf [] (c_pushout_then fun _ => 0)
@[go_sem] def c_r10_pairs_r0 : LL := [qn 4 2]
@[go_sem] def c_r10_pairs_r1 : LL := [qn 5 2]
@[go_sem] def c_r10_pairs_r2 : LL := [qi 6 0]
@[go_sem] def c_r10_pairs_r3 : LL := [qm 7 6,qm 8 0,qz 9 8,qo .lss 10 7 9]
@[go_sem] def c_r10_pairs_r4 : LL := [qm 13 5,qm 14 0,qm 15 6,qd 16 1 14 15,ql 17 1 16,qm 18 1,qm 19 6,qd 20 1 18 19,ql 21 1 20,qu 22 [.int .i64 (0),.int .i64 (0)] [(0,1,.t 17),(1,1,.t 21)],
 ⟨some 23,.buildSl 2 16 (.agg [.int .i64 (0),.int .i64 (0)]) 1 [(0,.t 22)],none⟩,qp 24 2 16 13 23,qm 5 24]
@[go_sem] def c_r10_pairs_r5 : LL := [qm 11 6,qk .add 12 11 1,qm 6 12]
def c_r10_pairs_b6 : LC := (.seq (.seq (.reg c_r10_pairs_r3 [0,1,5,6,10]) (.cond (.t 10) .skip (.exit 0))) (.seq (.block 1 (.dreg [] c_r10_pairs_r4 [0,1,5,6])) (.reg c_r10_pairs_r5 [0,1,5,6])))
@[go_sem] def c_r10_pairs_r7 : LL := [qm 25 5,qm 4 25]
@[go_sem] def c_r10_pairs (F : Fn) : LC := (.seq (.reg c_r10_pairs_r0 [0,1]) (.seq (.reg c_r10_pairs_r1 [0,1,5]) (.seq (.seq (.reg c_r10_pairs_r2 [0,1,5,6]) (.block 0 (.loop [0,1,5,6] c_r10_pairs_b6))) (.seq (.reg c_r10_pairs_r7 [4]) .ret))))
def h_r10_pairs : Hints := hOf [] (c_r10_pairs fun _ => 0)
@[go_sem] def c_r10_Quotient_r0 : LL := [qB 3 0,qa 6 [.nl 1,.nl 3],qa 7 [.nl 1,.nl 1]]
@[go_sem] def c_r10_Quotient_r1 (F : Fn) : LL := [qm 18 1,qc 19 (F "r02.Quotient") [.t 18],qm 17 19,qx 20 17 0,qx 21 17 1,qx 22 17 2,qm 8 20,qm 9 21,qm 10 22]
@[go_sem] def c_r10_Quotient_r2 (F : Fn) : LL := [qm 24 2,qc 25 (F "r02.Quotient") [.t 24],qm 23 25,qx 26 23 0,qx 27 23 1,qx 28 23 2,qm 11 26,qm 12 27,qm 13 28]
@[go_sem] def c_r10_Quotient_r3 : LL := [qm 29 9,⟨some 30,.makeSl 1 8 (.int .i64 (0)) (.t 29),none⟩,qm 31 12,⟨some 32,.makeSl 3 24 (.agg [.int .i64 (0),.int .i64 (0),.int .i64 (0)]) (.t 31),none⟩,
 qu 33 [.nl 1,.nl 3] [(0,1,.t 30),(1,1,.t 32)],qa 14 [.nl 1,.nl 3],qs 2 14 33]
@[go_sem] def c_r10_Quotient_r4 : LL := [qi 15 0]
@[go_sem] def c_r10_Quotient_r5 : LL := [qm 34 15,qf 35 0 3,ql 36 1 35,qz 37 36,qo .lss 38 34 37]
@[go_sem] def c_r10_Quotient_r6 : LL := [qf 41 0 14,ql 42 1 41,qm 43 8,qm 44 15,qd 45 1 43 44,ql 46 1 45,qf 47 0 3,ql 48 1 47,qm 49 15,qd 50 1 48 49,ql 51 1 50,qd 52 1 42 46,qs 1 52 51]
@[go_sem] def c_r10_Quotient_r7 : LL := [qm 39 15,qk .add 40 39 1,qm 15 40]
def c_r10_Quotient_b8 : LC := (.seq (.seq (.reg c_r10_Quotient_r5 [3,6,7,8,11,14,15,38]) (.cond (.t 38) .skip (.exit 0))) (.seq (.block 1 (.dreg [] c_r10_Quotient_r6 [3,6,7,8,11,14,15])) (.reg c_r10_Quotient_r7 [3,6,7,8,11,14,15])))
@[go_sem] def c_r10_Quotient_r9 : LL := [qi 16 0]
@[go_sem] def c_r10_Quotient_r10 : LL := [qm 53 16,qf 54 1 3,ql 55 1 54,qz 56 55,qo .lss 57 53 56]
@[go_sem] def c_r10_Quotient_r11 : LL := [qf 60 1 14,ql 61 1 60,qm 62 11,qm 63 16,qd 64 1 62 63,ql 65 1 64,qf 66 1 3,ql 67 1 66,qm 68 16,qd 69 3 67 68,qf 70 0 69,ql 71 1 70,qm 72 8,qf 73 1 3,ql 74 1 73,qm 75 16,
 qd 76 3 74 75,qf 77 1 76,ql 78 1 77,qd 79 1 72 78,ql 80 1 79,qm 81 8,qf 82 1 3,ql 83 1 82,qm 84 16,qd 85 3 83 84,qf 86 2 85,ql 87 1 86,qd 88 1 81 87,ql 89 1 88,
 qu 90 [.int .i64 (0),.int .i64 (0),.int .i64 (0)] [(0,1,.t 71),(1,1,.t 80),(2,1,.t 89)],qd 91 3 61 65,qs 3 91 90]
@[go_sem] def c_r10_Quotient_r12 : LL := [qm 58 16,qk .add 59 58 1,qm 16 59]
def c_r10_Quotient_b13 : LC := (.seq (.seq (.reg c_r10_Quotient_r10 [3,6,7,8,11,14,16,57]) (.cond (.t 57) .skip (.exit 2))) (.seq (.block 3 (.dreg [] c_r10_Quotient_r11 [3,6,7,8,11,14,16])) (.reg c_r10_Quotient_r12 [3,6,7,8,11,14,16])))
@[go_sem] def c_r10_Quotient_r14 : LL := [qL 92 2 14,qm 93 8,qm 94 11,qu 95 [.nl 1,.nl 1] [(0,1,.t 93),(1,1,.t 94)],qs 2 6 92,qs 2 7 95]
@[go_sem] def c_r10_Quotient (F : Fn) : LC := (.seq (.reg c_r10_Quotient_r0 [1,2,3,6,7]) (.seq (.reg (c_r10_Quotient_r1 F) [2,3,6,7,8,9]) (.seq (.reg (c_r10_Quotient_r2 F) [3,6,7,8,9,11,12]) (.seq (.dreg [] c_r10_Quotient_r3 [3,6,7,8,11,14]) (.seq (.seq (.reg c_r10_Quotient_r4 [3,6,7,8,11,14,15]) (.block 0 (.loop [3,6,7,8,11,14,15] c_r10_Quotient_b8))) (.seq (.seq (.reg c_r10_Quotient_r9 [3,6,7,8,11,14,16]) (.block 2 (.loop [3,6,7,8,11,14,16] c_r10_Quotient_b13))) (.seq (.reg c_r10_Quotient_r14 [6,7]) .ret)))))))
def h_r10_Quotient : Hints := hOf [] (c_r10_Quotient fun _ => 0)
@[go_sem] def c_r10_glue_r0 : LL := [qB 3 0,qB 4 1,qB 5 2,qa 6 [.nl 1,.nl 3],qa 7 [.nl 1,.nl 1]]
@[go_sem] def c_r10_glue_r1 (F : Fn) : LL := [qf 13 0 3,ql 14 1 13,qz 15 14,qf 16 0 4,ql 17 1 16,qf 18 0 5,ql 19 1 18,qc 20 (F "r10.pairs") [.t 17,.t 19],qc 21 (F "r02.Generate") [.t 15,.t 20],qm 12 21,qx 22 12 0,qx 23 12 1,qm 8 22,qm 9 23]
@[go_sem] def c_r10_glue_r2 (F : Fn) : LL := [qf 25 1 3,ql 26 1 25,qz 27 26,qf 28 1 4,ql 29 1 28,qf 30 1 5,ql 31 1 30,qc 32 (F "r10.pairs") [.t 29,.t 31],qc 33 (F "r02.Generate") [.t 27,.t 32],qm 24 33,qx 34 24 0,qx 35 24 1,qm 10 34,qm 11 35]
@[go_sem] def c_r10_glue_r3 (F : Fn) : LL := [qL 36 2 3,qm 37 8,qm 38 10,qc 39 (F "r10.Quotient") [.t 36,.t 37,.t 38],qx 40 39 0,qx 41 39 1,qs 2 6 40,qs 2 7 41]
@[go_sem] def c_r10_glue (F : Fn) : LC := (.seq (.reg c_r10_glue_r0 [3,4,5,6,7]) (.seq (.dreg [(1,none,[],true),(7,none,[1],false)] (c_r10_glue_r1 F) [3,4,5,6,7,8]) (.seq (.dreg [(1,none,[],true),(7,none,[1],false)] (c_r10_glue_r2 F) [3,6,7,8,10]) (.seq (.reg (c_r10_glue_r3 F) [6,7]) .ret))))
def h_r10_glue : Hints := hOf [] (c_r10_glue fun _ => 0)
section
variable (P : Program) (F : String → Nat)
def K_pushout_quotient : Prop := ∀ (g : G) (ns es : List Pr), validG g = 0 → ns.length ≤ 1000 → es.length ≤ 1000 → PrIn g.n.length ns → PrIn g.e.length es → FC P (F "pushout.quotient") [gD g, .lst 2 (prs ns), .lst 2 (prs es)] (.tup [gA (quoG g (genL g.n.length ns) (genL g.e.length es)), mA (quoM (genL g.n.length ns) (genL g.e.length es)), .int .i64 0]) []
def K_pushout_pairs : Prop := ∀ (f g l r : List Int), f.length ≤ 1000 → g.length = f.length → (∀ x ∈ f, 0 ≤ x ∧ x < l.length) → (∀ x ∈ g, 0 ≤ x ∧ x < r.length) → FC P (F "pushout.pairs") [.lst 1 (ints f), .lst 1 (ints g), .lst 1 (ints l), .lst 1 (ints r)] (.arr 2 (prs (prL (thr f l) (thr g r) (thr f l).length))) []
def K_pushout_follow : Prop := ∀ l b : List Int, l.length ≤ 1000000 → (∀ x ∈ l, 0 ≤ x ∧ x < b.length) → FC P (F "pushout.follow") [.lst 1 (ints l), .lst 1 (ints b)] (.arr 1 (ints (thr l b))) []
def K_pushout_then : Prop := ∀ m n : Mo, m.n.length ≤ 1000000 → m.e.length ≤ 1000000 → (∀ x ∈ m.n, 0 ≤ x ∧ x < n.n.length) → (∀ x ∈ m.e, 0 ≤ x ∧ x < n.e.length) → FC P (F "pushout.then") [mD m, mD n] (mA (thenM m n)) []
def K_r10_pairs : Prop := ∀ (f g : List Int), f.length ≤ 1000 → g.length = f.length → FC P (F "r10.pairs") [.lst 1 (ints f), .lst 1 (ints g)] (.arr 2 (prs (prL f g f.length))) []
def K_r10_Quotient : Prop := ∀ (g : G) (p r : List Int), validG g = 0 → Cong g p r → FC P (F "r10.Quotient") [gD g, .lst 1 (ints p), .lst 1 (ints r)] (.tup [gA (quoG g p r), mA (quoM p r)]) []
def K_r10_glue : Prop := ∀ (a g : G) (f h : Mo), MOk a g f → MOk a g h → FC P (F "r10.glue") [gD g, mD f, mD h] (.tup [gA (gluG g f h), mA (gluM g f h)]) []
end
section
variable {P : Program} {F : String → Nat} {α : Type}
theorem qN_le {α : Type} [Inhabited α] (l : List α) (p : List Int) : ∀ n : Nat, (qN l p n).length ≤ n
 | 0 => by simp [qN]
 | n + 1 => by rw [qN]; have := qN_le l p n; split <;> simp <;> omega
set_option maxRecDepth 100000 in
set_option maxHeartbeats 4000000 in
theorem w_pushout_quotient (hg : K_partition_Generate P F) (hq : K_partition_Quotient P F) (g : G) (ns es : List Pr) (hv : validG g = 0) (l1 : ns.length ≤ 1000) (l2 : es.length ≤ 1000) (p1 : PrIn g.n.length ns) (p2 : PrIn g.e.length es) :
  W P (c_pushout_quotient F) (Done [.c 6 true 2, .c 7 true 2, .t 8] [] (.tup [gA (quoG g (genL g.n.length ns) (genL g.e.length es)), mA (quoM (genL g.n.length ns) (genL g.e.length es)), .int .i64 0]) []) (init [gD g, .lst 2 (prs ns), .lst 2 (prs es)]) := by
 refine W_of ?_
 have vs := valid_spec hv
 have r1 := hg g.n.length ns (by omega) l1 p1
 have r2 := hg g.e.length es (by omega) l2 p2
 have i1 : Idem (genL g.n.length ns) := gen_idem p1 (Nat.le_refl _)
 have i2 : Idem (genL g.e.length es) := gen_idem p2 (Nat.le_refl _)
 have gl1 : (genL g.n.length ns).length = g.n.length := gen_len _
 have gl2 : (genL g.e.length es).length = g.e.length := gen_len _
 have r3 := hq _ i1 (by omega)
 have r4 := hq _ i2 (by omega)
 have q1 := quo_QS i1 _ (Nat.le_refl _)
 have q2 := quo_QS i2 _ (Nat.le_refl _)
 unfold quoG quoM
 generalize genL g.n.length ns = p at *
 generalize genL g.e.length es = r at *
 have hb1 := q1.b
 have hl1 := q1.l
 have hl2 := q2.l
 clear q1 q2
 rw [gl1] at r3 hb1 hl1 ⊢
 rw [gl2] at r4 hl2 ⊢
 generalize (quo p g.n.length).1 = q at *
 generalize (quo p g.n.length).2 = qc at *
 generalize (quo r g.e.length).1 = qe at *
 generalize (quo r g.e.length).2 = qec at *
 have hef : ∀ i : Nat, i < g.e.length → (0 ≤ (gt g.e i).f ∧ (gt g.e i).f < g.n.length) ∧ (0 ≤ (gt g.e i).o ∧ (gt g.e i).o < g.n.length) := fun i hi => (edge_fits hv (i := i) (by omega)).2
 have hr : ∀ i : Nat, i < g.e.length → gt (reE q g.e) i = ⟨(gt g.e i).t, gt q (gt g.e i).f, gt q (gt g.e i).o⟩ := fun i hi => reE_gt hi
 have hrl := reE_len q g.e
 generalize reE q g.e = re at *
 obtain ⟨gn, ge⟩ := g
 simp only [gD, gA, mA] at *
 simp (disch := omega) only [go_sem, ↓reduceIte]
 refine call_by r1 ?_
 simp (disch := omega) only [go_sem, ↓reduceIte, gl1]
 refine call_by r2 ?_
 simp (disch := omega) only [go_sem, ↓reduceIte, gl1, gl2]
 refine call_by r3 ?_
 simp (disch := omega) only [go_sem, ↓reduceIte, gl1, gl2, hl1]
 refine call_by r4 ?_
 simp (disch := omega) only [go_sem, ↓reduceIte, gl1, gl2, hl1, hl2]
 have lN := qN_le gn p
 refine W_loop (fun i : Nat => ⟨[(3, .pt 0 0), (6, .pt 3 0), (7, .pt 6 0), (11, .sl 7 0 ge.length), (12, .sl 8 0 gn.length), (15, .sl 9 0 ge.length), (18, .pt 12 0), (62, .sl 13 0 gn.length), (63, .int .i64 gn.length), (64, .int .i64 i)],
  [(0, .box [.lst 1 (ints gn), .lst 3 (eds ge)]), (1, .arr 1 []), (2, .arr 3 []), (3, .box [.sl 1 0 0, .sl 2 0 0]), (4, .arr 1 []), (5, .arr 1 []), (6, .box [.sl 4 0 0, .sl 5 0 0]), (7, .arr 1 (ints r)), (8, .arr 1 (ints q)), (9, .arr 1 (ints qe)),
   (10, .arr 1 (ints (qN gn p i))), (11, .arr 3 []), (12, .box [.sl 10 0 (qN gn p i).length, .sl 11 0 0]), (13, .arr 1 (ints p))], 14⟩) (fun i => i ≤ gn.length) (fun i => gn.length - i) 0 ?_ ?_ ?_
 ·simp (disch := omega) only [go_sem, ↓reduceIte, qN, gl1, gl2, hl1, hl2, ints_nil]
  rfl
 ·simp
 ·intro i hi
  have lNi := lN i
  by_cases c : i < gn.length
  ·have g1 : decide ((i : Int) < gn.length) = true := decide_eq_true (by omega)
   have hs : qN gn p (i + 1) = if gt p i = i then qN gn p i ++ [gt gn i] else qN gn p i := rfl
   by_cases d : gt p i = i
   ·have g2 : decide (gt p i = i) = true := decide_eq_true d
    rw [if_pos d] at hs
    simp (disch := omega) only [go_sem, ↓reduceIte, c_pushout_quotient_b16, g1, g2, gl1]
    exact ⟨i + 1, by simp [hs], by omega, by omega⟩
   ·have g2 : decide (gt p i = i) = false := decide_eq_false d
    rw [if_neg d] at hs
    simp (disch := omega) only [go_sem, ↓reduceIte, c_pushout_quotient_b16, g1, g2, gl1]
    exact ⟨i + 1, by simp [hs], by omega, by omega⟩
  ·have g1 : decide ((i : Int) < gn.length) = false := decide_eq_false (by omega)
   obtain rfl : i = gn.length := by omega
   simp (disch := omega) only [go_sem, ↓reduceIte, c_pushout_quotient_b16, g1, gl1, gl2, hl1, hl2]
   generalize qN gn p gn.length = on at *
   have lE := qN_le re r
   refine W_loop (fun i : Nat => ⟨[(3, .pt 0 0), (6, .pt 3 0), (7, .pt 6 0), (12, .sl 7 0 gn.length), (15, .sl 8 0 ge.length), (18, .pt 11 0), (83, .sl 12 0 ge.length), (84, .int .i64 ge.length), (85, .int .i64 i)],
    [(0, .box [.lst 1 (ints gn), .lst 3 (eds ge)]), (1, .arr 1 []), (2, .arr 3 []), (3, .box [.sl 1 0 0, .sl 2 0 0]), (4, .arr 1 []), (5, .arr 1 []), (6, .box [.sl 4 0 0, .sl 5 0 0]), (7, .arr 1 (ints q)), (8, .arr 1 (ints qe)),
     (9, .arr 1 (ints on)), (10, .arr 3 (eds (qN re r i))), (11, .box [.sl 9 0 on.length, .sl 10 0 (qN re r i).length]), (12, .arr 1 (ints r))], 13⟩) (fun i => i ≤ ge.length) (fun i => ge.length - i) 0 ?_ ?_ ?_
   ·simp (disch := omega) only [go_sem, ↓reduceIte, qN, gl1, gl2, hl1, hl2, ints_nil]
    rfl
   ·simp
   ·intro i hi
    have lEi := lE i
    by_cases c : i < ge.length
    ·have g1 : decide ((i : Int) < ge.length) = true := decide_eq_true (by omega)
     have hs : qN re r (i + 1) = if gt r i = i then qN re r i ++ [gt re i] else qN re r i := rfl
     rw [hr i c] at hs
     obtain ⟨⟨f1, f2⟩, o1, o2⟩ := hef i c
     by_cases d : gt r i = i
     ·have g2 : decide (gt r i = i) = true := decide_eq_true d
      rw [if_pos d] at hs
      simp (disch := omega) only [go_sem, ↓reduceIte, c_pushout_quotient_b24, g1, g2, gl2, hl1]
      exact ⟨i + 1, by simp [hs], by omega, by omega⟩
     ·have g2 : decide (gt r i = i) = false := decide_eq_false d
      rw [if_neg d] at hs
      simp (disch := omega) only [go_sem, ↓reduceIte, c_pushout_quotient_b24, g1, g2, gl2]
      exact ⟨i + 1, by simp [hs], by omega, by omega⟩
    ·have g1 : decide ((i : Int) < ge.length) = false := decide_eq_false (by omega)
     obtain rfl : i = ge.length := by omega
     simp (disch := omega) only [go_sem, ↓reduceIte, c_pushout_quotient_b24, g1, gl2, hl1, hl2]
     try rfl
theorem w_pushout_pairs (f g l r : List Int) (hf : f.length ≤ 1000) (hg : g.length = f.length) (h1 : ∀ x ∈ f, 0 ≤ x ∧ x < l.length) (h2 : ∀ x ∈ g, 0 ≤ x ∧ x < r.length) :
  W P (c_pushout_pairs F) (Done [.t 8] [] (.arr 2 (prs (prL (thr f l) (thr g r) (thr f l).length))) []) (init [.lst 1 (ints f), .lst 1 (ints g), .lst 1 (ints l), .lst 1 (ints r)]) := by
 refine W_of ?_
 have e1 := prL_len (thr f l) (thr g r)
 have e0 : prL (thr f l) (thr g r) 0 = [] := rfl
 have e2 : ∀ i : Nat, i < f.length → prL (thr f l) (thr g r) (i + 1) = prL (thr f l) (thr g r) i ++ [⟨gt l (gt f i), gt r (gt g i)⟩] := fun i hi => by rw [prL_succ, thr_gt hi, thr_gt (by omega)]
 rw [thr_len]
 generalize prL (thr f l) (thr g r) = pl at *
 simp (disch := omega) only [go_sem, ↓reduceIte]
 refine W_loop (fun i : Nat => ⟨[(0, .lst 1 (ints f)), (1, .lst 1 (ints g)), (2, .lst 1 (ints l)), (3, .lst 1 (ints r)), (9, .sl 0 0 i), (12, .int .i64 f.length), (13, .int .i64 i)], [(0, .arr 2 (prs (pl i)))], 1⟩) (fun i => i ≤ f.length) (fun i => f.length - i) 0 ?_ ?_ ?_
 ·simp (disch := omega) only [go_sem, ↓reduceIte, e0]
  rfl
 ·simp
 ·intro i hi
  have e1i := e1 i
  by_cases c : i < f.length
  ·have g1 : decide ((i : Int) < f.length) = true := decide_eq_true (by omega)
   have hx := h1 _ (gt_mem (l := f) (j := i) (by omega) (by omega))
   have hy := h2 _ (gt_mem (l := g) (j := i) (by omega) (by omega))
   simp (disch := omega) only [go_sem, ↓reduceIte, c_pushout_pairs_b7, g1, hg, e1i]
   exact ⟨i + 1, by simp [e2 i c], by omega, by omega⟩
  ·have g1 : decide ((i : Int) < f.length) = false := decide_eq_false (by omega)
   obtain rfl : i = f.length := by omega
   simp (disch := omega) only [go_sem, ↓reduceIte, c_pushout_pairs_b7, g1, e1i]
theorem w_r10_pairs (f g : List Int) (hf : f.length ≤ 1000) (hg : g.length = f.length) : W P (c_r10_pairs F) (Done [.t 4] [] (.arr 2 (prs (prL f g f.length))) []) (init [.lst 1 (ints f), .lst 1 (ints g)]) := by
 refine W_of ?_
 have e1 := prL_len f g
 have e0 : prL f g 0 = [] := rfl
 have e2 := prL_succ f g
 generalize prL f g = pl at *
 simp (disch := omega) only [go_sem, ↓reduceIte]
 refine W_loop (fun i : Nat => ⟨[(0, .lst 1 (ints f)), (1, .lst 1 (ints g)), (5, .sl 0 0 i), (6, .int .i64 i)], [(0, .arr 2 (prs (pl i)))], 1⟩) (fun i => i ≤ f.length) (fun i => f.length - i) 0 ?_ ?_ ?_
 ·simp (disch := omega) only [go_sem, ↓reduceIte, e0]
  rfl
 ·simp
 ·intro i hi
  have e1i := e1 i
  by_cases c : i < f.length
  ·have g1 : decide ((i : Int) < f.length) = true := decide_eq_true (by omega)
   simp (disch := omega) only [go_sem, ↓reduceIte, c_r10_pairs_b6, g1, hg, e1i]
   exact ⟨i + 1, by simp [e2 i], by omega, by omega⟩
  ·have g1 : decide ((i : Int) < f.length) = false := decide_eq_false (by omega)
   obtain rfl : i = f.length := by omega
   simp (disch := omega) only [go_sem, ↓reduceIte, c_r10_pairs_b6, g1, e1i]
theorem w_pushout_follow (l b : List Int) (hl : l.length ≤ 1000000) (hb : ∀ x ∈ l, 0 ≤ x ∧ x < b.length) : W P (c_pushout_follow F) (Done [.t 4] [] (.arr 1 (ints (thr l b))) []) (init [.lst 1 (ints l), .lst 1 (ints b)]) := by
 refine W_of ?_
 simp (config := { maxSteps := 1000000 }) (disch := first | omega | (simp only [go_sem]; omega)) only [go_sem, ↓reduceIte]
 refine W_loop (fun i : Nat => ⟨[(1, .lst 1 (ints b)), (5, .sl 0 0 l.length), (11, .lst 1 (ints l)), (12, .int .i64 l.length), (13, .int .i64 i)], [(0, .arr 1 (ints (thr (l.take i) b ++ List.replicate (l.length - i) 0)))], 1⟩) (fun i => i ≤ l.length) (fun i => l.length - i) 0 ?_ ?_ ?_
 ·simp (config := { maxSteps := 1000000 }) (disch := first | omega | (simp only [go_sem]; omega)) only [go_sem, ↓reduceIte]
  rfl
 ·simp
 ·intro i hi
  have el : (thr (l.take i) b).length = i := by rw [thr_len]; simp; omega
  simp (config := { maxSteps := 1000000 }) (disch := first | omega | (simp only [go_sem]; omega)) only [go_sem, ↓reduceIte, c_pushout_follow_b7]
  refine bran_dec (fun c => ?_) (fun c => ?_)
  ·have hx := hb _ (gt_mem (l := l) (j := i) (by omega) (by omega))
   have hf : (thr (l.take i) b ++ List.replicate (l.length - i) 0).set i (gt b (gt l i)) = thr (l.take (i + 1)) b ++ List.replicate (l.length - (i + 1)) 0 := by
    have := fillL (thr (l.take i) b) (gt b (gt l i)) 0 (l.length - (i + 1))
    rw [el, show l.length - (i + 1) + 1 = l.length - i by omega] at this
    rw [this, thr_step (by omega)]
   simp (config := { maxSteps := 1000000 }) (disch := first | omega | (simp only [go_sem]; omega)) only [go_sem, ↓reduceIte, el, hf]
   exact ⟨i + 1, by simp, by omega, by omega⟩
  ·obtain rfl : i = l.length := by omega
   rw [List.take_length] at el
   simp (config := { maxSteps := 1000000 }) (disch := first | omega | (simp only [go_sem]; omega)) only [go_sem, ↓reduceIte, el]
   simp
theorem w_pushout_then (ht : K_pushout_follow P F) (m n : Mo) (h1 : m.n.length ≤ 1000000) (h2 : m.e.length ≤ 1000000) (h3 : ∀ x ∈ m.n, 0 ≤ x ∧ x < n.n.length) (h4 : ∀ x ∈ m.e, 0 ≤ x ∧ x < n.e.length) :
  W P (c_pushout_then F) (Done [.c 4 true 2] [] (mA (thenM m n)) []) (init [mD m, mD n]) := by
 refine W_of ?_
 obtain ⟨mn, me⟩ := m
 obtain ⟨nn, ne⟩ := n
 have r1 := ht mn nn h1 h3
 have r2 := ht me ne h2 h4
 simp (disch := omega) only [go_sem, ↓reduceIte, mD]
 refine call_by r1 ?_
 simp (disch := omega) only [go_sem, ↓reduceIte]
 refine call_by r2 ?_
 simp (disch := omega) only [go_sem, ↓reduceIte, mA, thenM]
set_option maxRecDepth 100000 in
set_option maxHeartbeats 4000000 in
theorem w_r10_Quotient (hq : K_r02_Quotient P F) (g : G) (p r : List Int) (hv : validG g = 0) (hc : Cong g p r) :
  W P (c_r10_Quotient F) (Done [.c 6 true 2, .c 7 true 2] [] (.tup [gA (quoG g p r), mA (quoM p r)]) []) (init [gD g, .lst 1 (ints p), .lst 1 (ints r)]) := by
 refine W_of ?_
 have vs := valid_spec hv
 have hpl := hc.pl
 have hrl := hc.rl
 have r3 := hq p ⟨by omega, hc.ph⟩
 have r4 := hq r ⟨by omega, hc.rh⟩
 have q1 := quo_QS hc.ph _ (Nat.le_refl _)
 have q2 := quo_QS hc.rh _ (Nat.le_refl _)
 have eN : setL g.n (quo p p.length).1 (List.replicate (quo p p.length).2 0) g.n.length = qN g.n p p.length := by
  refine setL_eq (by simp [qN_len]) (fun i hi => ⟨(q1.b i (by omega)).1, qN_all hc.ph (Nat.le_refl _) hc.pt (by omega)⟩) fun k hk => ?_
  rw [qN_len] at hk
  obtain ⟨i, h1, _, h3⟩ := q1.s k hk
  exact ⟨i, by omega, h3⟩
 have eE : setL (reE (quo p p.length).1 g.e) (quo r r.length).1 (List.replicate (quo r r.length).2 ⟨0, 0, 0⟩) g.e.length = qN (reE (quo p p.length).1 g.e) r r.length := by
  refine setL_eq (by simp [qN_len]) (fun i hi => ⟨(q2.b i (by omega)).1, qN_all hc.rh (Nat.le_refl _) hc.rt (by omega)⟩) fun k hk => ?_
  rw [qN_len] at hk
  obtain ⟨i, h1, _, h3⟩ := q2.s k hk
  exact ⟨i, by omega, h3⟩
 unfold quoG quoM
 rw [← eN, ← eE]
 clear eN eE
 have hb1 := q1.b
 have hl1 := q1.l
 have hc1 := q1.c
 have hb2 := q2.b
 have hl2 := q2.l
 have hc2 := q2.c
 clear q1 q2
 rw [hpl] at r3 hb1 hl1 hc1 ⊢
 rw [hrl] at r4 hb2 hl2 hc2 ⊢
 generalize (quo p g.n.length).1 = q at *
 generalize (quo p g.n.length).2 = qc at *
 generalize (quo r g.e.length).1 = qe at *
 generalize (quo r g.e.length).2 = qec at *
 have hef : ∀ i : Nat, i < g.e.length → (0 ≤ (gt g.e i).f ∧ (gt g.e i).f < g.n.length) ∧ (0 ≤ (gt g.e i).o ∧ (gt g.e i).o < g.n.length) := fun i hi => (edge_fits hv (i := i) (by omega)).2
 have hr : ∀ i : Nat, i < g.e.length → gt (reE q g.e) i = ⟨(gt g.e i).t, gt q (gt g.e i).f, gt q (gt g.e i).o⟩ := fun i hi => reE_gt hi
 clear hc
 generalize reE q g.e = re at *
 obtain ⟨gn, ge⟩ := g
 simp only [gD, gA, mA] at *
 have lN : ∀ i, (setL gn q (List.replicate qc 0) i).length = qc := fun i => by rw [setL_len]; simp
 have lE : ∀ i, (setL re qe (List.replicate qec ⟨0, 0, 0⟩) i).length = qec := fun i => by rw [setL_len]; simp
 simp (disch := omega) only [go_sem, ↓reduceIte]
 refine call_by r3 ?_
 simp (disch := omega) only [go_sem, ↓reduceIte, hl1]
 refine call_by r4 ?_
 simp (disch := omega) only [go_sem, ↓reduceIte, hl1, hl2]
 refine W_loop (fun i : Nat => ⟨[(3, .pt 0 0), (6, .pt 3 0), (7, .pt 6 0), (8, .sl 7 0 gn.length), (11, .sl 8 0 ge.length), (14, .pt 11 0), (15, .int .i64 i)],
  [(0, .box [.lst 1 (ints gn), .lst 3 (eds ge)]), (1, .arr 1 []), (2, .arr 3 []), (3, .box [.sl 1 0 0, .sl 2 0 0]), (4, .arr 1 []), (5, .arr 1 []), (6, .box [.sl 4 0 0, .sl 5 0 0]), (7, .arr 1 (ints q)), (8, .arr 1 (ints qe)),
   (9, .arr 1 (ints (setL gn q (List.replicate qc 0) i))), (10, .arr 3 (eds (List.replicate qec ⟨0, 0, 0⟩))), (11, .box [.sl 9 0 qc, .sl 10 0 qec])], 12⟩) (fun i => i ≤ gn.length) (fun i => gn.length - i) 0 ?_ ?_ ?_
 ·simp (disch := omega) only [go_sem, ↓reduceIte, setL, hl1, hl2]
  rfl
 ·simp
 ·intro i hi
  have lNi := lN i
  by_cases c : i < gn.length
  ·have g1 : decide ((i : Int) < gn.length) = true := decide_eq_true (by omega)
   have hs : setL gn q (List.replicate qc 0) (i + 1) = (setL gn q (List.replicate qc 0) i).set (gt q i).toNat (gt gn i) := rfl
   obtain ⟨b1, b2⟩ := hb1 i c
   generalize setL gn q (List.replicate qc 0) i = sn at *
   simp (disch := omega) only [go_sem, ↓reduceIte, c_r10_Quotient_b8, g1, hl1, lNi]
   exact ⟨i + 1, by simp [hs], by omega, by omega⟩
  ·have g1 : decide ((i : Int) < gn.length) = false := decide_eq_false (by omega)
   obtain rfl : i = gn.length := by omega
   simp (disch := omega) only [go_sem, ↓reduceIte, c_r10_Quotient_b8, g1, hl1, hl2, lNi]
   generalize setL gn q (List.replicate qc 0) gn.length = on at *
   refine W_loop (fun i : Nat => ⟨[(3, .pt 0 0), (6, .pt 3 0), (7, .pt 6 0), (8, .sl 7 0 gn.length), (11, .sl 8 0 ge.length), (14, .pt 11 0), (16, .int .i64 i)],
    [(0, .box [.lst 1 (ints gn), .lst 3 (eds ge)]), (1, .arr 1 []), (2, .arr 3 []), (3, .box [.sl 1 0 0, .sl 2 0 0]), (4, .arr 1 []), (5, .arr 1 []), (6, .box [.sl 4 0 0, .sl 5 0 0]), (7, .arr 1 (ints q)), (8, .arr 1 (ints qe)),
     (9, .arr 1 (ints on)), (10, .arr 3 (eds (setL re qe (List.replicate qec ⟨0, 0, 0⟩) i))), (11, .box [.sl 9 0 qc, .sl 10 0 qec])], 12⟩) (fun i => i ≤ ge.length) (fun i => ge.length - i) 0 ?_ ?_ ?_
   ·simp (disch := omega) only [go_sem, ↓reduceIte, setL, hl1, hl2]
    rfl
   ·simp
   ·intro i hi
    have lEi := lE i
    by_cases c : i < ge.length
    ·have g1 : decide ((i : Int) < ge.length) = true := decide_eq_true (by omega)
     have hs : setL re qe (List.replicate qec ⟨0, 0, 0⟩) (i + 1) = (setL re qe (List.replicate qec ⟨0, 0, 0⟩) i).set (gt qe i).toNat (gt re i) := rfl
     rw [hr i c] at hs
     obtain ⟨⟨f1, f2⟩, o1, o2⟩ := hef i c
     obtain ⟨b1, b2⟩ := hb2 i c
     generalize setL re qe (List.replicate qec ⟨0, 0, 0⟩) i = se at *
     simp (disch := omega) only [go_sem, ↓reduceIte, c_r10_Quotient_b13, g1, hl1, hl2, lEi]
     exact ⟨i + 1, by simp [hs], by omega, by omega⟩
    ·have g1 : decide ((i : Int) < ge.length) = false := decide_eq_false (by omega)
     obtain rfl : i = ge.length := by omega
     simp (disch := omega) only [go_sem, ↓reduceIte, c_r10_Quotient_b13, g1, hl1, hl2, lNi, lEi]
     try rfl
theorem w_r10_glue (hp : K_r10_pairs P F) (hg : K_r02_Generate P F) (hq : K_r10_Quotient P F) (a g : G) (f h : Mo) (hf : MOk a g f) (hh : MOk a g h) :
  W P (c_r10_glue F) (Done [.c 6 true 2, .c 7 true 2] [] (.tup [gA (gluG g f h), mA (gluM g f h)]) []) (init [gD g, mD f, mD h]) := by
 refine W_of ?_
 have hc := glu_cong hf hh
 have va := valid_spec hf.va
 have vs := valid_spec hf.vb
 have f1 := hf.ln
 have f2 := hf.le
 have h1 := hh.ln
 have h2 := hh.le
 have p1 := hp f.n h.n (by omega) (by omega)
 have p2 := hp f.e h.e (by omega) (by omega)
 have g1 := hg g.n.length (prL f.n h.n f.n.length) (by omega) (by rw [prL_len]; omega) (glu_prN hf hh)
 have g2 := hg g.e.length (prL f.e h.e f.e.length) (by omega) (by rw [prL_len]; omega) (glu_prE hf hh)
 have r := hq g _ _ hf.vb hc
 have l1 : (gluN g f h).length = g.n.length := gluN_len
 have l2 : (gluE g f h).length = g.e.length := gluE_len
 rw [show genL g.n.length (prL f.n h.n f.n.length) = gluN g f h from rfl] at g1
 rw [show genL g.e.length (prL f.e h.e f.e.length) = gluE g f h from rfl] at g2
 rw [show quoG g (gluN g f h) (gluE g f h) = gluG g f h from rfl, show quoM (gluN g f h) (gluE g f h) = gluM g f h from rfl] at r
 have pl1 := prL_len f.n h.n f.n.length
 have pl2 := prL_len f.e h.e f.e.length
 generalize prL f.n h.n f.n.length = q1 at *
 generalize prL f.e h.e f.e.length = q2 at *
 generalize gluN g f h = gn' at *
 generalize gluE g f h = ge' at *
 generalize gluG g f h = gg at *
 generalize gluM g f h = gm at *
 clear hc vs va hf hh
 obtain ⟨gn, ge⟩ := g
 obtain ⟨fn, fe⟩ := f
 obtain ⟨hn, he⟩ := h
 obtain ⟨ggn, gge⟩ := gg
 obtain ⟨gmn, gme⟩ := gm
 simp only [gD, gA, mD, mA] at *
 simp (disch := omega) only [go_sem, ↓reduceIte]
 refine call_by p1 ?_
 simp (disch := omega) only [go_sem, ↓reduceIte, pl1, prs_length]
 refine call_by g1 ?_
 simp (disch := omega) only [go_sem, ↓reduceIte, l1]
 refine call_by p2 ?_
 simp (disch := omega) only [go_sem, ↓reduceIte, pl2, l1, prs_length]
 refine call_by g2 ?_
 simp (disch := omega) only [go_sem, ↓reduceIte, l1, l2]
 refine call_by r ?_
 simp (disch := omega) only [go_sem, ↓reduceIte]
 rfl
end
@[go_sem] def c_slices_Grow_I_r0 : LL := [qn 4 1]
@[go_sem] def c_slices_Grow_I_r1 : LL := [qm 5 1,qk .lss 6 5 0]
@[go_sem] def c_slices_Grow_I_r2 : LL := [⟨some 7,.bad,none⟩,⟨none,.bad,none⟩]
@[go_sem] def c_slices_Grow_I_r3 : LL := [qm 8 1,qm 9 0,⟨some 10,.cap (.t 9),none⟩,qm 11 0,qz 12 11,qo .sub 13 10 12,qo .sub 14 8 13,qm 1 14]
@[go_sem] def c_slices_Grow_I_r4 : LL := [qm 15 1,qk .gtr 16 15 0]
@[go_sem] def c_slices_Grow_I_r5 : LL := [qm 17 0,qm 18 0,⟨some 19,.cap (.t 18),none⟩,⟨some 20,.slc 1 (.t 17) none (some (.t 19)),none⟩,qm 21 1,⟨some 22,.appz 1 8 (.int .i64 (0)) (.t 20) (.t 21),none⟩,qm 23 0,
 qz 24 23,⟨some 25,.slc 1 (.t 22) none (some (.t 24)),none⟩,qm 0 25]
@[go_sem] def c_slices_Grow_I_r6 : LL := [qm 26 0,qm 4 26]
@[go_sem] def c_slices_Grow_I (F : Fn) : LC := (.seq (.reg c_slices_Grow_I_r0 [0,1]) (.seq (.seq (.reg c_slices_Grow_I_r1 [0,1,6]) (.cond (.t 6) (.reg c_slices_Grow_I_r2 [0,1]) .skip)) (.seq (.seq (.reg c_slices_Grow_I_r3 [0,1]) (.seq (.reg c_slices_Grow_I_r4 [0,1,16]) (.cond (.t 16) (.reg c_slices_Grow_I_r5 [0]) .skip))) (.seq (.reg c_slices_Grow_I_r6 [4]) .ret))))
def h_slices_Grow_I : Hints := hOf [] (c_slices_Grow_I fun _ => 0)
@[go_sem] def c_slices_Concat_I_r0 : LL := [qn 2 1]
@[go_sem] def c_slices_Concat_I_r1 : LL := [qi 3 0]
@[go_sem] def c_slices_Concat_I_r2 : LL := [qm 9 0,qz 10 9,qi 11 0]
@[go_sem] def c_slices_Concat_I_r3 : LL := [qo .lss 12 11 10]
@[go_sem] def c_slices_Concat_I_r4 : LL := [qd 13 1 9 11,ql 14 1 13,qm 5 14]
@[go_sem] def c_slices_Concat_I_r5 : LL := [qm 15 3,qm 16 5,qz 17 16,qo .add 18 15 17,qm 3 18]
@[go_sem] def c_slices_Concat_I_r6 : LL := [qm 19 3,qk .lss 20 19 0]
@[go_sem] def c_slices_Concat_I_r7 : LL := [⟨some 21,.bad,none⟩,⟨none,.bad,none⟩]
@[go_sem] def c_slices_Concat_I_r8 : LL := [qk .add 22 11 1,qm 11 22]
def c_slices_Concat_I_b9 : LC := (.seq (.reg c_slices_Concat_I_r3 [0,3,9,10,11,12]) (.seq (.cond (.t 12) .skip (.exit 0)) (.seq (.block 1 (.seq (.reg c_slices_Concat_I_r4 [0,3,5,9,10,11]) (.seq (.reg c_slices_Concat_I_r5 [0,3,9,10,11]) (.seq (.reg c_slices_Concat_I_r6 [0,3,9,10,11,20]) (.cond (.t 20) (.reg c_slices_Concat_I_r7 [0,3,9,10,11]) .skip))))) (.reg c_slices_Concat_I_r8 [0,3,9,10,11]))))
@[go_sem] def c_slices_Concat_I_r10 (F : Fn) : LL := [qm 23 3,qc 24 (F "slices.Grow.I") [.k (.nl 0),.t 23],qm 6 24]
@[go_sem] def c_slices_Concat_I_r11 : LL := [qm 25 0,qz 26 25,qi 27 0]
@[go_sem] def c_slices_Concat_I_r12 : LL := [qo .lss 28 27 26]
@[go_sem] def c_slices_Concat_I_r13 : LL := [qd 29 1 25 27,ql 30 1 29,qm 8 30]
@[go_sem] def c_slices_Concat_I_r14 : LL := [qm 31 6,qm 32 8,qp 33 1 8 31 32,qm 6 33]
@[go_sem] def c_slices_Concat_I_r15 : LL := [qk .add 34 27 1,qm 27 34]
def c_slices_Concat_I_b16 : LC := (.seq (.reg c_slices_Concat_I_r12 [6,25,26,27,28]) (.seq (.cond (.t 28) .skip (.exit 2)) (.seq (.block 3 (.seq (.reg c_slices_Concat_I_r13 [6,8,25,26,27]) (.reg c_slices_Concat_I_r14 [6,25,26,27]))) (.reg c_slices_Concat_I_r15 [6,25,26,27]))))
@[go_sem] def c_slices_Concat_I_r17 : LL := [qm 35 6,qm 2 35]
@[go_sem] def c_slices_Concat_I (F : Fn) : LC := (.seq (.reg c_slices_Concat_I_r0 [0]) (.seq (.reg c_slices_Concat_I_r1 [0,3]) (.seq (.seq (.reg c_slices_Concat_I_r2 [0,3,9,10,11]) (.block 0 (.loop [0,3,9,10,11] c_slices_Concat_I_b9))) (.seq (.reg (c_slices_Concat_I_r10 F) [0,6]) (.seq (.seq (.reg c_slices_Concat_I_r11 [6,25,26,27]) (.block 2 (.loop [6,25,26,27] c_slices_Concat_I_b16))) (.seq (.reg c_slices_Concat_I_r17 [2]) .ret))))))
def h_slices_Concat_I : Hints := hOf [] (c_slices_Concat_I fun _ => 0)
@[go_sem] def c_graph_Union_r0 : LL := [qB 2 0,qB 3 1,qa 4 [.nl 1,.nl 3],qa 5 [.nl 1,.nl 1],qa 6 [.nl 1,.nl 1],qi 7 0]
@[go_sem] def c_graph_Union_r1 : LL := [qL 18 2 2,qL 19 2 3,⟨some 20,.buildSl 2 48 (.agg [.lst 1 [],.lst 3 []]) 2 [(0,.t 18),(1,.t 19)],none⟩,qz 21 20,qi 22 0]
@[go_sem] def c_graph_Union_r2 : LL := [qo .lss 23 22 21]
@[go_sem] def c_graph_Union_r3 : LL := [qd 24 2 20 22,qL 25 2 24,qa 9 [.nl 1,.nl 3],qs 2 9 25]
@[go_sem] def c_graph_Union_r4 (F : Fn) : LL := [qL 26 2 9,qc 27 (F "graph.Valid") [.t 26],qm 10 27]
@[go_sem] def c_graph_Union_r5 : LL := [qm 28 10,qk .neq 29 28 0]
@[go_sem] def c_graph_Union_r6 : LL := [qu 30 [.nl 1,.nl 3] [],qu 31 [.nl 1,.nl 1] [],qu 32 [.nl 1,.nl 1] [],qm 33 10,qs 2 4 30,qs 2 5 31,qs 2 6 32,qm 7 33]
@[go_sem] def c_graph_Union_r7 : LL := [qk .add 34 22 1,qm 22 34]
def c_graph_Union_b8 (F : Fn) : LC := (.seq (.reg c_graph_Union_r2 [2,3,4,5,6,20,21,22,23]) (.seq (.cond (.t 23) .skip (.exit 0)) (.seq (.block 1 (.seq (.reg c_graph_Union_r3 [2,3,4,5,6,9,20,21,22]) (.seq (.reg (c_graph_Union_r4 F) [2,3,4,5,6,10,20,21,22]) (.seq (.reg c_graph_Union_r5 [2,3,4,5,6,10,20,21,22,29]) (.cond (.t 29) (.seq (.reg c_graph_Union_r6 [4,5,6,7]) .ret) .skip))))) (.reg c_graph_Union_r7 [2,3,4,5,6,20,21,22]))))
@[go_sem] def c_graph_Union_r9 : LL := [qf 35 0 2,ql 36 1 35,qz 37 36,qf 38 1 2,ql 39 1 38,qz 40 39,qm 11 37,qm 12 40]
@[go_sem] def c_graph_Union_r10 : LL := [qm 41 11,qf 42 0 3,ql 43 1 42,qz 44 43,qo .add 45 41 44,qk .gtr 46 45 40,qm 47 46,qg 47 false (qm 48 12),qg 47 false (qf 49 1 3),qg 47 false (ql 50 1 49),qg 47 false (qz 51 50),
 qg 47 false (qo .add 52 48 51),qg 47 false (qk .gtr 53 52 80),qQ 54 47 53]
@[go_sem] def c_graph_Union_r11 : LL := [qu 55 [.nl 1,.nl 3] [],qu 56 [.nl 1,.nl 1] [],qu 57 [.nl 1,.nl 1] [],qs 2 4 55,qs 2 5 56,qs 2 6 57,qi 7 3]
@[go_sem] def c_graph_Union_r12 (F : Fn) : LL := [qf 58 0 2,ql 59 1 58,qf 60 0 3,ql 61 1 60,⟨some 62,.buildSl 1 24 (.lst 1 []) 2 [(0,.t 59),(1,.t 61)],none⟩,qc 63 (F "slices.Concat.I") [.t 62],qf 64 1 2,ql 65 1 64,qc 66 (F "slices.Clone.E") [.t 65],
 qu 67 [.nl 1,.nl 3] [(0,1,.t 63),(1,1,.t 66)],qa 13 [.nl 1,.nl 3],qs 2 13 67]
@[go_sem] def c_graph_Union_r13 : LL := [qf 68 1 3,ql 69 1 68,qz 70 69,qi 71 0]
@[go_sem] def c_graph_Union_r14 : LL := [qo .lss 72 71 70]
@[go_sem] def c_graph_Union_r15 : LL := [qd 73 3 69 71,qL 74 3 73,qa 15 [.int .i64 (0),.int .i64 (0),.int .i64 (0)],qs 3 15 74]
@[go_sem] def c_graph_Union_r16 : LL := [qf 75 1 13,ql 76 1 75,qf 77 0 15,ql 78 1 77,qf 79 1 15,ql 80 1 79,qm 81 11,qo .add 82 80 81,qf 83 2 15,ql 84 1 83,qm 85 11,qo .add 86 84 85,
 qu 87 [.int .i64 (0),.int .i64 (0),.int .i64 (0)] [(0,1,.t 78),(1,1,.t 82),(2,1,.t 86)],
 ⟨some 88,.buildSl 3 24 (.agg [.int .i64 (0),.int .i64 (0),.int .i64 (0)]) 1 [(0,.t 87)],none⟩,qp 89 3 24 76 88,qf 90 1 13,qs 1 90 89]
@[go_sem] def c_graph_Union_r17 : LL := [qk .add 91 71 1,qm 71 91]
def c_graph_Union_b18 : LC := (.seq (.reg c_graph_Union_r14 [3,4,5,6,11,12,13,69,70,71,72]) (.seq (.cond (.t 72) .skip (.exit 2)) (.seq (.block 3 (.seq (.reg c_graph_Union_r15 [3,4,5,6,11,12,13,15,69,70,71]) (.reg c_graph_Union_r16 [3,4,5,6,11,12,13,69,70,71]))) (.reg c_graph_Union_r17 [3,4,5,6,11,12,13,69,70,71]))))
@[go_sem] def c_graph_Union_r19 (F : Fn) : LL := [qm 92 11,qc 93 (F "graph.numbers") [.k (.int .i64 (0)),.t 92],qm 94 12,qc 95 (F "graph.numbers") [.k (.int .i64 (0)),.t 94],qu 96 [.nl 1,.nl 1] [(0,1,.t 93),(1,1,.t 95)],qa 16 [.nl 1,.nl 1],
 qs 2 16 96]
@[go_sem] def c_graph_Union_r20 (F : Fn) : LL := [qm 97 11,qf 98 0 3,ql 99 1 98,qz 100 99,qc 101 (F "graph.numbers") [.t 97,.t 100],qm 102 12,qf 103 1 3,ql 104 1 103,qz 105 104,qc 106 (F "graph.numbers") [.t 102,.t 105],
 qu 107 [.nl 1,.nl 1] [(0,1,.t 101),(1,1,.t 106)],qa 17 [.nl 1,.nl 1],qs 2 17 107]
@[go_sem] def c_graph_Union_r21 : LL := [qL 108 2 13,qL 109 2 16,qL 110 2 17,qs 2 4 108,qs 2 5 109,qs 2 6 110,qi 7 0]
@[go_sem] def c_graph_Union (F : Fn) : LC := (.seq (.reg c_graph_Union_r0 [2,3,4,5,6]) (.seq (.seq (.reg c_graph_Union_r1 [2,3,4,5,6,20,21,22]) (.block 0 (.loop [2,3,4,5,6,20,21,22] (c_graph_Union_b8 F)))) (.seq (.dreg [] c_graph_Union_r9 [2,3,4,5,6,11,12]) (.seq (.seq (.reg c_graph_Union_r10 [2,3,4,5,6,11,12,54]) (.cond (.t 54) (.seq (.reg c_graph_Union_r11 [4,5,6,7]) .ret) .skip)) (.seq (.dreg [(4,none,[],true),(5,none,[],true),(7,(some 64),[4,5],false)] (c_graph_Union_r12 F) [3,4,5,6,11,12,13]) (.seq (.seq (.reg c_graph_Union_r13 [3,4,5,6,11,12,13,69,70,71]) (.block 2 (.loop [3,4,5,6,11,12,13,69,70,71] c_graph_Union_b18))) (.seq (.reg (c_graph_Union_r19 F) [3,4,5,6,11,12,13,16]) (.seq (.dreg [(4,none,[],true),(7,(some 64),[4],false)] (c_graph_Union_r20 F) [4,5,6,13,16,17]) (.seq (.dreg [(1,none,[],true),(2,none,[],true),(3,none,[1,2],false),(4,none,[2],false)] c_graph_Union_r21 [4,5,6,7]) .ret)))))))))
def h_graph_Union : Hints := hOf [] (c_graph_Union fun _ => 0)
@[go_sem] def c_r05_Union_r0 : LL := [qB 2 0,qB 3 1,qa 4 [.nl 1,.nl 3],qa 5 [.nl 1,.nl 1],qa 6 [.nl 1,.nl 1],qi 7 0]
@[go_sem] def c_r05_Union_r1 (F : Fn) : LL := [qL 15 2 2,qc 16 (F "r05.Valid") [.t 15],qm 8 16]
@[go_sem] def c_r05_Union_r2 : LL := [qm 17 8,qk .neq 18 17 0]
@[go_sem] def c_r05_Union_r3 : LL := [qu 19 [.nl 1,.nl 3] [],qu 20 [.nl 1,.nl 1] [],qu 21 [.nl 1,.nl 1] [],qm 22 8,qs 2 4 19,qs 2 5 20,qs 2 6 21,qm 7 22]
@[go_sem] def c_r05_Union_r4 (F : Fn) : LL := [qL 23 2 3,qc 24 (F "r05.Valid") [.t 23],qm 9 24]
@[go_sem] def c_r05_Union_r5 : LL := [qm 25 9,qk .neq 26 25 0]
@[go_sem] def c_r05_Union_r6 : LL := [qu 27 [.nl 1,.nl 3] [],qu 28 [.nl 1,.nl 1] [],qu 29 [.nl 1,.nl 1] [],qm 30 9,qs 2 4 27,qs 2 5 28,qs 2 6 29,qm 7 30]
@[go_sem] def c_r05_Union_r7 : LL := [qf 31 0 2,ql 32 1 31,qz 33 32,qf 34 1 2,ql 35 1 34,qz 36 35,qm 10 33,qm 11 36]
@[go_sem] def c_r05_Union_r8 : LL := [qm 37 10,qf 38 0 3,ql 39 1 38,qz 40 39,qo .add 41 37 40,qk .gtr 42 41 40,qm 43 42,qg 43 false (qm 44 11),qg 43 false (qf 45 1 3),qg 43 false (ql 46 1 45),qg 43 false (qz 47 46),
 qg 43 false (qo .add 48 44 47),qg 43 false (qk .gtr 49 48 80),qQ 50 43 49]
@[go_sem] def c_r05_Union_r9 : LL := [qu 51 [.nl 1,.nl 3] [],qu 52 [.nl 1,.nl 1] [],qu 53 [.nl 1,.nl 1] [],qs 2 4 51,qs 2 5 52,qs 2 6 53,qi 7 3]
@[go_sem] def c_r05_Union_r10 (F : Fn) : LL := [qL 54 2 2,qc 55 (F "r05.Copied") [.t 54],qa 12 [.nl 1,.nl 3],qs 2 12 55]
@[go_sem] def c_r05_Union_r11 : LL := [qf 56 0 12,ql 57 1 56,qf 58 0 3,ql 59 1 58,qp 60 1 8 57 59,qf 61 0 12,qs 1 61 60]
@[go_sem] def c_r05_Union_r12 : LL := [qi 13 0]
@[go_sem] def c_r05_Union_r13 : LL := [qm 62 13,qf 63 1 3,ql 64 1 63,qz 65 64,qo .lss 66 62 65]
@[go_sem] def c_r05_Union_r14 : LL := [qf 69 1 3,ql 70 1 69,qm 71 13,qd 72 3 70 71,qL 73 3 72,qa 14 [.int .i64 (0),.int .i64 (0),.int .i64 (0)],qs 3 14 73]
@[go_sem] def c_r05_Union_r15 : LL := [qf 74 1 12,ql 75 1 74,qf 76 0 14,ql 77 1 76,qf 78 1 14,ql 79 1 78,qm 80 10,qo .add 81 79 80,qf 82 2 14,ql 83 1 82,qm 84 10,qo .add 85 83 84,
 qu 86 [.int .i64 (0),.int .i64 (0),.int .i64 (0)] [(0,1,.t 77),(1,1,.t 81),(2,1,.t 85)],
 ⟨some 87,.buildSl 3 24 (.agg [.int .i64 (0),.int .i64 (0),.int .i64 (0)]) 1 [(0,.t 86)],none⟩,qp 88 3 24 75 87,qf 89 1 12,qs 1 89 88]
@[go_sem] def c_r05_Union_r16 : LL := [qm 67 13,qk .add 68 67 1,qm 13 68]
def c_r05_Union_b17 : LC := (.seq (.seq (.reg c_r05_Union_r13 [3,4,5,6,10,11,12,13,66]) (.cond (.t 66) .skip (.exit 0))) (.seq (.block 1 (.seq (.reg c_r05_Union_r14 [3,4,5,6,10,11,12,13,14]) (.reg c_r05_Union_r15 [3,4,5,6,10,11,12,13]))) (.reg c_r05_Union_r16 [3,4,5,6,10,11,12,13])))
@[go_sem] def c_r05_Union_r18 (F : Fn) : LL := [qL 90 2 12,qm 91 10,qc 92 (F "r05.Numbers") [.k (.int .i64 (0)),.t 91],qm 93 11,qc 94 (F "r05.Numbers") [.k (.int .i64 (0)),.t 93],qu 95 [.nl 1,.nl 1] [(0,1,.t 92),(1,1,.t 94)],qm 96 10,qf 97 0 3,
 ql 98 1 97,qz 99 98,qc 100 (F "r05.Numbers") [.t 96,.t 99],qm 101 11,qf 102 1 3,ql 103 1 102,qz 104 103,qc 105 (F "r05.Numbers") [.t 101,.t 104],qu 106 [.nl 1,.nl 1] [(0,1,.t 100),(1,1,.t 105)],
 qs 2 4 90,qs 2 5 95,qs 2 6 106,qi 7 0]
@[go_sem] def c_r05_Union (F : Fn) : LC := (.seq (.reg c_r05_Union_r0 [2,3,4,5,6]) (.seq (.seq (.reg (c_r05_Union_r1 F) [2,3,4,5,6,8]) (.seq (.reg c_r05_Union_r2 [2,3,4,5,6,8,18]) (.cond (.t 18) (.seq (.reg c_r05_Union_r3 [4,5,6,7]) .ret) .skip))) (.seq (.seq (.reg (c_r05_Union_r4 F) [2,3,4,5,6,9]) (.seq (.reg c_r05_Union_r5 [2,3,4,5,6,9,26]) (.cond (.t 26) (.seq (.reg c_r05_Union_r6 [4,5,6,7]) .ret) .skip))) (.seq (.dreg [] c_r05_Union_r7 [2,3,4,5,6,10,11]) (.seq (.seq (.reg c_r05_Union_r8 [2,3,4,5,6,10,11,50]) (.cond (.t 50) (.seq (.reg c_r05_Union_r9 [4,5,6,7]) .ret) .skip)) (.seq (.reg (c_r05_Union_r10 F) [3,4,5,6,10,11,12]) (.seq (.reg c_r05_Union_r11 [3,4,5,6,10,11,12]) (.seq (.seq (.reg c_r05_Union_r12 [3,4,5,6,10,11,12,13]) (.block 0 (.loop [3,4,5,6,10,11,12,13] c_r05_Union_b17))) (.seq (.dreg [(0,none,[],true),(2,none,[0],true),(4,none,[0],true),(8,(some 128),[2,4],false),(10,none,[0],true),(13,(some 4096),[2,4,10],false),(15,none,[0],false)] (c_r05_Union_r18 F) [4,5,6,7]) .ret)))))))))
def h_r05_Union : Hints := hn [] [(0,[2,3,4,5,6]),(1,[2,3,4,5,6,8]),(2,[2,3,4,5,6,8,18]),(3,[4,5,6,7]),(4,[2,3,4,5,6,9]),(5,[2,3,4,5,6,9,26]),(6,[4,5,6,7]),(7,[2,3,4,5,6,10,11]),(8,[2,3,4,5,6,10,11,50]),(9,[4,5,6,7]),(10,[3,4,5,6,10,11,12]),(11,[3,4,5,6,10,11,12]),(12,[3,4,5,6,10,11,12,13]),(13,[3,4,5,6,10,11,12,13,66]),(14,[3,4,5,6,10,11,12,13]),(15,[3,4,5,6,10,11,12,13,14]),(16,[3,4,5,6,10,11,12,13]),(17,[4,5,6,7])] [(13,[3,4,5,6,10,11,12,13])]
def shE1 (n : Int) (x : E) : E := ⟨x.t, x.f + n, x.o + n⟩
def uniG (a b : G) : G × Mo × Mo × Int :=
 if validG a ≠ 0 then (⟨[], []⟩, ⟨[], []⟩, ⟨[], []⟩, validG a) else if validG b ≠ 0 then (⟨[], []⟩, ⟨[], []⟩, ⟨[], []⟩, validG b)
 else if 40 < a.n.length + b.n.length ∨ 80 < a.e.length + b.e.length then (⟨[], []⟩, ⟨[], []⟩, ⟨[], []⟩, 3)
 else (⟨a.n ++ b.n, a.e ++ b.e.map (shE1 a.n.length)⟩, ⟨nums 0 a.n.length, nums 0 a.e.length⟩, ⟨nums a.n.length b.n.length, nums a.e.length b.e.length⟩, 0)
def uniD (r : G × Mo × Mo × Int) : D := .tup [gA r.1, mA r.2.1, mA r.2.2.1, .int .i64 r.2.2.2]
section
variable (P : Program) (F : String → Nat)
def K_graph_Union : Prop := ∀ a b : G, FC P (F "graph.Union") [gD a, gD b] (uniD (uniG a b)) []
def K_r05_Union : Prop := ∀ a b : G, FC P (F "r05.Union") [gD a, gD b] (uniD (uniG a b)) []
def K_slices_Grow_I : Prop := ∀ n : Nat, n ≤ 10000000000000 → FC P (F "slices.Grow.I") [.nl 1, .int .i64 n] (.arr 1 []) []
def K_slices_Concat_I : Prop := ∀ a b : List Int, a.length ≤ 1000000000000 → b.length ≤ 1000000000000 → FC P (F "slices.Concat.I") [.lst 1 [.lst 1 (ints a), .lst 1 (ints b)]] (.arr 1 (ints (a ++ b))) []
end
section
variable {P : Program} {F : String → Nat} {α : Type}
def catL (a b : List Int) : Nat → List Int
 | 0 => []
 | 1 => a
 | _ => a ++ b
theorem FC.nl {P : Program} {f a b : Nat} {args : List D} {r : D} {outs : List (Nat × D)} (h : FC P f (.nl a :: args) r outs) : FC P f (.nl b :: args) r outs := by
 unfold FC at *
 simp only [DRs, DR] at *
 exact h
theorem w_slices_Grow_I (n : Nat) (hn : n ≤ 10000000000000) : W P (c_slices_Grow_I F) (Done [.t 4] [] (.arr 1 []) []) (init [.nl 1, .int .i64 n]) := by
 refine W_of ?_
 simp (disch := omega) only [go_sem, ↓reduceIte]
 refine bran_dec (fun c => ?_) (fun c => ?_)
 ·omega
 ·simp (disch := omega) only [go_sem, ↓reduceIte]
  refine bran_dec (fun c => ?_) (fun c => ?_)
  ·simp (disch := omega) only [go_sem, ↓reduceIte]
   rw [if_neg (by omega)]
   rfl
  ·simp (disch := omega) only [go_sem, ↓reduceIte]
theorem w_slices_Concat_I (hg : K_slices_Grow_I P F) (a b : List Int) (ha : a.length ≤ 1000000000000) (hb : b.length ≤ 1000000000000) : W P (c_slices_Concat_I F) (Done [.t 2] [] (.arr 1 (ints (a ++ b))) []) (init [.lst 1 [.lst 1 (ints a), .lst 1 (ints b)]]) := by
 refine W_of ?_
 simp (disch := omega) only [go_sem, ↓reduceIte]
 refine W_loop (fun i : Nat => ⟨[(0, D.lst 1 [D.lst 1 (ints a), D.lst 1 (ints b)]), (3, D.int IntKind.i64 (catL a b i).length), (9, D.lst 1 [D.lst 1 (ints a), D.lst 1 (ints b)]), (10, D.int IntKind.i64 (2 : Nat)), (11, D.int IntKind.i64 i)], [], 0⟩) (fun i => i ≤ 2) (fun i => 2 - i) 0 ?_ ?_ ?_
 ·simp (disch := omega) only [go_sem, ↓reduceIte]
  rfl
 ·omega
 ·intro i hi
  have h3 : i = 0 ∨ i = 1 ∨ i = 2 := by omega
  rcases h3 with rfl | rfl | rfl
  ·simp (disch := omega) only [go_sem, ↓reduceIte, c_slices_Concat_I_b9, catL]
   refine bran_dec (fun c => ?_) (fun c => absurd c (by omega))
   simp (disch := omega) only [go_sem, ↓reduceIte, catL]
   refine bran_dec (fun c => by omega) (fun c => ?_)
   simp (disch := omega) only [go_sem, ↓reduceIte]
   exact ⟨1, by simp [catL], by omega, by omega⟩
  ·simp (disch := omega) only [go_sem, ↓reduceIte, c_slices_Concat_I_b9, catL]
   refine bran_dec (fun c => ?_) (fun c => absurd c (by omega))
   simp (disch := omega) only [go_sem, ↓reduceIte, catL]
   refine bran_dec (fun c => by omega) (fun c => ?_)
   simp (disch := omega) only [go_sem, ↓reduceIte]
   exact ⟨2, by simp [catL], by omega, by omega⟩
  ·simp (disch := omega) only [go_sem, ↓reduceIte, c_slices_Concat_I_b9]
   refine bran_dec (fun c => absurd c (by omega)) (fun c => ?_)
   simp (disch := omega) only [go_sem, ↓reduceIte]
   have r := FC.nl (b := 0) (hg (catL a b 2).length (by simp [catL]; omega))
   refine call_by r ?_
   simp (disch := omega) only [go_sem, ↓reduceIte]
   refine W_loop (fun i : Nat => ⟨[(6, D.sl 0 0 (catL a b i).length), (25, D.lst 1 [D.lst 1 (ints a), D.lst 1 (ints b)]), (26, D.int IntKind.i64 (2 : Nat)), (27, D.int IntKind.i64 i)], [(0, Ent.arr 1 (ints (catL a b i)))], 1⟩) (fun i => i ≤ 2) (fun i => 2 - i) 0 ?_ ?_ ?_
   ·simp (disch := omega) only [go_sem, ↓reduceIte]
    rfl
   ·omega
   ·intro i hi
    have h3 : i = 0 ∨ i = 1 ∨ i = 2 := by omega
    rcases h3 with rfl | rfl | rfl
    ·simp (disch := omega) only [go_sem, ↓reduceIte, c_slices_Concat_I_b16, catL]
     refine bran_dec (fun c => ?_) (fun c => absurd c (by omega))
     simp (disch := omega) only [go_sem, ↓reduceIte, catL]
     exact ⟨1, by simp, by omega, by omega⟩
    ·simp (disch := omega) only [go_sem, ↓reduceIte, c_slices_Concat_I_b16, catL]
     refine bran_dec (fun c => ?_) (fun c => absurd c (by omega))
     simp (disch := omega) only [go_sem, ↓reduceIte, catL]
     exact ⟨2, by simp, by omega, by omega⟩
    ·simp (disch := omega) only [go_sem, ↓reduceIte, c_slices_Concat_I_b16, catL]
     refine bran_dec (fun c => absurd c (by omega)) (fun c => ?_)
     simp (disch := omega) only [go_sem, ↓reduceIte, catL]
theorem w_graph_Union (hv : K_graph_Valid P F) (hc : K_slices_Concat_I P F) (hcl : K_slices_Clone_E P F) (hn : K_graph_numbers P F) (a b : G) : W P (c_graph_Union F) (Done [.c 4 true 2, .c 5 true 2, .c 6 true 2, .t 7] [] (uniD (uniG a b)) []) (init [gD a, gD b]) := by
 refine W_of ?_
 obtain ⟨an, ae⟩ := a
 obtain ⟨bn, be⟩ := b
 simp (disch := omega) only [go_sem, ↓reduceIte, gD]
 refine W_loop (fun i : Nat => ⟨[(2, D.pt 0 0), (3, D.pt 1 0), (4, D.pt 4 0), (5, D.pt 7 0), (6, D.pt 10 0), (20, D.sl 11 0 2), (21, D.int IntKind.i64 (2 : Nat)), (22, D.int IntKind.i64 i)],
   [(0, Ent.box [D.lst 1 (ints an), D.lst 3 (eds ae)]), (1, Ent.box [D.lst 1 (ints bn), D.lst 3 (eds be)]),
    (2, Ent.arr 1 []), (3, Ent.arr 3 []), (4, Ent.box [D.sl 2 0 0, D.sl 3 0 0]), (5, Ent.arr 1 []),
    (6, Ent.arr 1 []), (7, Ent.box [D.sl 5 0 0, D.sl 6 0 0]), (8, Ent.arr 1 []), (9, Ent.arr 1 []),
    (10, Ent.box [D.sl 8 0 0, D.sl 9 0 0]),
    (11, Ent.arr 2 [D.agg [D.lst 1 (ints an), D.lst 3 (eds ae)], D.agg [D.lst 1 (ints bn), D.lst 3 (eds be)]])], 12⟩)
  (fun i => i ≤ 2 ∧ (1 ≤ i → validG ⟨an, ae⟩ = 0) ∧ (2 ≤ i → validG ⟨bn, be⟩ = 0)) (fun i => 2 - i) 0 ?_ ?_ ?_
 ·simp (disch := omega) only [go_sem, ↓reduceIte]
  rfl
 ·simp
 ·rintro i ⟨hi, p1, p2⟩
  have h3 : i = 0 ∨ i = 1 ∨ i = 2 := by omega
  rcases h3 with rfl | rfl | rfl
  ·simp (disch := omega) only [go_sem, ↓reduceIte, c_graph_Union_b8]
   refine bran_dec (fun c => ?_) (fun c => absurd c (by omega))
   simp (disch := omega) only [go_sem, ↓reduceIte]
   refine call_by (hv ⟨an, ae⟩) ?_
   simp (disch := omega) only [go_sem, ↓reduceIte]
   refine bran_ndec (fun c1 => ?_) (fun c1 => ?_)
   ·simp (disch := omega) only [go_sem, ↓reduceIte]
    simp [uniG, c1, uniD, gA, mA, ints, eds]
   ·simp (disch := omega) only [go_sem, ↓reduceIte]
    exact ⟨1, by simp, ⟨by omega, fun _ => c1, by omega⟩, by omega⟩
  ·have c1 := p1 (by omega)
   simp (disch := omega) only [go_sem, ↓reduceIte, c_graph_Union_b8]
   refine bran_dec (fun c => ?_) (fun c => absurd c (by omega))
   simp (disch := omega) only [go_sem, ↓reduceIte]
   refine call_by (hv ⟨bn, be⟩) ?_
   simp (disch := omega) only [go_sem, ↓reduceIte]
   refine bran_ndec (fun c2 => ?_) (fun c2 => ?_)
   ·simp (disch := omega) only [go_sem, ↓reduceIte]
    simp [uniG, c1, c2, uniD, gA, mA, ints, eds]
   ·simp (disch := omega) only [go_sem, ↓reduceIte]
    exact ⟨2, by simp, ⟨by omega, fun _ => c1, fun _ => c2⟩, by omega⟩
  ·have c1 := p1 (by omega)
   have c2 := p2 (by omega)
   obtain ⟨v1, v2, v3, v4⟩ := valid_spec c1
   simp only at v1 v2 v3 v4
   obtain ⟨u1, u2, u3, u4⟩ := valid_spec c2
   simp only at u1 u2 u3 u4
   simp (disch := omega) only [go_sem, ↓reduceIte, c_graph_Union_b8]
   refine bran_dec (fun c => absurd c (by omega)) (fun c => ?_)
   simp (disch := omega) only [go_sem, ↓reduceIte]
   have big : 40 < an.length + bn.length ∨ 80 < ae.length + be.length → uniG ⟨an, ae⟩ ⟨bn, be⟩ = (⟨[], []⟩, ⟨[], []⟩, ⟨[], []⟩, 3) := fun h => by
    simp only [uniG, c1, c2, ne_eq, not_true_eq_false, if_false, if_pos h]
   refine bran_dec (fun c3 => ?_) (fun c3 => ?_)
   ·simp (disch := omega) only [go_sem, ↓reduceIte, c3]
    rw [big (by omega)]
    simp [uniD, gA, mA, ints, eds]
   ·simp (disch := omega) only [go_sem, ↓reduceIte, c3]
    refine bran_dec (fun c4 => ?_) (fun c4 => ?_)
    ·simp (disch := omega) only [go_sem, ↓reduceIte]
     rw [big (by omega)]
     simp [uniD, gA, mA, ints, eds]
    ·have hg : uniG ⟨an, ae⟩ ⟨bn, be⟩ = (⟨an ++ bn, ae ++ be.map (shE1 an.length)⟩, ⟨nums 0 an.length, nums 0 ae.length⟩, ⟨nums an.length bn.length, nums ae.length be.length⟩, 0) := by
      simp only [uniG, c1, c2, ne_eq, not_true_eq_false, if_false]
      rw [if_neg (by omega)]
     simp (disch := omega) only [go_sem, ↓reduceIte]
     refine call_by (hc an bn (by omega) (by omega)) ?_
     simp (disch := omega) only [go_sem, ↓reduceIte]
     refine call_by (hcl ae (by omega)) ?_
     simp (disch := omega) only [go_sem, ↓reduceIte]
     refine W_loop (fun i : Nat => ⟨[(3, D.pt 0 0), (4, D.pt 3 0), (5, D.pt 6 0), (6, D.pt 9 0), (11, D.int IntKind.i64 an.length),
       (12, D.int IntKind.i64 ae.length), (13, D.pt 12 0), (69, D.lst 3 (eds be)), (70, D.int IntKind.i64 be.length), (71, D.int IntKind.i64 i)],
      [(0, Ent.box [D.lst 1 (ints bn), D.lst 3 (eds be)]), (1, Ent.arr 1 []), (2, Ent.arr 3 []), (3, Ent.box [D.sl 1 0 0, D.sl 2 0 0]), (4, Ent.arr 1 []), (5, Ent.arr 1 []), (6, Ent.box [D.sl 4 0 0, D.sl 5 0 0]),
       (7, Ent.arr 1 []), (8, Ent.arr 1 []), (9, Ent.box [D.sl 7 0 0, D.sl 8 0 0]), (10, Ent.arr 1 (ints (an ++ bn))), (11, Ent.arr 3 (eds (ae ++ (be.take i).map (shE1 an.length)))),
       (12, Ent.box [D.sl 10 0 (an.length + bn.length), D.sl 11 0 (ae.length + i)])], 13⟩) (fun i => i ≤ be.length) (fun i => be.length - i) 0 ?_ ?_ ?_
     ·simp (disch := omega) only [go_sem, ↓reduceIte]
      simp
     ·omega
     ·intro i hi
      have el : (ae ++ (be.take i).map (shE1 an.length)).length = ae.length + i := by simp; omega
      simp (disch := omega) only [go_sem, ↓reduceIte, c_graph_Union_b18]
      refine bran_dec (fun c => ?_) (fun c => ?_)
      ·have hf := fits_spec (u4 _ (gt_mem (by omega) c))
       simp (disch := omega) only [go_sem, ↓reduceIte, el]
       exact ⟨i + 1, by rw [take_gt (by omega)]; simp [shE1, Nat.add_assoc], by omega, by omega⟩
      ·obtain rfl : i = be.length := by omega
       simp (disch := omega) only [go_sem, ↓reduceIte, el]
       refine call_by (hn _ _ (by omega) (by omega) (by omega)) ?_
       simp (disch := omega) only [go_sem, ↓reduceIte, nums_len]
       refine call_by (hn _ _ (by omega) (by omega) (by omega)) ?_
       simp (disch := omega) only [go_sem, ↓reduceIte, nums_len]
       refine call_by (hn _ _ (by omega) (by omega) (by omega)) ?_
       simp (disch := omega) only [go_sem, ↓reduceIte, nums_len]
       refine call_by (hn _ _ (by omega) (by omega) (by omega)) ?_
       simp (disch := omega) only [go_sem, ↓reduceIte, nums_len, List.length_map]
       rw [hg]
       simp [uniD, gA, mA]
theorem w_r05_Union (hv : K_r05_Valid P F) (hcp : K_r05_Copied P F) (hn : K_r05_Numbers P F) (a b : G) : W P (c_r05_Union F) (Done [.c 4 true 2, .c 5 true 2, .c 6 true 2, .t 7] [] (uniD (uniG a b)) []) (init [gD a, gD b]) := by
 refine W_of ?_
 obtain ⟨an, ae⟩ := a
 obtain ⟨bn, be⟩ := b
 simp (disch := omega) only [go_sem, ↓reduceIte, gD]
 refine call_by (hv ⟨an, ae⟩) ?_
 simp (disch := omega) only [go_sem, ↓reduceIte]
 refine bran_ndec (fun c1 => ?_) (fun c1 => ?_)
 ·simp (disch := omega) only [go_sem, ↓reduceIte]
  simp [uniG, c1, uniD, gA, mA, ints, eds]
 ·obtain ⟨v1, v2, v3, v4⟩ := valid_spec c1
  simp only at v1 v2 v3 v4
  simp (disch := omega) only [go_sem, ↓reduceIte]
  refine call_by (hv ⟨bn, be⟩) ?_
  simp (disch := omega) only [go_sem, ↓reduceIte]
  refine bran_ndec (fun c2 => ?_) (fun c2 => ?_)
  ·simp (disch := omega) only [go_sem, ↓reduceIte]
   simp [uniG, c1, c2, uniD, gA, mA, ints, eds]
  ·obtain ⟨u1, u2, u3, u4⟩ := valid_spec c2
   simp only at u1 u2 u3 u4
   simp (disch := omega) only [go_sem, ↓reduceIte]
   have big : 40 < an.length + bn.length ∨ 80 < ae.length + be.length → uniG ⟨an, ae⟩ ⟨bn, be⟩ = (⟨[], []⟩, ⟨[], []⟩, ⟨[], []⟩, 3) := fun h => by
    simp only [uniG, c1, c2, ne_eq, not_true_eq_false, if_false, if_pos h]
   refine bran_dec (fun c3 => ?_) (fun c3 => ?_)
   ·simp (disch := omega) only [go_sem, ↓reduceIte, c3]
    rw [big (by omega)]
    simp [uniD, gA, mA, ints, eds]
   ·simp (disch := omega) only [go_sem, ↓reduceIte, c3]
    refine bran_dec (fun c4 => ?_) (fun c4 => ?_)
    ·simp (disch := omega) only [go_sem, ↓reduceIte]
     rw [big (by omega)]
     simp [uniD, gA, mA, ints, eds]
    ·have hg : uniG ⟨an, ae⟩ ⟨bn, be⟩ = (⟨an ++ bn, ae ++ be.map (shE1 an.length)⟩, ⟨nums 0 an.length, nums 0 ae.length⟩, ⟨nums an.length bn.length, nums ae.length be.length⟩, 0) := by
      simp only [uniG, c1, c2, ne_eq, not_true_eq_false, if_false]
      rw [if_neg (by omega)]
     have r := hcp ⟨an, ae⟩ (by simp only; omega) (by simp only; omega)
     simp only [gA, gD] at r
     simp (disch := omega) only [go_sem, ↓reduceIte]
     refine call_by r ?_
     simp (disch := omega) only [go_sem, ↓reduceIte]
     refine W_loop (fun i : Nat => ⟨[(3, D.pt 0 0), (4, D.pt 3 0), (5, D.pt 6 0), (6, D.pt 9 0), (10, D.int IntKind.i64 an.length),
       (11, D.int IntKind.i64 ae.length), (12, D.pt 12 0), (13, D.int IntKind.i64 i)],
      [(0, Ent.box [D.lst 1 (ints bn), D.lst 3 (eds be)]), (1, Ent.arr 1 []), (2, Ent.arr 3 []), (3, Ent.box [D.sl 1 0 0, D.sl 2 0 0]), (4, Ent.arr 1 []), (5, Ent.arr 1 []), (6, Ent.box [D.sl 4 0 0, D.sl 5 0 0]),
       (7, Ent.arr 1 []), (8, Ent.arr 1 []), (9, Ent.box [D.sl 7 0 0, D.sl 8 0 0]), (10, Ent.arr 1 (ints (an ++ bn))), (11, Ent.arr 3 (eds (ae ++ (be.take i).map (shE1 an.length)))),
       (12, Ent.box [D.sl 10 0 (an.length + bn.length), D.sl 11 0 (ae.length + i)])], 13⟩) (fun i => i ≤ be.length) (fun i => be.length - i) 0 ?_ ?_ ?_
     ·simp (disch := omega) only [go_sem, ↓reduceIte]
      simp
     ·omega
     ·intro i hi
      have el : (ae ++ (be.take i).map (shE1 an.length)).length = ae.length + i := by simp; omega
      simp (disch := omega) only [go_sem, ↓reduceIte, c_r05_Union_b17]
      refine bran_dec (fun c => ?_) (fun c => ?_)
      ·have hf := fits_spec (u4 _ (gt_mem (by omega) c))
       simp (disch := omega) only [go_sem, ↓reduceIte, el]
       exact ⟨i + 1, by rw [take_gt (by omega)]; simp [shE1, Nat.add_assoc], by omega, by omega⟩
      ·obtain rfl : i = be.length := by omega
       simp (disch := omega) only [go_sem, ↓reduceIte, el]
       refine call_by (hn _ _ (by omega) (by omega) (by omega)) ?_
       simp (disch := omega) only [go_sem, ↓reduceIte, nums_len]
       refine call_by (hn _ _ (by omega) (by omega) (by omega)) ?_
       simp (disch := omega) only [go_sem, ↓reduceIte, nums_len]
       refine call_by (hn _ _ (by omega) (by omega) (by omega)) ?_
       simp (disch := omega) only [go_sem, ↓reduceIte, nums_len]
       refine call_by (hn _ _ (by omega) (by omega) (by omega)) ?_
       simp (disch := omega) only [go_sem, ↓reduceIte, nums_len, List.length_map]
       rw [hg]
       simp [uniD, gA, mA]
end
def unG (a b : G) : G := ⟨a.n ++ b.n, a.e ++ b.e.map (shE1 a.n.length)⟩
def inR (a b : G) : Mo := ⟨nums a.n.length b.n.length, nums a.e.length b.e.length⟩
def Big (b c : G) : Prop := 40 < b.n.length + c.n.length ∨ 80 < b.e.length + c.e.length
instance (b c : G) : Decidable (Big b c) := inferInstanceAs (Decidable (_ ∨ _))
structure Sp where
 a : G
 b : G
 c : G
 f : Mo
 g : Mo
 deriving DecidableEq, Inhabited
def spE (s : Sp) : Int := if validM s.a s.b s.f ≠ 0 then validM s.a s.b s.f else validM s.a s.c s.g
def poErr (s : Sp) : Int := if spE s ≠ 0 then spE s else if Big s.b s.c then 3 else 0
def poF (s : Sp) : Mo := thenM s.f (idM s.b)
def poH (s : Sp) : Mo := thenM s.g (inR s.b s.c)
def poG (s : Sp) : G := gluG (unG s.b s.c) (poF s) (poH s)
def poQ (s : Sp) : Mo := gluM (unG s.b s.c) (poF s) (poH s)
def poP (s : Sp) : Mo := thenM (idM s.b) (poQ s)
def poK (s : Sp) : Mo := thenM (inR s.b s.c) (poQ s)
def poR (s : Sp) : G × Mo × Mo × Int := if poErr s = 0 then (poG s, poP s, poK s, 0) else (g0, m0, m0, poErr s)
section
theorem nums_gtF {f : Int} {n i : Nat} (hi : i < n) : gt (nums f n) i = f + i := by
 unfold nums
 rw [gt_nat (by simp; exact hi)]
 simp
theorem gt_appL {α : Type} [Inhabited α] {l m : List α} {i : Nat} (h : i < l.length) : gt (l ++ m) i = gt l i := by
 rw [gt_nat (by simp; omega), gt_nat h, List.getElem_append_left h]
theorem gt_appR {α : Type} [Inhabited α] {l m : List α} {i : Nat} (h : i < m.length) : gt (l ++ m) ((l.length : Int) + i) = gt m i := by
 rw [show (l.length : Int) + i = ((l.length + i : Nat) : Int) by omega, gt_nat (by simp; omega), gt_nat h, List.getElem_append_right (by omega)]
 simp
theorem thr_assoc {l b c : List Int} (h : ∀ i : Nat, i < l.length → 0 ≤ gt l i ∧ gt l i < b.length) : thr (thr l b) c = thr l (thr b c) :=
 list_ext_gt (by simp only [thr_len]) fun i hi => by
  rw [thr_len, thr_len] at hi
  obtain ⟨k, hk, hk2⟩ := gtI (h i hi)
  rw [thr_gt (by rw [thr_len]; exact hi), thr_gt hi, thr_gt hi, hk2, thr_gt hk]
theorem then_assoc {a b c : G} {m n o : Mo} (hm : MOk a b m) (hn : MOk b c n) : thenM (thenM m n) o = thenM m (thenM n o) := by
 have l1 := hn.ln
 have l2 := hn.le
 refine mo_ext (thr_assoc fun i hi => ?_) (thr_assoc fun i hi => ?_)
 ·rw [l1]; exact (hm.nd i (by rw [← hm.ln]; exact hi)).1
 ·rw [l2]; exact (hm.ed i (by rw [← hm.le]; exact hi)).1
theorem then_okP {a b c : G} {m n : Mo} (hm : MOk a b m) (hn : MOk b c n) : MOk a c (thenM m n) := by
 have l1 := hm.ln
 have l2 := hm.le
 refine ⟨hm.va, hn.vb, by simp only [thenM, thr_len]; exact l1, by simp only [thenM, thr_len]; exact l2, fun i hi => ?_, fun i hi => ?_⟩
 ·obtain ⟨h1, h2⟩ := hm.nd i hi
  obtain ⟨k, hk, hk2⟩ := gtI h1
  simp only [thenM]
  rw [thr_gt (by omega), hk2]
  rw [hk2] at h2
  obtain ⟨h3, h4⟩ := hn.nd k hk
  exact ⟨h3, by rw [h4, h2]⟩
 ·obtain ⟨h1, h2, h3, h4⟩ := hm.ed i hi
  obtain ⟨k, hk, hk2⟩ := gtI h1
  obtain ⟨_, f1, f2⟩ := edge_fits hm.va (i := i) (by omega)
  obtain ⟨p, hp, hp2⟩ := gtI f1
  obtain ⟨q, hq, hq2⟩ := gtI f2
  simp only [thenM]
  rw [thr_gt (by omega), hk2]
  rw [hk2] at h2 h3 h4
  obtain ⟨g1, g2, g3, g4⟩ := hn.ed k hk
  refine ⟨g1, by rw [h2, g2], ?_, ?_⟩
  ·rw [hp2, thr_gt (by omega), ← g3, ← h3, hp2]
  ·rw [hq2, thr_gt (by omega), ← g4, ← h4, hq2]
theorem un_len (b c : G) : (unG b c).n.length = b.n.length + c.n.length ∧ (unG b c).e.length = b.e.length + c.e.length := by simp [unG]
theorem un_ok {b c : G} (vb : validG b = 0) (vc : validG c = 0) (hs : ¬ Big b c) : validG (unG b c) = 0 := by
 have v1 := valid_spec vb
 have v2 := valid_spec vc
 have hl := un_len b c
 unfold Big at hs
 refine valid_mk (by omega) (by omega) (fun x hx => ?_) (fun x hx => ?_)
 ·rcases List.mem_append.1 hx with hx | hx
  ·exact v1.2.2.1 x hx
  ·exact v2.2.2.1 x hx
 ·rw [hl.1]
  rcases List.mem_append.1 hx with hx | hx
  ·have := fits_spec (v1.2.2.2 x hx)
   exact fits_mk this.1 (by omega) (by omega)
  ·obtain ⟨y, hy, rfl⟩ := List.mem_map.1 hx
   have := fits_spec (v2.2.2.2 y hy)
   exact fits_mk this.1 (by simp only [shE1]; omega) (by simp only [shE1]; omega)
theorem inL_ok {b c : G} (vb : validG b = 0) (vc : validG c = 0) (hs : ¬ Big b c) : MOk b (unG b c) (idM b) := by
 have hl := un_len b c
 have hi := idM_ok vb
 refine ⟨vb, un_ok vb vc hs, hi.ln, hi.le, fun i h => ?_, fun i h => ?_⟩
 ·simp only [idM, unG]
  rw [nums_gt h, gt_appL h]
  exact ⟨by simp; omega, rfl⟩
 ·obtain ⟨h1, h2, h3, h4⟩ := hi.ed i h
  simp only [idM, unG] at *
  rw [nums_gt h] at h2 h3 h4 ⊢
  rw [gt_appL h]
  exact ⟨by simp; omega, h2, h3, h4⟩
theorem inR_ok {b c : G} (vb : validG b = 0) (vc : validG c = 0) (hs : ¬ Big b c) : MOk c (unG b c) (inR b c) := by
 have hl := un_len b c
 refine ⟨vc, un_ok vb vc hs, by simp [inR, nums_len], by simp [inR, nums_len], fun i h => ?_, fun i h => ?_⟩
 ·simp only [inR, unG]
  rw [nums_gtF h, gt_appR h]
  exact ⟨by simp; omega, rfl⟩
 ·obtain ⟨_, t2, t3⟩ := edge_fits vc (i := i) (by omega)
  obtain ⟨p, hp, hp2⟩ := gtI t2
  obtain ⟨q, hq, hq2⟩ := gtI t3
  simp only [inR, unG]
  rw [nums_gtF h, gt_appR (by simpa using h), gt_map h]
  refine ⟨by simp; omega, rfl, ?_, ?_⟩
  ·simp only [shE1]
   rw [hp2, nums_gtF hp]; omega
  ·simp only [shE1]
   rw [hq2, nums_gtF hq]; omega
theorem split_i {b c i : Nat} (h : i < b + c) : i < b ∨ ∃ j : Nat, j < c ∧ i = b + j := by
 by_cases x : i < b
 ·exact .inl x
 ·exact .inr ⟨i - b, by omega, by omega⟩
theorem un_one {b c x : G} {u v : Mo} (hu : MOk (unG b c) x u) (hv : MOk (unG b c) x v) (h1 : thenM (idM b) u = thenM (idM b) v) (h2 : thenM (inR b c) u = thenM (inR b c) v) : u = v := by
 have hl := un_len b c
 refine mo_ext (list_ext_gt (by rw [hu.ln, hv.ln]) fun i hi => ?_) (list_ext_gt (by rw [hu.le, hv.le]) fun i hi => ?_)
 ·rw [hu.ln, hl.1] at hi
  rcases split_i hi with h | ⟨j, h, rfl⟩
  ·have := thenM_n h1 (i := i) (by simp [idM, nums_len]; exact h) (by simp [idM, nums_len]; exact h)
   simp only [idM] at this
   rwa [nums_gt h] at this
  ·have := thenM_n h2 (i := j) (by simp [inR, nums_len]; exact h) (by simp [inR, nums_len]; exact h)
   simp only [inR] at this
   rw [nums_gtF h] at this
   rw [show ((b.n.length + j : Nat) : Int) = (b.n.length : Int) + j by omega]
   exact this
 ·rw [hu.le, hl.2] at hi
  rcases split_i hi with h | ⟨j, h, rfl⟩
  ·have := thenM_e h1 (i := i) (by simp [idM, nums_len]; exact h) (by simp [idM, nums_len]; exact h)
   simp only [idM] at this
   rwa [nums_gt h] at this
  ·have := thenM_e h2 (i := j) (by simp [inR, nums_len]; exact h) (by simp [inR, nums_len]; exact h)
   simp only [inR] at this
   rw [nums_gtF h] at this
   rw [show ((b.e.length + j : Nat) : Int) = (b.e.length : Int) + j by omega]
   exact this
structure SOk (s : Sp) : Prop where
 f : MOk s.a s.b s.f
 g : MOk s.a s.c s.g
 s : ¬ Big s.b s.c
theorem spE_ok {s : Sp} : spE s = 0 ↔ MOk s.a s.b s.f ∧ MOk s.a s.c s.g := by
 rw [← mok, ← mok]
 unfold spE
 split
 ·rename_i h; exact ⟨fun e => absurd e h, fun e => absurd e.1 h⟩
 ·rename_i h; exact ⟨fun e => ⟨Decidable.not_not.1 h, e⟩, fun e => e.2⟩
theorem poErr_ok {s : Sp} : poErr s = 0 ↔ SOk s := by
 unfold poErr
 split
 ·rename_i h; exact ⟨fun e => absurd e h, fun e => absurd (spE_ok.2 ⟨e.f, e.g⟩) h⟩
 ·rename_i h
  have h := spE_ok.1 (Decidable.not_not.1 h)
  split
  ·rename_i hb; exact ⟨fun e => absurd e (by decide), fun e => absurd hb e.s⟩
  ·rename_i hb; exact ⟨fun _ => ⟨h.1, h.2, hb⟩, fun _ => rfl⟩
section
variable {s : Sp}
theorem SOk.uF (h : SOk s) : MOk s.a (unG s.b s.c) (poF s) := then_okP h.f (inL_ok h.f.vb h.g.vb h.s)
theorem SOk.uH (h : SOk s) : MOk s.a (unG s.b s.c) (poH s) := then_okP h.g (inR_ok h.f.vb h.g.vb h.s)
theorem SOk.q (h : SOk s) : MOk (unG s.b s.c) (poG s) (poQ s) := glu_ok h.uF h.uH
theorem SOk.p (h : SOk s) : MOk s.b (poG s) (poP s) := then_okP (inL_ok h.f.vb h.g.vb h.s) h.q
theorem SOk.k (h : SOk s) : MOk s.c (poG s) (poK s) := then_okP (inR_ok h.f.vb h.g.vb h.s) h.q
theorem SOk.comm (h : SOk s) : thenM s.f (poP s) = thenM s.g (poK s) := by
 unfold poP poK
 rw [← then_assoc h.f (inL_ok h.f.vb h.g.vb h.s), ← then_assoc h.g (inR_ok h.f.vb h.g.vb h.s)]
 exact glu_eq h.uF h.uH
theorem SOk.one (hs : SOk s) {x : G} {u v : Mo} (hu : MOk (poG s) x u) (hv : MOk (poG s) x v) (h1 : thenM (poP s) u = thenM (poP s) v) (h2 : thenM (poK s) u = thenM (poK s) v) : u = v := by
 have il := inL_ok hs.f.vb hs.g.vb hs.s
 have ir := inR_ok hs.f.vb hs.g.vb hs.s
 refine glu_one hs.uF hs.uH hu hv (un_one (then_okP hs.q hu) (then_okP hs.q hv) ?_ ?_)
 ·exact (then_assoc il hs.q).symm.trans (h1.trans (then_assoc il hs.q))
 ·exact (then_assoc ir hs.q).symm.trans (h2.trans (then_assoc ir hs.q))
theorem SOk.surN (hs : SOk s) {j : Nat} (hj : j < (poG s).n.length) : (∃ i : Nat, i < s.b.n.length ∧ gt (poP s).n i = j) ∨ ∃ i : Nat, i < s.c.n.length ∧ gt (poK s).n i = j := by
 obtain ⟨i, hi, hi2⟩ := glu_surN hs.uF hs.uH hj
 rw [(un_len _ _).1] at hi
 rcases split_i hi with h | ⟨k, h, rfl⟩
 ·refine .inl ⟨i, h, ?_⟩
  simp only [poP, thenM, idM]
  rw [thr_gt (by rw [nums_len]; exact h), nums_gt h]
  exact hi2
 ·refine .inr ⟨k, h, ?_⟩
  simp only [poK, thenM, inR]
  rw [thr_gt (by rw [nums_len]; exact h), nums_gtF h, show (s.b.n.length : Int) + k = ((s.b.n.length + k : Nat) : Int) by omega]
  exact hi2
theorem SOk.surE (hs : SOk s) {j : Nat} (hj : j < (poG s).e.length) : (∃ i : Nat, i < s.b.e.length ∧ gt (poP s).e i = j) ∨ ∃ i : Nat, i < s.c.e.length ∧ gt (poK s).e i = j := by
 obtain ⟨i, hi, hi2⟩ := glu_surE hs.uF hs.uH hj
 rw [(un_len _ _).2] at hi
 rcases split_i hi with h | ⟨k, h, rfl⟩
 ·refine .inl ⟨i, h, ?_⟩
  simp only [poP, thenM, idM]
  rw [thr_gt (by rw [nums_len]; exact h), nums_gt h]
  exact hi2
 ·refine .inr ⟨k, h, ?_⟩
  simp only [poK, thenM, inR]
  rw [thr_gt (by rw [nums_len]; exact h), nums_gtF h, show (s.b.e.length : Int) + k = ((s.b.e.length + k : Nat) : Int) by omega]
  exact hi2
end
end
@[go_sem] def c_pushout_span_r0 : LL := [qB 1 0,qi 2 0]
@[go_sem] def c_pushout_span_r1 (F : Fn) : LL := [qf 4 0 1,qL 5 2 4,qf 6 2 1,qL 7 2 6,qf 8 6 1,qL 9 2 8,qc 10 (F "morphism.Valid") [.t 5,.t 7,.t 9],qm 3 10]
@[go_sem] def c_pushout_span_r2 : LL := [qm 11 3,qk .neq 12 11 0]
@[go_sem] def c_pushout_span_r3 : LL := [qm 13 3,qm 2 13]
@[go_sem] def c_pushout_span_r4 (F : Fn) : LL := [qf 14 0 1,qL 15 2 14,qf 16 4 1,qL 17 2 16,qf 18 8 1,qL 19 2 18,qc 20 (F "morphism.Valid") [.t 15,.t 17,.t 19],qm 2 20]
@[go_sem] def c_pushout_span (F : Fn) : LC := (.seq (.reg c_pushout_span_r0 [1]) (.seq (.seq (.reg (c_pushout_span_r1 F) [1,3]) (.seq (.reg c_pushout_span_r2 [1,3,12]) (.cond (.t 12) (.seq (.reg c_pushout_span_r3 [2]) .ret) .skip))) (.seq (.reg (c_pushout_span_r4 F) [2]) .ret)))
def h_pushout_span : Hints := hOf [] (c_pushout_span fun _ => 0)
@[go_sem] def c_pushout_glue_r0 : LL := [qB 1 0,qa 2 [.nl 1,.nl 3],qa 3 [.nl 1,.nl 1],qa 4 [.nl 1,.nl 1],qi 5 0]
@[go_sem] def c_pushout_glue_r1 (F : Fn) : LL := [qf 13 2 1,qL 14 2 13,qf 15 4 1,qL 16 2 15,qc 17 (F "graph.Union") [.t 14,.t 16],qm 12 17,qx 18 12 0,qx 19 12 1,qx 20 12 2,qx 21 12 3,qa 6 [.nl 1,.nl 3],qa 7 [.nl 1,.nl 1],qa 8 [.nl 1,.nl 1],
 qs 2 6 18,qs 2 7 19,qs 2 8 20,qm 9 21]
@[go_sem] def c_pushout_glue_r2 : LL := [qm 22 9,qk .neq 23 22 0]
@[go_sem] def c_pushout_glue_r3 : LL := [qu 24 [.nl 1,.nl 3] [],qu 25 [.nl 1,.nl 1] [],qu 26 [.nl 1,.nl 1] [],qm 27 9,qs 2 2 24,qs 2 3 25,qs 2 4 26,qm 5 27]
@[go_sem] def c_pushout_glue_r4 (F : Fn) : LL := [qL 29 2 6,qf 30 6 1,qf 31 0 30,ql 32 1 31,qf 33 8 1,qf 34 0 33,ql 35 1 34,qf 36 0 7,ql 37 1 36,qf 38 0 8,ql 39 1 38,qc 40 (F "pushout.pairs") [.t 32,.t 35,.t 37,.t 39],qf 41 6 1,qf 42 1 41,
 ql 43 1 42,qf 44 8 1,qf 45 1 44,ql 46 1 45,qf 47 1 7,ql 48 1 47,qf 49 1 8,ql 50 1 49,qc 51 (F "pushout.pairs") [.t 43,.t 46,.t 48,.t 50],qc 52 (F "pushout.quotient") [.t 29,.t 40,.t 51],qm 28 52,qx 53 28 0,
 qx 54 28 1,qx 55 28 2,qa 10 [.nl 1,.nl 3],qa 11 [.nl 1,.nl 1],qs 2 10 53,qs 2 11 54,qm 9 55]
@[go_sem] def c_pushout_glue_r5 : LL := [qm 56 9,qk .neq 57 56 0]
@[go_sem] def c_pushout_glue_r6 : LL := [qu 58 [.nl 1,.nl 3] [],qu 59 [.nl 1,.nl 1] [],qu 60 [.nl 1,.nl 1] [],qm 61 9,qs 2 2 58,qs 2 3 59,qs 2 4 60,qm 5 61]
@[go_sem] def c_pushout_glue_r7 (F : Fn) : LL := [qL 62 2 10,qL 63 2 7,qL 64 2 11,qc 65 (F "pushout.then") [.t 63,.t 64],qL 66 2 8,qL 67 2 11,qc 68 (F "pushout.then") [.t 66,.t 67],qs 2 2 62,qs 2 3 65,qs 2 4 68,qi 5 0]
@[go_sem] def c_pushout_glue (F : Fn) : LC := (.seq (.reg c_pushout_glue_r0 [1,2,3,4]) (.seq (.reg (c_pushout_glue_r1 F) [1,2,3,4,6,7,8,9]) (.seq (.seq (.reg c_pushout_glue_r2 [1,2,3,4,6,7,8,9,23]) (.cond (.t 23) (.seq (.reg c_pushout_glue_r3 [2,3,4,5]) .ret) .skip)) (.seq (.dreg [(0,none,[],true),(11,none,[0],true),(14,(some 12288),[11],false),(17,(some 98304),[11],false),(19,(some 262144),[11],false),(21,(some 1048576),[11],false),(22,none,[0],false)] (c_pushout_glue_r4 F) [2,3,4,7,8,9,10,11]) (.seq (.seq (.reg c_pushout_glue_r5 [2,3,4,7,8,9,10,11,57]) (.cond (.t 57) (.seq (.reg c_pushout_glue_r6 [2,3,4,5]) .ret) .skip)) (.seq (.dreg [(0,none,[],true),(3,none,[0],true),(4,(some 0),[3],false),(5,(some 0),[3],false),(6,none,[0],false)] (c_pushout_glue_r7 F) [2,3,4,5]) .ret))))))
def h_pushout_glue : Hints := hOf [] (c_pushout_glue fun _ => 0)
@[go_sem] def c_pushout_Of_r0 : LL := [qB 1 0,qa 2 [.nl 1,.nl 3],qa 3 [.nl 1,.nl 1],qa 4 [.nl 1,.nl 1],qi 5 0]
@[go_sem] def c_pushout_Of_r1 (F : Fn) : LL := [qL 7 10 1,qc 8 (F "pushout.span") [.t 7],qm 6 8]
@[go_sem] def c_pushout_Of_r2 : LL := [qm 9 6,qk .neq 10 9 0]
@[go_sem] def c_pushout_Of_r3 : LL := [qu 11 [.nl 1,.nl 3] [],qu 12 [.nl 1,.nl 1] [],qu 13 [.nl 1,.nl 1] [],qm 14 6,qs 2 2 11,qs 2 3 12,qs 2 4 13,qm 5 14]
@[go_sem] def c_pushout_Of_r4 (F : Fn) : LL := [qL 15 10 1,qc 16 (F "pushout.glue") [.t 15],qx 17 16 0,qx 18 16 1,qx 19 16 2,qx 20 16 3,qs 2 2 17,qs 2 3 18,qs 2 4 19,qm 5 20]
@[go_sem] def c_pushout_Of (F : Fn) : LC := (.seq (.reg c_pushout_Of_r0 [1,2,3,4]) (.seq (.seq (.reg (c_pushout_Of_r1 F) [1,2,3,4,6]) (.seq (.reg c_pushout_Of_r2 [1,2,3,4,6,10]) (.cond (.t 10) (.seq (.reg c_pushout_Of_r3 [2,3,4,5]) .ret) .skip))) (.seq (.reg (c_pushout_Of_r4 F) [2,3,4,5]) .ret)))
def h_pushout_Of : Hints := hOf [] (c_pushout_Of fun _ => 0)
@[go_sem] def c_r10_Span_r0 : LL := [qB 1 0,qi 2 0]
@[go_sem] def c_r10_Span_r1 (F : Fn) : LL := [qf 4 0 1,qL 5 2 4,qf 6 2 1,qL 7 2 6,qf 8 6 1,qL 9 2 8,qc 10 (F "r06.Valid") [.t 5,.t 7,.t 9],qm 3 10]
@[go_sem] def c_r10_Span_r2 : LL := [qm 11 3,qk .neq 12 11 0]
@[go_sem] def c_r10_Span_r3 : LL := [qm 13 3,qm 2 13]
@[go_sem] def c_r10_Span_r4 (F : Fn) : LL := [qf 14 0 1,qL 15 2 14,qf 16 4 1,qL 17 2 16,qf 18 8 1,qL 19 2 18,qc 20 (F "r06.Valid") [.t 15,.t 17,.t 19],qm 2 20]
@[go_sem] def c_r10_Span (F : Fn) : LC := (.seq (.reg c_r10_Span_r0 [1]) (.seq (.seq (.reg (c_r10_Span_r1 F) [1,3]) (.seq (.reg c_r10_Span_r2 [1,3,12]) (.cond (.t 12) (.seq (.reg c_r10_Span_r3 [2]) .ret) .skip))) (.seq (.reg (c_r10_Span_r4 F) [2]) .ret)))
def h_r10_Span : Hints := hOf [] (c_r10_Span fun _ => 0)
@[go_sem] def c_r10_Of_r0 : LL := [qB 1 0,qa 2 [.nl 1,.nl 3],qa 3 [.nl 1,.nl 1],qa 4 [.nl 1,.nl 1],qi 5 0]
@[go_sem] def c_r10_Of_r1 (F : Fn) : LL := [qL 13 10 1,qc 14 (F "r10.Span") [.t 13],qm 6 14]
@[go_sem] def c_r10_Of_r2 : LL := [qm 15 6,qk .neq 16 15 0]
@[go_sem] def c_r10_Of_r3 : LL := [qu 17 [.nl 1,.nl 3] [],qu 18 [.nl 1,.nl 1] [],qu 19 [.nl 1,.nl 1] [],qm 20 6,qs 2 2 17,qs 2 3 18,qs 2 4 19,qm 5 20]
@[go_sem] def c_r10_Of_r4 (F : Fn) : LL := [qf 22 2 1,qL 23 2 22,qf 24 4 1,qL 25 2 24,qc 26 (F "r05.Union") [.t 23,.t 25],qm 21 26,qx 27 21 0,qx 28 21 1,qx 29 21 2,qx 30 21 3,qa 7 [.nl 1,.nl 3],qa 8 [.nl 1,.nl 1],qa 9 [.nl 1,.nl 1],
 qs 2 7 27,qs 2 8 28,qs 2 9 29,qm 10 30]
@[go_sem] def c_r10_Of_r5 : LL := [qm 31 10,qk .neq 32 31 0]
@[go_sem] def c_r10_Of_r6 : LL := [qu 33 [.nl 1,.nl 3] [],qu 34 [.nl 1,.nl 1] [],qu 35 [.nl 1,.nl 1] [],qm 36 10,qs 2 2 33,qs 2 3 34,qs 2 4 35,qm 5 36]
@[go_sem] def c_r10_Of_r7 (F : Fn) : LL := [qL 38 2 7,qf 39 6 1,qL 40 2 39,qL 41 2 8,qc 42 (F "r06.Then") [.t 40,.t 41],qf 43 8 1,qL 44 2 43,qL 45 2 9,qc 46 (F "r06.Then") [.t 44,.t 45],qc 47 (F "r10.glue") [.t 38,.t 42,.t 46],qm 37 47,qx 48 37 0,
 qx 49 37 1,qa 11 [.nl 1,.nl 3],qa 12 [.nl 1,.nl 1],qs 2 11 48,qs 2 12 49]
@[go_sem] def c_r10_Of_r8 (F : Fn) : LL := [qL 50 2 11,qL 51 2 8,qL 52 2 12,qc 53 (F "r06.Then") [.t 51,.t 52],qL 54 2 9,qL 55 2 12,qc 56 (F "r06.Then") [.t 54,.t 55],qs 2 2 50,qs 2 3 53,qs 2 4 56,qi 5 0]
@[go_sem] def c_r10_Of (F : Fn) : LC := (.seq (.reg c_r10_Of_r0 [1,2,3,4]) (.seq (.seq (.reg (c_r10_Of_r1 F) [1,2,3,4,6]) (.seq (.reg c_r10_Of_r2 [1,2,3,4,6,16]) (.cond (.t 16) (.seq (.reg c_r10_Of_r3 [2,3,4,5]) .ret) .skip))) (.seq (.reg (c_r10_Of_r4 F) [1,2,3,4,7,8,9,10]) (.seq (.seq (.reg c_r10_Of_r5 [1,2,3,4,7,8,9,10,32]) (.cond (.t 32) (.seq (.reg c_r10_Of_r6 [2,3,4,5]) .ret) .skip)) (.seq (.dreg [(0,none,[],true),(4,none,[0],true),(6,(some 32),[4],false),(7,(some 0),[4],false),(8,none,[0],false)] (c_r10_Of_r7 F) [2,3,4,8,9,11,12]) (.seq (.dreg [(0,none,[],true),(3,none,[0],true),(4,(some 0),[3],false),(5,(some 0),[3],false),(6,none,[0],false)] (c_r10_Of_r8 F) [2,3,4,5]) .ret))))))
def h_r10_Of : Hints := hOf [] (c_r10_Of fun _ => 0)
def spD (s : Sp) : D := .agg [.lst 1 (ints s.a.n), .lst 3 (eds s.a.e), .lst 1 (ints s.b.n), .lst 3 (eds s.b.e), .lst 1 (ints s.c.n), .lst 3 (eds s.c.e), .lst 1 (ints s.f.n), .lst 1 (ints s.f.e), .lst 1 (ints s.g.n), .lst 1 (ints s.g.e)]
def poD (r : G × Mo × Mo × Int) : D := .tup [gA r.1, mA r.2.1, mA r.2.2.1, .int .i64 r.2.2.2]
def Sp.sm (s : Sp) : Prop := s.f.sm ∧ s.g.sm
section
variable (P : Program) (F : String → Nat)
def K_pushout_span : Prop := ∀ s : Sp, FC P (F "pushout.span") [spD s] (.int .i64 (spE s)) []
def K_r10_Span : Prop := ∀ s : Sp, FC P (F "r10.Span") [spD s] (.int .i64 (spE s)) []
def K_pushout_glue : Prop := ∀ s : Sp, spE s = 0 → FC P (F "pushout.glue") [spD s] (poD (poR s)) []
def K_pushout_Of : Prop := ∀ s : Sp, FC P (F "pushout.Of") [spD s] (poD (poR s)) []
def K_r10_Of : Prop := ∀ s : Sp, FC P (F "r10.Of") [spD s] (poD (poR s)) []
end
section
variable {P : Program} {F : String → Nat} {α : Type}
theorem w_pushout_span (hv : K_morphism_Valid P F) (s : Sp) : W P (c_pushout_span F) (Done [.t 2] [] (.int .i64 (spE s)) []) (init [spD s]) := by
 refine W_of ?_
 have r1 := hv s.a s.b s.f
 have r2 := hv s.a s.c s.g
 have : spE s = if validM s.a s.b s.f ≠ 0 then validM s.a s.b s.f else validM s.a s.c s.g := rfl
 rw [this]
 generalize validM s.a s.b s.f = u at *
 generalize validM s.a s.c s.g = v at *
 simp only [gD, mD] at r1 r2
 simp (disch := omega) only [go_sem, ↓reduceIte, spD]
 refine call_by r1 ?_
 simp (disch := omega) only [go_sem, ↓reduceIte]
 refine bran_ndec (fun c => ?_) (fun c => ?_)
 ·simp (disch := omega) only [go_sem, ↓reduceIte]
  try simp [c]
 ·subst c
  simp (disch := omega) only [go_sem, ↓reduceIte]
  refine call_by r2 ?_
  simp (disch := omega) only [go_sem, ↓reduceIte]
  try simp
theorem w_r10_Span (hv : K_r06_Valid P F) (s : Sp) : W P (c_r10_Span F) (Done [.t 2] [] (.int .i64 (spE s)) []) (init [spD s]) := by
 refine W_of ?_
 have r1 := hv s.a s.b s.f
 have r2 := hv s.a s.c s.g
 have : spE s = if validM s.a s.b s.f ≠ 0 then validM s.a s.b s.f else validM s.a s.c s.g := rfl
 rw [this]
 generalize validM s.a s.b s.f = u at *
 generalize validM s.a s.c s.g = v at *
 simp only [gD, mD] at r1 r2
 simp (disch := omega) only [go_sem, ↓reduceIte, spD]
 refine call_by r1 ?_
 simp (disch := omega) only [go_sem, ↓reduceIte]
 refine bran_ndec (fun c => ?_) (fun c => ?_)
 ·simp (disch := omega) only [go_sem, ↓reduceIte]
  try simp [c]
 ·subst c
  simp (disch := omega) only [go_sem, ↓reduceIte]
  refine call_by r2 ?_
  simp (disch := omega) only [go_sem, ↓reduceIte]
  try simp
theorem uniG_ok {b c : G} (vb : validG b = 0) (vc : validG c = 0) : uniG b c = if Big b c then (g0, m0, m0, 3) else (unG b c, idM b, inR b c, 0) := by
 unfold uniG
 rw [if_neg (by simp [vb]), if_neg (by simp [vc])]
 by_cases hb : Big b c
 ·rw [if_pos hb]
  unfold Big at hb
  rw [if_pos hb]; rfl
 ·rw [if_neg hb]
  unfold Big at hb
  rw [if_neg hb]; rfl
theorem poR_ok {s : Sp} (h : SOk s) : poR s = (poG s, poP s, poK s, 0) := by unfold poR; rw [if_pos (poErr_ok.2 h)]
theorem poR_big {s : Sp} (h : spE s = 0) (hb : Big s.b s.c) : poR s = (g0, m0, m0, 3) := by
 have : poErr s = 3 := by unfold poErr; rw [if_neg (by simp [h]), if_pos hb]
 unfold poR
 rw [this]; rfl
set_option maxHeartbeats 1000000 in
theorem w_pushout_glue (hu : K_graph_Union P F) (hp : K_pushout_pairs P F) (hq : K_pushout_quotient P F) (ht : K_pushout_then P F) (s : Sp) (he : spE s = 0) : W P (c_pushout_glue F) (Done [.c 2 true 2, .c 3 true 2, .c 4 true 2, .t 5] [] (poD (poR s)) []) (init [spD s]) := by
 refine W_of ?_
 obtain ⟨hf, hg⟩ := spE_ok.1 he
 have r1 := hu s.b s.c
 rw [uniG_ok hf.vb hg.vb] at r1
 by_cases hb : Big s.b s.c
 ·rw [if_pos hb] at r1
  rw [poR_big he hb]
  simp only [uniD, gD, gA, mA, g0, m0] at r1
  simp (disch := omega) only [go_sem, ↓reduceIte, spD]
  refine call_by r1 ?_
  simp (disch := omega) only [go_sem, ↓reduceIte]
  refine bran_ndec (fun _ => ?_) (fun h => absurd h (by decide))
  simp (disch := omega) only [go_sem, ↓reduceIte]
  simp [poD, g0, m0, gA, mA, ints, eds]
 ·rw [if_neg hb] at r1
  have hs : SOk s := ⟨hf, hg, hb⟩
  rw [poR_ok hs]
  have vu := un_ok hf.vb hg.vb hb
  have il := inL_ok hf.vb hg.vb hb
  have ir := inR_ok hf.vb hg.vb hb
  have va := valid_spec hf.va
  have vb := valid_spec hf.vb
  have vc := valid_spec hg.vb
  have ln := hf.ln
  have le := hf.le
  have mn := hg.ln
  have me := hg.le
  have bf := validM_bd (mok.2 hf)
  have bg := validM_bd (mok.2 hg)
  have bi := validM_bd (mok.2 il)
  have br := validM_bd (mok.2 ir)
  have iln := il.ln
  have ile := il.le
  have irn := ir.ln
  have ire := ir.le
  have p1 := hp s.f.n s.g.n (idM s.b).n (inR s.b s.c).n (by omega) (by omega) (by rw [iln]; exact bf.1) (by rw [irn]; exact bg.1)
  have p2 := hp s.f.e s.g.e (idM s.b).e (inR s.b s.c).e (by omega) (by omega) (by rw [ile]; exact bf.2) (by rw [ire]; exact bg.2)
  have q := hq (unG s.b s.c) (prL (poF s).n (poH s).n (poF s).n.length) (prL (poF s).e (poH s).e (poF s).e.length) vu
   (by rw [prL_len]; simp only [poF, thenM, thr_len]; omega) (by rw [prL_len]; simp only [poF, thenM, thr_len]; omega) (glu_prN hs.uF hs.uH) (glu_prE hs.uF hs.uH)
  rw [show quoG (unG s.b s.c) (genL (unG s.b s.c).n.length (prL (poF s).n (poH s).n (poF s).n.length)) (genL (unG s.b s.c).e.length (prL (poF s).e (poH s).e (poF s).e.length)) = poG s from rfl,
   show quoM (genL (unG s.b s.c).n.length (prL (poF s).n (poH s).n (poF s).n.length)) (genL (unG s.b s.c).e.length (prL (poF s).e (poH s).e (poF s).e.length)) = poQ s from rfl] at q
  rw [show prL (thr s.f.n (idM s.b).n) (thr s.g.n (inR s.b s.c).n) (thr s.f.n (idM s.b).n).length = prL (poF s).n (poH s).n (poF s).n.length from rfl] at p1
  rw [show prL (thr s.f.e (idM s.b).e) (thr s.g.e (inR s.b s.c).e) (thr s.f.e (idM s.b).e).length = prL (poF s).e (poH s).e (poF s).e.length from rfl] at p2
  have qn := hs.q.ln
  have qe := hs.q.le
  have t1 := ht (idM s.b) (poQ s) (by omega) (by omega) (by rw [qn]; exact bi.1) (by rw [qe]; exact bi.2)
  have t2 := ht (inR s.b s.c) (poQ s) (by omega) (by omega) (by rw [qn]; exact br.1) (by rw [qe]; exact br.2)
  rw [show thenM (idM s.b) (poQ s) = poP s from rfl] at t1
  rw [show thenM (inR s.b s.c) (poQ s) = poK s from rfl] at t2
  generalize prL (poF s).n (poH s).n (poF s).n.length = l1 at *
  generalize prL (poF s).e (poH s).e (poF s).e.length = l2 at *
  clear bf bg bi br il ir hs vu va vb vc hf hg he hb iln ile irn ire qn qe
  generalize poG s = d at *
  generalize poQ s = qq at *
  generalize poP s = pp at *
  generalize poK s = kk at *
  generalize unG s.b s.c = uu at *
  generalize idM s.b = ii at *
  generalize inR s.b s.c = jj at *
  obtain ⟨dn, de⟩ := d
  obtain ⟨un, ue⟩ := uu
  obtain ⟨qn, qe⟩ := qq
  obtain ⟨pn, pe⟩ := pp
  obtain ⟨kn, ke⟩ := kk
  obtain ⟨i1, i2⟩ := ii
  obtain ⟨j1, j2⟩ := jj
  simp only [uniD, gD, gA, mD, mA, spD, poD] at *
  simp (disch := omega) only [go_sem, ↓reduceIte]
  refine call_by r1 ?_
  simp (disch := omega) only [go_sem, ↓reduceIte]
  refine call_by p1 ?_
  simp (disch := omega) only [go_sem, ↓reduceIte]
  refine call_by p2 ?_
  simp (disch := omega) only [go_sem, ↓reduceIte]
  refine call_by q ?_
  simp (disch := omega) only [go_sem, ↓reduceIte]
  refine call_by t1 ?_
  simp (disch := omega) only [go_sem, ↓reduceIte]
  refine call_by t2 ?_
  simp (disch := omega) only [go_sem, ↓reduceIte]
  try rfl
theorem w_pushout_Of (hp : K_pushout_span P F) (hg : K_pushout_glue P F) (s : Sp) : W P (c_pushout_Of F) (Done [.c 2 true 2, .c 3 true 2, .c 4 true 2, .t 5] [] (poD (poR s)) []) (init [spD s]) := by
 refine W_of ?_
 have r1 := hp s
 by_cases c : spE s = 0
 ·have r2 := hg s c
  rw [c] at r1
  generalize poR s = r at *
  obtain ⟨⟨dn, de⟩, ⟨pn, pe⟩, ⟨kn, ke⟩, er⟩ := r
  simp only [spD, poD, gA, mA] at *
  simp (disch := omega) only [go_sem, ↓reduceIte]
  refine call_by r1 ?_
  simp (disch := omega) only [go_sem, ↓reduceIte]
  refine call_by r2 ?_
  simp (disch := omega) only [go_sem, ↓reduceIte]
  try rfl
 ·have : poR s = (g0, m0, m0, spE s) := by
   have : poErr s = spE s := by unfold poErr; rw [if_pos c]
   unfold poR; rw [this, if_neg c]
  rw [this]
  generalize spE s = e at *
  simp only [spD] at *
  simp (disch := omega) only [go_sem, ↓reduceIte]
  refine call_by r1 ?_
  simp (disch := omega) only [go_sem, ↓reduceIte, c]
  simp [poD, g0, m0, gA, mA, ints, eds]
set_option maxHeartbeats 1000000 in
theorem w_r10_Of (hp : K_r10_Span P F) (hu : K_r05_Union P F) (ht : K_r06_Then P F) (hg : K_r10_glue P F) (s : Sp) : W P (c_r10_Of F) (Done [.c 2 true 2, .c 3 true 2, .c 4 true 2, .t 5] [] (poD (poR s)) []) (init [spD s]) := by
 refine W_of ?_
 have r0 := hp s
 by_cases he : spE s = 0
 ·obtain ⟨hf, hgg⟩ := spE_ok.1 he
  rw [he] at r0
  have r1 := hu s.b s.c
  rw [uniG_ok hf.vb hgg.vb] at r1
  by_cases hb : Big s.b s.c
  ·rw [if_pos hb] at r1
   rw [poR_big he hb]
   simp only [uniD, gD, gA, mA, g0, m0, spD] at *
   simp (disch := omega) only [go_sem, ↓reduceIte]
   refine call_by r0 ?_
   simp (disch := omega) only [go_sem, ↓reduceIte]
   refine call_by r1 ?_
   simp (disch := omega) only [go_sem, ↓reduceIte]
   refine bran_ndec (fun _ => ?_) (fun h => absurd h (by decide))
   simp (disch := omega) only [go_sem, ↓reduceIte]
   simp [poD, g0, m0, gA, mA, ints, eds]
  ·rw [if_neg hb] at r1
   have hs : SOk s := ⟨hf, hgg, hb⟩
   rw [poR_ok hs]
   have il := inL_ok hf.vb hgg.vb hb
   have ir := inR_ok hf.vb hgg.vb hb
   have va := valid_spec hf.va
   have vb := valid_spec hf.vb
   have vc := valid_spec hgg.vb
   have ln := hf.ln
   have le := hf.le
   have mn := hgg.ln
   have me := hgg.le
   have bf := validM_bd (mok.2 hf)
   have bg := validM_bd (mok.2 hgg)
   have bi := validM_bd (mok.2 il)
   have br := validM_bd (mok.2 ir)
   have iln := il.ln
   have ile := il.le
   have irn := ir.ln
   have ire := ir.le
   have t1 := ht s.f (idM s.b) (by omega) (by omega) (by rw [iln]; exact bf.1) (by rw [ile]; exact bf.2)
   have t2 := ht s.g (inR s.b s.c) (by omega) (by omega) (by rw [irn]; exact bg.1) (by rw [ire]; exact bg.2)
   have q := hg s.a (unG s.b s.c) (poF s) (poH s) hs.uF hs.uH
   rw [show gluG (unG s.b s.c) (poF s) (poH s) = poG s from rfl, show gluM (unG s.b s.c) (poF s) (poH s) = poQ s from rfl] at q
   have qn := hs.q.ln
   have qe := hs.q.le
   have t3 := ht (idM s.b) (poQ s) (by omega) (by omega) (by rw [qn]; exact bi.1) (by rw [qe]; exact bi.2)
   have t4 := ht (inR s.b s.c) (poQ s) (by omega) (by omega) (by rw [qn]; exact br.1) (by rw [qe]; exact br.2)
   rw [show thenM (idM s.b) (poQ s) = poP s from rfl] at t3
   rw [show thenM (inR s.b s.c) (poQ s) = poK s from rfl] at t4
   rw [show thenM s.f (idM s.b) = poF s from rfl] at t1
   rw [show thenM s.g (inR s.b s.c) = poH s from rfl] at t2
   clear bf bg bi br il ir hs va vb vc hf hgg he hb iln ile irn ire qn qe
   generalize poG s = d at *
   generalize poQ s = qq at *
   generalize poP s = pp at *
   generalize poK s = kk at *
   generalize poF s = ff at *
   generalize poH s = hh at *
   generalize unG s.b s.c = uu at *
   generalize idM s.b = ii at *
   generalize inR s.b s.c = jj at *
   obtain ⟨dn, de⟩ := d
   obtain ⟨un, ue⟩ := uu
   obtain ⟨qn, qe⟩ := qq
   obtain ⟨pn, pe⟩ := pp
   obtain ⟨kn, ke⟩ := kk
   obtain ⟨i1, i2⟩ := ii
   obtain ⟨j1, j2⟩ := jj
   obtain ⟨f1, f2⟩ := ff
   obtain ⟨h1, h2⟩ := hh
   simp only [uniD, gD, gA, mD, mA, spD, poD] at *
   simp (disch := omega) only [go_sem, ↓reduceIte]
   refine call_by r0 ?_
   simp (disch := omega) only [go_sem, ↓reduceIte]
   refine call_by r1 ?_
   simp (disch := omega) only [go_sem, ↓reduceIte]
   refine call_by t1 ?_
   simp (disch := omega) only [go_sem, ↓reduceIte]
   refine call_by t2 ?_
   simp (disch := omega) only [go_sem, ↓reduceIte]
   refine call_by q ?_
   simp (disch := omega) only [go_sem, ↓reduceIte]
   refine call_by t3 ?_
   simp (disch := omega) only [go_sem, ↓reduceIte]
   refine call_by t4 ?_
   simp (disch := omega) only [go_sem, ↓reduceIte]
   try rfl
 ·have : poR s = (g0, m0, m0, spE s) := by
   have : poErr s = spE s := by unfold poErr; rw [if_pos he]
   unfold poR; rw [this, if_neg he]
  rw [this]
  generalize spE s = e at *
  simp only [spD] at *
  simp (disch := omega) only [go_sem, ↓reduceIte]
  refine call_by r0 ?_
  simp (disch := omega) only [go_sem, ↓reduceIte, he]
  simp [poD, g0, m0, gA, mA, ints, eds]
end
@[go_sem] def c_l10_path_r0 : LL := [qa 2 [.nl 1,.nl 3]]
@[go_sem] def c_l10_path_r1 : LL := [qm 5 0,⟨some 6,.makeSl 1 8 (.int .i64 (0)) (.t 5),none⟩,qu 7 [.nl 1,.nl 3] [(0,1,.t 6)],qa 3 [.nl 1,.nl 3],qs 2 3 7]
@[go_sem] def c_l10_path_r2 : LL := [qi 4 1]
@[go_sem] def c_l10_path_r3 : LL := [qm 8 4,qm 9 0,qo .lss 10 8 9]
@[go_sem] def c_l10_path_r4 : LL := [qf 13 1 3,ql 14 1 13,qm 15 4,qk .sub 16 15 1,qm 17 4,qu 18 [.int .i64 (0),.int .i64 (0),.int .i64 (0)] [(1,1,.t 16),(2,1,.t 17)],
 ⟨some 19,.buildSl 3 24 (.agg [.int .i64 (0),.int .i64 (0),.int .i64 (0)]) 1 [(0,.t 18)],none⟩,qp 20 3 24 14 19,qf 21 1 3,qs 1 21 20]
@[go_sem] def c_l10_path_r5 : LL := [qm 11 4,qk .add 12 11 1,qm 4 12]
def c_l10_path_b6 : LC := (.seq (.seq (.reg c_l10_path_r3 [0,2,3,4,10]) (.cond (.t 10) .skip (.exit 0))) (.seq (.block 1 (.reg c_l10_path_r4 [0,2,3,4])) (.reg c_l10_path_r5 [0,2,3,4])))
@[go_sem] def c_l10_path_r7 : LL := [qL 22 2 3,qs 2 2 22]
@[go_sem] def c_l10_path (F : Fn) : LC := (.seq (.reg c_l10_path_r0 [0,2]) (.seq (.reg c_l10_path_r1 [0,2,3]) (.seq (.seq (.reg c_l10_path_r2 [0,2,3,4]) (.block 0 (.loop [0,2,3,4] c_l10_path_b6))) (.seq (.reg c_l10_path_r7 [2]) .ret))))
def h_l10_path : Hints := hOf [] (c_l10_path fun _ => 0)
@[go_sem] def c_l10_awake_r0 : LL := [qb 0 false]
@[go_sem] def c_l10_awake_r1 (F : Fn) : LL := [qc 6 (F "l10.path") [.k (.int .i64 (1))],qc 7 (F "l10.path") [.k (.int .i64 (2))],qc 8 (F "l10.path") [.k (.int .i64 (2))],⟨some 9,.buildSl 1 8 (.int .i64 (0)) 1 [(0,.k (.int .i64 (1)))],none⟩,
 qu 10 [.nl 1,.nl 1] [(0,1,.t 9)],⟨some 11,.buildSl 1 8 (.int .i64 (0)) 1 [(0,.k (.int .i64 (0)))],none⟩,qu 12 [.nl 1,.nl 1] [(0,1,.t 11)],
 qu 13 [.nl 1,.nl 3,.nl 1,.nl 3,.nl 1,.nl 3,.nl 1,.nl 1,.nl 1,.nl 1] [(0,2,.t 6),(2,2,.t 7),(4,2,.t 8),(6,2,.t 10),(8,2,.t 12)],
 qa 1 [.nl 1,.nl 3,.nl 1,.nl 3,.nl 1,.nl 3,.nl 1,.nl 1,.nl 1,.nl 1],qs 10 1 13]
@[go_sem] def c_l10_awake_r2 (F : Fn) : LL := [qL 15 10 1,qc 16 (F "pushout.Of") [.t 15],qm 14 16,qx 17 14 0,qx 18 14 1,qx 19 14 2,qx 20 14 3,qa 2 [.nl 1,.nl 3],qa 3 [.nl 1,.nl 1],qa 4 [.nl 1,.nl 1],qs 2 2 17,qs 2 3 18,qs 2 4 19,qm 5 20]
@[go_sem] def c_l10_awake_r3 (F : Fn) : LL := [qm 21 5,qk .neq 22 21 0,qm 23 22,qg 23 false (qL 24 2 2),qg 23 false (qc 25 (F "l10.path") [.k (.int .i64 (3))]),qg 23 false (qc 26 (F "r05.Same") [.t 24,.t 25]),qg 23 false (qv 27 26),qQ 28 23 27,
 qm 29 28,qg 29 false (qL 30 2 3),⟨some 31,.buildSl 1 8 (.int .i64 (0)) 2 [(0,.k (.int .i64 (0))),(1,.k (.int .i64 (1)))],some (29,false)⟩,
 ⟨some 32,.buildSl 1 8 (.int .i64 (0)) 1 [(0,.k (.int .i64 (0)))],some (29,false)⟩,qg 29 false (qu 33 [.nl 1,.nl 1] [(0,1,.t 31),(1,1,.t 32)]),
 qg 29 false (qc 34 (F "r06.Same") [.t 30,.t 33]),qg 29 false (qv 35 34),qQ 36 29 35,qm 37 36,qg 37 false (qL 38 2 4),
 ⟨some 39,.buildSl 1 8 (.int .i64 (0)) 2 [(0,.k (.int .i64 (1))),(1,.k (.int .i64 (2)))],some (37,false)⟩,
 ⟨some 40,.buildSl 1 8 (.int .i64 (0)) 1 [(0,.k (.int .i64 (1)))],some (37,false)⟩,qg 37 false (qu 41 [.nl 1,.nl 1] [(0,1,.t 39),(1,1,.t 40)]),
 qg 37 false (qc 42 (F "r06.Same") [.t 38,.t 41]),qg 37 false (qv 43 42),qQ 44 37 43]
@[go_sem] def c_l10_awake_r4 : LL := [qb 0 false]
@[go_sem] def c_l10_awake_r5 : LL := [qf 45 6 1,qf 46 0 45,ql 47 1 46,⟨some 48,.iad 1 (.t 47) (.k (.int .i64 (0))),none⟩,⟨none,.store 1 (.t 48) (.k (.int .i64 (0))),none⟩]
@[go_sem] def c_l10_awake_r6 (F : Fn) : LL := [qL 50 10 1,qc 51 (F "pushout.Of") [.t 50],qm 49 51,qx 52 49 0,qx 53 49 1,qx 54 49 2,qx 55 49 3,qs 2 2 52,qm 5 55]
@[go_sem] def c_l10_awake_r7 (F : Fn) : LL := [qm 56 5,qk .eql 57 56 0,qm 58 57,qg 58 true (qf 59 1 2),qg 58 true (ql 60 1 59),
 qg 58 true (qu 61 [.int .i64 (0),.int .i64 (0),.int .i64 (0)] [(1,1,.k (.int .i64 (0))),(2,1,.k (.int .i64 (1)))]),
 qg 58 true (qu 62 [.int .i64 (0),.int .i64 (0),.int .i64 (0)] [(1,1,.k (.int .i64 (0))),(2,1,.k (.int .i64 (2)))]),
 ⟨some 63,.buildSl 3 24 (.agg [.int .i64 (0),.int .i64 (0),.int .i64 (0)]) 2 [(0,.t 61),(1,.t 62)],some (58,true)⟩,qg 58 true (qc 64 (F "slices.Equal.E") [.t 60,.t 63]),qP 65 58 64,qm 0 65]
@[go_sem] def c_l10_awake (F : Fn) : LC := (.seq (.reg c_l10_awake_r0 []) (.seq (.reg (c_l10_awake_r1 F) [1]) (.seq (.reg (c_l10_awake_r2 F) [1,2,3,4,5]) (.seq (.seq (.dreg [(3,none,[],true),(4,none,[3],false),(9,none,[],true),(10,none,[9],true),(11,(some 511),[9,10],false),(17,none,[],true),(18,none,[17],true),(19,(some 131071),[17,18],false)] (c_l10_awake_r3 F) [1,2,44]) (.cond (.t 44) (.seq (.reg c_l10_awake_r4 [0]) .ret) .skip)) (.seq (.reg c_l10_awake_r5 [1,2]) (.seq (.reg (c_l10_awake_r6 F) [2,5]) (.seq (.reg (c_l10_awake_r7 F) [0]) .ret)))))))
def h_l10_awake : Hints := hOf [] (c_l10_awake fun _ => 0)
def pathE (n : Nat) : List E := (List.range n).map fun k : Nat => ⟨0, (k : Int), (k : Int) + 1⟩
def pathG (n : Nat) : G := ⟨List.replicate n 0, pathE (n - 1)⟩
section
variable (P : Program) (F : String → Nat)
def K_l10_path : Prop := ∀ n : Nat, 1 ≤ n → n ≤ 1000 → FC P (F "l10.path") [.int .i64 n] (gA (pathG n)) []
def K_l10_awake : Prop := FC P (F "l10.awake") [] (.bool true) []
end
section
variable {P : Program} {F : String → Nat} {α : Type}
theorem w_l10_path (n : Nat) (h1 : 1 ≤ n) (h2 : n ≤ 1000) : W P (c_l10_path F) (Done [.c 2 true 2] [] (gA (pathG n)) []) (init [.int .i64 n]) := by
 refine W_of ?_
 have el : ∀ i, (pathE i).length = i := fun i => by simp [pathE]
 have es : ∀ i, pathE (i + 1) = pathE i ++ [⟨0, (i : Int), (i : Int) + 1⟩] := fun i => by simp [pathE, List.range_succ]
 have e0 : pathE 0 = [] := rfl
 have rl : (List.replicate n (0 : Int)).length = n := by simp
 have hG : pathG n = ⟨List.replicate n 0, pathE (n - 1)⟩ := rfl
 rw [hG]
 generalize pathE = pe at *
 simp (disch := omega) only [go_sem, ↓reduceIte]
 generalize List.replicate n (0 : Int) = z at *
 refine W_loop (fun i : Nat => ⟨[(0, .int .i64 n), (2, .pt 2 0), (3, .pt 5 0), (4, .int .i64 ((i : Int) + 1))],
  [(0, .arr 1 []), (1, .arr 3 []), (2, .box [.sl 0 0 0, .sl 1 0 0]), (3, .arr 1 (ints z)), (4, .arr 3 (eds (pe i))), (5, .box [.sl 3 0 n, .sl 4 0 i])], 6⟩) (fun i => i ≤ n - 1) (fun i => n - i) 0 ?_ ?_ ?_
 ·simp (disch := omega) only [go_sem, ↓reduceIte, e0]
  rfl
 ·simp
 ·intro i hi
  have eli := el i
  by_cases c : i + 1 < n
  ·have g1 : decide ((i : Int) + 1 < n) = true := decide_eq_true (by omega)
   simp (disch := omega) only [go_sem, ↓reduceIte, c_l10_path_b6, g1, eli, Int.add_sub_cancel]
   exact ⟨i + 1, by simp [es], by omega, by omega⟩
  ·have g1 : decide ((i : Int) + 1 < n) = false := decide_eq_false (by omega)
   obtain rfl : i = n - 1 := by omega
   simp (disch := omega) only [go_sem, ↓reduceIte, c_l10_path_b6, g1, rl, eli]
   simp [gA]
def exSp (f : Int) : Sp := ⟨⟨[0], []⟩, ⟨[0, 0], [⟨0, 0, 1⟩]⟩, ⟨[0, 0], [⟨0, 0, 1⟩]⟩, ⟨[f], []⟩, ⟨[0], []⟩⟩
set_option maxRecDepth 100000 in
theorem w_l10_awake (hp : K_l10_path P F) (ho : K_pushout_Of P F) (hg : K_r05_Same P F) (hm : K_r06_Same P F) (he : K_slices_Equal_E P F) : W P (c_l10_awake F) (Done [.t 0] [] (.bool true) []) (init []) := by
 refine W_of ?_
 have p1 := hp 1 (by omega) (by omega)
 have p2 := hp 2 (by omega) (by omega)
 have p3 := hp 3 (by omega) (by omega)
 rw [show pathG 1 = ⟨[0], []⟩ by decide +kernel] at p1
 rw [show pathG 2 = ⟨[0, 0], [⟨0, 0, 1⟩]⟩ by decide +kernel] at p2
 rw [show pathG 3 = ⟨[0, 0, 0], [⟨0, 0, 1⟩, ⟨0, 1, 2⟩]⟩ by decide +kernel] at p3
 have r1 := ho (exSp 1)
 have r2 := ho (exSp 0)
 rw [show poR (exSp 1) = (⟨[0, 0, 0], [⟨0, 0, 1⟩, ⟨0, 1, 2⟩]⟩, ⟨[0, 1], [0]⟩, ⟨[1, 2], [1]⟩, 0) by decide +kernel] at r1
 rw [show poR (exSp 0) = (⟨[0, 0, 0], [⟨0, 0, 1⟩, ⟨0, 0, 2⟩]⟩, ⟨[0, 1], [0]⟩, ⟨[0, 2], [1]⟩, 0) by decide +kernel] at r2
 have s1 := hg ⟨[0, 0, 0], [⟨0, 0, 1⟩, ⟨0, 1, 2⟩]⟩ ⟨[0, 0, 0], [⟨0, 0, 1⟩, ⟨0, 1, 2⟩]⟩ (by decide) (by decide)
 have s2 := hm ⟨[0, 1], [0]⟩ ⟨[0, 1], [0]⟩ (by decide) (by decide)
 have s3 := hm ⟨[1, 2], [1]⟩ ⟨[1, 2], [1]⟩ (by decide) (by decide)
 have s4 := he [⟨0, 0, 1⟩, ⟨0, 0, 2⟩] [⟨0, 0, 1⟩, ⟨0, 0, 2⟩] (by decide)
 simp only [poD, exSp, spD, gD, mD, gA, mA] at *
 simp (disch := omega) only [go_sem, ↓reduceIte]
 refine call_by p1 ?_
 simp (disch := omega) only [go_sem, ↓reduceIte]
 refine call_by p2 ?_
 simp (disch := omega) only [go_sem, ↓reduceIte]
 refine call_by p2 ?_
 simp (disch := omega) only [go_sem, ↓reduceIte]
 refine call_by r1 ?_
 simp (disch := omega) only [go_sem, ↓reduceIte, Int.cast_ofNat_Int, eq_self]
 refine call_by p3 ?_
 simp (disch := omega) only [go_sem, ↓reduceIte]
 refine call_by s1 ?_
 simp (disch := omega) only [go_sem, ↓reduceIte]
 refine call_by s2 ?_
 simp (disch := omega) only [go_sem, ↓reduceIte]
 refine call_by s3 ?_
 simp (disch := omega) only [go_sem, ↓reduceIte]
 refine call_by r2 ?_
 simp (disch := omega) only [go_sem, ↓reduceIte, Int.cast_ofNat_Int, eq_self]
 refine call_by s4 ?_
 simp (disch := omega) only [go_sem, ↓reduceIte]
end
@[go_sem] def c_r06_SameAll_r0 : LL := [qb 4 false]
@[go_sem] def c_r06_SameAll_r1 : LL := [qm 6 0,qz 7 6,qm 8 1,qz 9 8,qo .neq 10 7 9]
@[go_sem] def c_r06_SameAll_r2 : LL := [qb 4 false]
@[go_sem] def c_r06_SameAll_r3 : LL := [qi 5 0]
@[go_sem] def c_r06_SameAll_r4 : LL := [qm 11 5,qm 12 0,qz 13 12,qo .lss 14 11 13]
@[go_sem] def c_r06_SameAll_r5 (F : Fn) : LL := [qm 17 0,qm 18 5,qd 19 2 17 18,qL 20 2 19,qm 21 1,qm 22 5,qd 23 2 21 22,qL 24 2 23,qc 25 (F "r06.Same") [.t 20,.t 24],qv 26 25]
@[go_sem] def c_r06_SameAll_r6 : LL := [qb 4 false]
@[go_sem] def c_r06_SameAll_r7 : LL := [qm 15 5,qk .add 16 15 1,qm 5 16]
def c_r06_SameAll_b8 (F : Fn) : LC := (.seq (.seq (.reg c_r06_SameAll_r4 [0,1,5,14]) (.cond (.t 14) .skip (.exit 0))) (.seq (.block 1 (.seq (.dreg [] (c_r06_SameAll_r5 F) [0,1,5,26]) (.cond (.t 26) (.seq (.reg c_r06_SameAll_r6 [4]) .ret) .skip))) (.reg c_r06_SameAll_r7 [0,1,5])))
@[go_sem] def c_r06_SameAll_r9 : LL := [qb 4 true]
@[go_sem] def c_r06_SameAll (F : Fn) : LC := (.seq (.reg c_r06_SameAll_r0 [0,1]) (.seq (.seq (.reg c_r06_SameAll_r1 [0,1,10]) (.cond (.t 10) (.seq (.reg c_r06_SameAll_r2 [4]) .ret) .skip)) (.seq (.seq (.reg c_r06_SameAll_r3 [0,1,5]) (.block 0 (.loop [0,1,5] (c_r06_SameAll_b8 F)))) (.seq (.reg c_r06_SameAll_r9 [4]) .ret))))
def h_r06_SameAll : Hints := hn [] [(0,[0,1]),(1,[0,1,10]),(2,[4]),(3,[0,1,5]),(4,[0,1,5,14]),(5,[0,1,5]),(6,[0,1,5,26]),(7,[4]),(8,[4])] [(4,[0,1,5])]
section
variable (P : Program) (F : String → Nat)
def K_r06_SameAll : Prop := ∀ (l m : List Mo), l.length ≤ maxL → (∀ x ∈ l, x.sm) → FC P (F "r06.SameAll") [.lst 2 (pts l), .lst 2 (pts m)] (.bool (decide (l = m))) []
end
section
variable {P : Program} {F : String → Nat} {α : Type}
end
section
variable {P : Program} {F : String → Nat} {α : Type}
theorem pts_at {l : List Mo} {i : Nat} (h : i < l.length) : (pts l)[i]? = some (.agg [.lst 1 (ints (gt l i).n), .lst 1 (ints (gt l i).e)]) := by
 unfold pts
 rw [List.getElem?_map, List.getElem?_eq_getElem h, gt_nat h]
 rfl
theorem w_r06_SameAll (hs : K_r06_Same P F) (l m : List Mo) (hl : l.length ≤ maxL) (hsm : ∀ x ∈ l, x.sm) : W P (c_r06_SameAll F) (Done [.t 4] [] (.bool (decide (l = m))) []) (init [.lst 2 (pts l), .lst 2 (pts m)]) := by
 refine W_of ?_
 unfold maxL at hl
 have hpl := pts_length l
 have hpm := pts_length m
 simp (disch := omega) only [go_sem, ↓reduceIte]
 refine bran_ndec (fun h => ?_) (fun h => ?_)
 ·simp (disch := omega) only [go_sem, ↓reduceIte]
  have : l ≠ m := fun e => h (by rw [e])
  simp [this]
 ·have h' : l.length = m.length := by omega
  simp (disch := omega) only [go_sem, ↓reduceIte]
  refine W_loop (fun i : Nat => ⟨[(0, .lst 2 (pts l)), (1, .lst 2 (pts m)), (5, .int .i64 i)], [], 0⟩) (fun i => i ≤ l.length ∧ l.take i = m.take i) (fun i => l.length - i) 0 ?_ ?_ ?_
  ·simp (disch := omega) only [go_sem, ↓reduceIte]
   rfl
  ·simp
  ·rintro i ⟨hi, ht⟩
   simp (disch := omega) only [go_sem, ↓reduceIte, c_r06_SameAll_b8]
   refine bran_dec (fun f => ?_) (fun f => ?_)
   ·have q1 := pts_at (l := l) (i := i) (by omega)
    have q2 := pts_at (l := m) (i := i) (by omega)
    have hx := hsm _ (gt_mem (l := l) (j := i) (by omega) (by omega))
    have r := hs (gt l i) (gt m i) hx.1 hx.2
    simp only [mD] at r
    simp (disch := omega) only [go_sem, ↓reduceIte, q1, q2]
    refine call_by r ?_
    simp (disch := omega) only [go_sem, ↓reduceIte]
    refine bran_ndec (fun d2 => ?_) (fun d2 => ?_)
    ·simp (disch := omega) only [go_sem, ↓reduceIte]
     have : l ≠ m := fun e => d2 (by rw [e])
     simp [this]
    ·simp (disch := omega) only [go_sem, ↓reduceIte]
     exact ⟨i + 1, by simp, ⟨by omega, by rw [take_gt (by omega), take_gt (by omega), ht, d2]⟩, by omega⟩
   ·simp (disch := omega) only [go_sem, ↓reduceIte]
    obtain rfl : i = l.length := by omega
    rw [List.take_length, List.take_of_length_le (by omega)] at ht
    simp [ht]
end
end Go.Am
