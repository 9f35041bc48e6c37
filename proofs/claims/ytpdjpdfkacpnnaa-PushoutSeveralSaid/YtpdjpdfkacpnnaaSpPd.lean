/- Pushouts of several morphisms. -/
import Derived.Test.YtpdjpdfkacpnnaaSpPa
import Derived.Test.YtpdjpdfkacpnnaaSpPb
import Derived.Test.YtpdjpdfkacpnnaaSpPc
namespace Go.Am
open Go
set_option linter.unusedVariables false
set_option linter.unusedSimpArgs false
attribute [local irreducible] W
@[go_sem] def c_pushout_Several_r0 : LL := [qB 3 0,qa 6 [.nl 1,.nl 3],qn 7 2,qi 8 0]
@[go_sem] def c_pushout_Several_r1 : LL := [qm 21 1,qz 22 21,qk .eql 23 22 0]
@[go_sem] def c_pushout_Several_r2 : LL := [qu 24 [.nl 1,.nl 3] [],qs 2 6 24,qn 7 2,qi 8 7]
@[go_sem] def c_pushout_Several_r3 : LL := [qm 25 2,qz 26 25,qm 27 1,qz 28 27,qo .neq 29 26 28]
@[go_sem] def c_pushout_Several_r4 : LL := [qu 30 [.nl 1,.nl 3] [],qs 2 6 30,qn 7 2,qi 8 20]
@[go_sem] def c_pushout_Several_r5 : LL := [qm 31 1,qz 32 31,qi 33 0]
@[go_sem] def c_pushout_Several_r6 : LL := [qo .lss 34 33 32]
@[go_sem] def c_pushout_Several_r7 : LL := [qm 35 33,qm 9 35]
@[go_sem] def c_pushout_Several_r8 (F : Fn) : LL := [qL 36 2 3,qm 37 1,qm 38 9,qd 39 2 37 38,qL 40 2 39,qm 41 2,qm 42 9,qd 43 2 41 42,qL 44 2 43,qc 45 (F "morphism.Valid") [.t 36,.t 40,.t 44],qm 10 45]
@[go_sem] def c_pushout_Several_r9 : LL := [qm 46 10,qk .neq 47 46 0]
@[go_sem] def c_pushout_Several_r10 : LL := [qu 48 [.nl 1,.nl 3] [],qm 49 10,qs 2 6 48,qn 7 2,qm 8 49]
@[go_sem] def c_pushout_Several_r11 : LL := [qk .add 50 33 1,qm 33 50]
def c_pushout_Several_b12 (F : Fn) : LC := (.seq (.reg c_pushout_Several_r6 [1,2,3,6,32,33,34]) (.seq (.cond (.t 34) .skip (.exit 0)) (.seq (.block 1 (.seq (.reg c_pushout_Several_r7 [1,2,3,6,9,32,33]) (.seq (.dreg [] (c_pushout_Several_r8 F) [1,2,3,6,10,32,33]) (.seq (.reg c_pushout_Several_r9 [1,2,3,6,10,32,33,47]) (.cond (.t 47) (.seq (.reg c_pushout_Several_r10 [6,7,8]) .ret) .skip))))) (.reg c_pushout_Several_r11 [1,2,3,6,32,33]))))
@[go_sem] def c_pushout_Several_r13 (F : Fn) : LL := [qm 52 1,⟨some 53,.iad 2 (.t 52) (.k (.int .i64 (0))),none⟩,qL 54 2 53,qc 55 (F "morphism.Identity") [.t 54],qm 51 55,qx 56 51 0,qx 57 51 1,qa 11 [.nl 1,.nl 1],qs 2 11 56,qm 12 57]
@[go_sem] def c_pushout_Several_r14 : LL := [qm 58 12,qk .neq 59 58 0]
@[go_sem] def c_pushout_Several_r15 : LL := [qu 60 [.nl 1,.nl 3] [],qm 61 12,qs 2 6 60,qn 7 2,qm 8 61]
@[go_sem] def c_pushout_Several_r16 (F : Fn) : LL := [qm 62 1,⟨some 63,.iad 2 (.t 62) (.k (.int .i64 (0))),none⟩,qf 64 0 63,ql 65 1 64,qc 66 (F "slices.Clone.I") [.t 65],qm 67 1,⟨some 68,.iad 2 (.t 67) (.k (.int .i64 (0))),none⟩,qf 69 1 68,
 ql 70 1 69,qc 71 (F "slices.Clone.E") [.t 70],qu 72 [.nl 1,.nl 3] [(0,1,.t 66),(1,1,.t 71)],qL 73 2 11,⟨some 74,.buildSl 2 48 (.agg [.lst 1 [],.lst 1 []]) 1 [(0,.t 73)],none⟩,
 qa 13 [.nl 1,.nl 3],qs 2 13 72,qm 14 74]
@[go_sem] def c_pushout_Several_r17 : LL := [qi 15 1]
@[go_sem] def c_pushout_Several_r18 : LL := [qm 75 15,qm 76 1,qz 77 76,qo .lss 78 75 77]
@[go_sem] def c_pushout_Several_r19 (F : Fn) : LL := [qL 82 2 3,qL 83 2 13,qm 84 1,qm 85 15,qd 86 2 84 85,qL 87 2 86,qm 88 2,⟨some 89,.iad 2 (.t 88) (.k (.int .i64 (0))),none⟩,qL 90 2 89,qm 91 14,
 ⟨some 92,.iad 2 (.t 91) (.k (.int .i64 (0))),none⟩,qL 93 2 92,qc 94 (F "pushout.then") [.t 90,.t 93],qm 95 2,qm 96 15,qd 97 2 95 96,qL 98 2 97,
 qu 99 [.nl 1,.nl 3,.nl 1,.nl 3,.nl 1,.nl 3,.nl 1,.nl 1,.nl 1,.nl 1] [(0,2,.t 82),(2,2,.t 83),(4,2,.t 87),(6,2,.t 94),(8,2,.t 98)],qc 100 (F "pushout.Of") [.t 99],
 qm 81 100,qx 101 81 0,qx 102 81 1,qx 103 81 2,qx 104 81 3,qa 16 [.nl 1,.nl 3],qa 17 [.nl 1,.nl 1],qa 18 [.nl 1,.nl 1],qs 2 16 101,qs 2 17 102,qs 2 18 103,qm 19 104]
@[go_sem] def c_pushout_Several_r20 : LL := [qm 105 19,qk .neq 106 105 0]
@[go_sem] def c_pushout_Several_r21 : LL := [qu 107 [.nl 1,.nl 3] [],qm 108 19,qs 2 6 107,qn 7 2,qm 8 108]
@[go_sem] def c_pushout_Several_r22 : LL := [qm 109 14,qz 110 109,qi 111 0]
@[go_sem] def c_pushout_Several_r23 : LL := [qo .lss 112 111 110]
@[go_sem] def c_pushout_Several_r24 : LL := [qm 113 111,qm 20 113]
@[go_sem] def c_pushout_Several_r25 (F : Fn) : LL := [qm 114 14,qm 115 20,qm 116 14,qm 117 20,qd 118 2 116 117,qL 119 2 118,qL 120 2 17,qc 121 (F "pushout.then") [.t 119,.t 120],qd 122 2 114 115,qs 2 122 121]
@[go_sem] def c_pushout_Several_r26 : LL := [qk .add 123 111 1,qm 111 123]
def c_pushout_Several_b27 (F : Fn) : LC := (.seq (.reg c_pushout_Several_r23 [1,2,3,6,13,14,15,16,17,18,110,111,112]) (.seq (.cond (.t 112) .skip (.exit 4)) (.seq (.block 5 (.seq (.reg c_pushout_Several_r24 [1,2,3,6,13,14,15,16,17,18,20,110,111]) (.dreg [] (c_pushout_Several_r25 F) [1,2,3,6,13,14,15,16,17,18,110,111]))) (.reg c_pushout_Several_r26 [1,2,3,6,13,14,15,16,17,18,110,111]))))
@[go_sem] def c_pushout_Several_r28 : LL := [qL 124 2 16,qm 125 14,qL 126 2 18,⟨some 127,.buildSl 2 48 (.agg [.lst 1 [],.lst 1 []]) 1 [(0,.t 126)],none⟩,qp 128 2 48 125 127,qs 2 13 124,qm 14 128]
@[go_sem] def c_pushout_Several_r29 : LL := [qm 79 15,qk .add 80 79 1,qm 15 80]
def c_pushout_Several_b30 (F : Fn) : LC := (.seq (.seq (.reg c_pushout_Several_r18 [1,2,3,6,13,14,15,78]) (.cond (.t 78) .skip (.exit 2))) (.seq (.block 3 (.seq (.dreg [(0,none,[],true),(1,none,[],true),(4,none,[],true),(5,none,[],true),(12,none,[0,1,4,5],true),(15,(some 24576),[12],false),(16,(some 57344),[12],false)] (c_pushout_Several_r19 F) [1,2,3,6,13,14,15,16,17,18,19]) (.seq (.seq (.reg c_pushout_Several_r20 [1,2,3,6,13,14,15,16,17,18,19,106]) (.cond (.t 106) (.seq (.reg c_pushout_Several_r21 [6,7,8]) .ret) .skip)) (.seq (.seq (.reg c_pushout_Several_r22 [1,2,3,6,13,14,15,16,17,18,110,111]) (.block 4 (.loop [1,2,3,6,13,14,15,16,17,18,110,111] (c_pushout_Several_b27 F)))) (.dreg [(0,none,[],true),(3,none,[0],false),(4,none,[0],false)] c_pushout_Several_r28 [1,2,3,6,13,14,15]))))) (.reg c_pushout_Several_r29 [1,2,3,6,13,14,15])))
@[go_sem] def c_pushout_Several_r31 : LL := [qL 129 2 13,qm 130 14,qs 2 6 129,qm 7 130,qi 8 0]
@[go_sem] def c_pushout_Several (F : Fn) : LC := (.seq (.reg c_pushout_Several_r0 [1,2,3,6]) (.seq (.seq (.reg c_pushout_Several_r1 [1,2,3,6,23]) (.cond (.t 23) (.seq (.reg c_pushout_Several_r2 [6,7,8]) .ret) .skip)) (.seq (.seq (.reg c_pushout_Several_r3 [1,2,3,6,29]) (.cond (.t 29) (.seq (.reg c_pushout_Several_r4 [6,7,8]) .ret) .skip)) (.seq (.seq (.reg c_pushout_Several_r5 [1,2,3,6,32,33]) (.block 0 (.loop [1,2,3,6,32,33] (c_pushout_Several_b12 F)))) (.seq (.reg (c_pushout_Several_r13 F) [1,2,3,6,11,12]) (.seq (.seq (.reg c_pushout_Several_r14 [1,2,3,6,11,12,59]) (.cond (.t 59) (.seq (.reg c_pushout_Several_r15 [6,7,8]) .ret) .skip)) (.seq (.dreg [(1,none,[],true),(3,none,[],true),(4,none,[],true),(6,(some 32),[4],true),(8,(some 224),[4],true),(9,none,[],true),(11,(some 0),[4,9],true),(12,(some 2048),[1,3,4,6,8,9],true),(14,(some 10239),[11,12],false)] (c_pushout_Several_r16 F) [1,2,3,6,13,14]) (.seq (.seq (.reg c_pushout_Several_r17 [1,2,3,6,13,14,15]) (.block 2 (.loop [1,2,3,6,13,14,15] (c_pushout_Several_b30 F)))) (.seq (.reg c_pushout_Several_r31 [6,7,8]) .ret)))))))))
def h_pushout_Several : Hints := hn [] [(0,[1,2,3,6]),(1,[1,2,3,6,23]),(2,[6,7,8]),(3,[1,2,3,6,29]),(4,[6,7,8]),(5,[1,2,3,6,32,33]),(6,[1,2,3,6,32,33,34]),(7,[1,2,3,6,9,32,33]),(8,[1,2,3,6,10,32,33]),(9,[1,2,3,6,10,32,33,47]),(10,[6,7,8]),(11,[1,2,3,6,32,33]),(12,[1,2,3,6,11,12]),(13,[1,2,3,6,11,12,59]),(14,[6,7,8]),(15,[1,2,3,6,13,14]),(16,[1,2,3,6,13,14,15]),(17,[1,2,3,6,13,14,15,78]),(18,[1,2,3,6,13,14,15]),(19,[1,2,3,6,13,14,15,16,17,18,19]),(20,[1,2,3,6,13,14,15,16,17,18,19,106]),(21,[6,7,8]),(22,[1,2,3,6,13,14,15,16,17,18,110,111]),(23,[1,2,3,6,13,14,15,16,17,18,110,111,112]),(24,[1,2,3,6,13,14,15,16,17,18,20,110,111]),(25,[1,2,3,6,13,14,15,16,17,18,110,111]),(26,[1,2,3,6,13,14,15,16,17,18,110,111]),(27,[1,2,3,6,13,14,15]),(28,[6,7,8])] [(6,[1,2,3,6,32,33]),(17,[1,2,3,6,13,14,15]),(23,[1,2,3,6,13,14,15,16,17,18,110,111])]
@[go_sem] def c_r10_Several_r0 : LL := [qB 3 0,qa 6 [.nl 1,.nl 3],qn 7 2,qi 8 0]
@[go_sem] def c_r10_Several_r1 : LL := [qm 20 1,qz 21 20,qk .eql 22 21 0]
@[go_sem] def c_r10_Several_r2 : LL := [qu 23 [.nl 1,.nl 3] [],qs 2 6 23,qn 7 2,qi 8 7]
@[go_sem] def c_r10_Several_r3 : LL := [qm 24 1,qz 25 24,qm 26 2,qz 27 26,qo .neq 28 25 27]
@[go_sem] def c_r10_Several_r4 : LL := [qu 29 [.nl 1,.nl 3] [],qs 2 6 29,qn 7 2,qi 8 20]
@[go_sem] def c_r10_Several_r5 : LL := [qi 9 0]
@[go_sem] def c_r10_Several_r6 : LL := [qm 30 9,qm 31 1,qz 32 31,qo .lss 33 30 32]
@[go_sem] def c_r10_Several_r7 (F : Fn) : LL := [qL 36 2 3,qm 37 1,qm 38 9,qd 39 2 37 38,qL 40 2 39,qm 41 2,qm 42 9,qd 43 2 41 42,qL 44 2 43,qc 45 (F "r06.Valid") [.t 36,.t 40,.t 44],qm 10 45]
@[go_sem] def c_r10_Several_r8 : LL := [qm 46 10,qk .neq 47 46 0]
@[go_sem] def c_r10_Several_r9 : LL := [qu 48 [.nl 1,.nl 3] [],qm 49 10,qs 2 6 48,qn 7 2,qm 8 49]
@[go_sem] def c_r10_Several_r10 : LL := [qm 34 9,qk .add 35 34 1,qm 9 35]
def c_r10_Several_b11 (F : Fn) : LC := (.seq (.seq (.reg c_r10_Several_r6 [1,2,3,6,9,33]) (.cond (.t 33) .skip (.exit 0))) (.seq (.block 1 (.seq (.dreg [] (c_r10_Several_r7 F) [1,2,3,6,9,10]) (.seq (.reg c_r10_Several_r8 [1,2,3,6,9,10,47]) (.cond (.t 47) (.seq (.reg c_r10_Several_r9 [6,7,8]) .ret) .skip)))) (.reg c_r10_Several_r10 [1,2,3,6,9])))
@[go_sem] def c_r10_Several_r12 (F : Fn) : LL := [qm 50 1,⟨some 51,.iad 2 (.t 50) (.k (.int .i64 (0))),none⟩,qL 52 2 51,qc 53 (F "r05.Copied") [.t 52],qm 54 2,⟨some 55,.iad 2 (.t 54) (.k (.int .i64 (0))),none⟩,qL 56 2 55,
 qa 11 [.nl 1,.nl 3],qa 12 [.nl 1,.nl 1],qs 2 11 53,qs 2 12 56]
@[go_sem] def c_r10_Several_r13 (F : Fn) : LL := [qm 57 1,⟨some 58,.iad 2 (.t 57) (.k (.int .i64 (0))),none⟩,qL 59 2 58,qc 60 (F "r06.Of") [.t 59],⟨some 61,.buildSl 2 48 (.agg [.lst 1 [],.lst 1 []]) 1 [(0,.t 60)],none⟩,qm 13 61]
@[go_sem] def c_r10_Several_r14 : LL := [qi 14 1]
@[go_sem] def c_r10_Several_r15 : LL := [qm 62 14,qm 63 1,qz 64 63,qo .lss 65 62 64]
@[go_sem] def c_r10_Several_r16 (F : Fn) : LL := [qL 69 2 3,qL 70 2 11,qm 71 1,qm 72 14,qd 73 2 71 72,qL 74 2 73,qL 75 2 12,qm 76 2,qm 77 14,qd 78 2 76 77,qL 79 2 78,
 qu 80 [.nl 1,.nl 3,.nl 1,.nl 3,.nl 1,.nl 3,.nl 1,.nl 1,.nl 1,.nl 1] [(0,2,.t 69),(2,2,.t 70),(4,2,.t 74),(6,2,.t 75),(8,2,.t 79)],qc 81 (F "r10.Of") [.t 80],qm 68 81,
 qx 82 68 0,qx 83 68 1,qx 84 68 2,qx 85 68 3,qa 15 [.nl 1,.nl 3],qa 16 [.nl 1,.nl 1],qa 17 [.nl 1,.nl 1],qs 2 15 82,qs 2 16 83,qs 2 17 84,qm 18 85]
@[go_sem] def c_r10_Several_r17 : LL := [qm 86 18,qk .neq 87 86 0]
@[go_sem] def c_r10_Several_r18 : LL := [qu 88 [.nl 1,.nl 3] [],qm 89 18,qs 2 6 88,qn 7 2,qm 8 89]
@[go_sem] def c_r10_Several_r19 : LL := [qi 19 0]
@[go_sem] def c_r10_Several_r20 : LL := [qm 90 19,qm 91 13,qz 92 91,qo .lss 93 90 92]
@[go_sem] def c_r10_Several_r21 (F : Fn) : LL := [qm 96 13,qm 97 19,qm 98 13,qm 99 19,qd 100 2 98 99,qL 101 2 100,qL 102 2 16,qc 103 (F "r06.Then") [.t 101,.t 102],qd 104 2 96 97,qs 2 104 103]
@[go_sem] def c_r10_Several_r22 : LL := [qm 94 19,qk .add 95 94 1,qm 19 95]
def c_r10_Several_b23 (F : Fn) : LC := (.seq (.seq (.reg c_r10_Several_r20 [1,2,3,6,11,12,13,14,15,16,17,19,93]) (.cond (.t 93) .skip (.exit 4))) (.seq (.block 5 (.dreg [] (c_r10_Several_r21 F) [1,2,3,6,11,12,13,14,15,16,17,19])) (.reg c_r10_Several_r22 [1,2,3,6,11,12,13,14,15,16,17,19])))
@[go_sem] def c_r10_Several_r24 (F : Fn) : LL := [qL 105 2 15,qL 106 2 12,qL 107 2 16,qc 108 (F "r06.Then") [.t 106,.t 107],qm 109 13,qL 110 2 17,⟨some 111,.buildSl 2 48 (.agg [.lst 1 [],.lst 1 []]) 1 [(0,.t 110)],none⟩,
 qp 112 2 48 109 111,qs 2 11 105,qs 2 12 108,qm 13 112]
@[go_sem] def c_r10_Several_r25 : LL := [qm 66 14,qk .add 67 66 1,qm 14 67]
def c_r10_Several_b26 (F : Fn) : LC := (.seq (.seq (.reg c_r10_Several_r15 [1,2,3,6,11,12,13,14,65]) (.cond (.t 65) .skip (.exit 2))) (.seq (.block 3 (.seq (.dreg [] (c_r10_Several_r16 F) [1,2,3,6,11,12,13,14,15,16,17,18]) (.seq (.seq (.reg c_r10_Several_r17 [1,2,3,6,11,12,13,14,15,16,17,18,87]) (.cond (.t 87) (.seq (.reg c_r10_Several_r18 [6,7,8]) .ret) .skip)) (.seq (.seq (.reg c_r10_Several_r19 [1,2,3,6,11,12,13,14,15,16,17,19]) (.block 4 (.loop [1,2,3,6,11,12,13,14,15,16,17,19] (c_r10_Several_b23 F)))) (.dreg [(0,none,[],true),(1,none,[],true),(2,none,[],true),(3,none,[0],true),(5,(some 0),[3],false),(6,(some 32),[0,1,2,3],false),(7,none,[0],false)] (c_r10_Several_r24 F) [1,2,3,6,11,12,13,14]))))) (.reg c_r10_Several_r25 [1,2,3,6,11,12,13,14])))
@[go_sem] def c_r10_Several_r27 : LL := [qL 113 2 11,qm 114 13,qs 2 6 113,qm 7 114,qi 8 0]
@[go_sem] def c_r10_Several (F : Fn) : LC := (.seq (.reg c_r10_Several_r0 [1,2,3,6]) (.seq (.seq (.reg c_r10_Several_r1 [1,2,3,6,22]) (.cond (.t 22) (.seq (.reg c_r10_Several_r2 [6,7,8]) .ret) .skip)) (.seq (.seq (.reg c_r10_Several_r3 [1,2,3,6,28]) (.cond (.t 28) (.seq (.reg c_r10_Several_r4 [6,7,8]) .ret) .skip)) (.seq (.seq (.reg c_r10_Several_r5 [1,2,3,6,9]) (.block 0 (.loop [1,2,3,6,9] (c_r10_Several_b11 F)))) (.seq (.dreg [(3,none,[],true),(5,(some 16),[3],true),(6,(some 48),[3],true),(9,none,[5,6],false)] (c_r10_Several_r12 F) [1,2,3,6,11,12]) (.seq (.reg (c_r10_Several_r13 F) [1,2,3,6,11,12,13]) (.seq (.seq (.reg c_r10_Several_r14 [1,2,3,6,11,12,13,14]) (.block 2 (.loop [1,2,3,6,11,12,13,14] (c_r10_Several_b26 F)))) (.seq (.reg c_r10_Several_r27 [6,7,8]) .ret))))))))
def h_r10_Several : Hints := hn [] [(0,[1,2,3,6]),(1,[1,2,3,6,22]),(2,[6,7,8]),(3,[1,2,3,6,28]),(4,[6,7,8]),(5,[1,2,3,6,9]),(6,[1,2,3,6,9,33]),(7,[1,2,3,6,9]),(8,[1,2,3,6,9,10]),(9,[1,2,3,6,9,10,47]),(10,[6,7,8]),(11,[1,2,3,6,11,12]),(12,[1,2,3,6,11,12,13]),(13,[1,2,3,6,11,12,13,14]),(14,[1,2,3,6,11,12,13,14,65]),(15,[1,2,3,6,11,12,13,14]),(16,[1,2,3,6,11,12,13,14,15,16,17,18]),(17,[1,2,3,6,11,12,13,14,15,16,17,18,87]),(18,[6,7,8]),(19,[1,2,3,6,11,12,13,14,15,16,17,19]),(20,[1,2,3,6,11,12,13,14,15,16,17,19,93]),(21,[1,2,3,6,11,12,13,14,15,16,17,19]),(22,[1,2,3,6,11,12,13,14,15,16,17,19]),(23,[1,2,3,6,11,12,13,14]),(24,[6,7,8])] [(6,[1,2,3,6,9]),(14,[1,2,3,6,11,12,13,14]),(20,[1,2,3,6,11,12,13,14,15,16,17,19])]
def gls (l : List G) : List D := l.map gD
theorem gls_length (l : List G) : (gls l).length = l.length := by simp [gls]
theorem gls_at {l : List G} {i : Nat} (h : i < l.length) : (gls l)[i]? = some (.agg [.lst 1 (ints (gt l i).n), .lst 3 (eds (gt l i).e)]) := by
 rw [gt_nat h]; simp [gls, h, gD]
theorem pts_atP {l : List Mo} {i : Nat} (h : i < l.length) : (pts l)[i]? = some (.agg [.lst 1 (ints (gt l i).n), .lst 1 (ints (gt l i).e)]) := by
 rw [gt_nat h]; simp [pts, h, mD]
theorem pts_setP {l : List Mo} {i : Nat} {a b : List Int} : (pts l).set i (.agg [.lst 1 (ints a), .lst 1 (ints b)]) = pts (l.set i ⟨a, b⟩) := by simp [pts, List.map_set, mD]
attribute [go_sem] gls_length pts_setP
attribute [go_sem low] gls_at pts_atP
def sevV (a : G) (l : List G) (m : List Mo) : Nat → Nat → Int
 | 0, _ => 0
 | n + 1, i => if validM a (gt l i) (gt m i) ≠ 0 then validM a (gt l i) (gt m i) else sevV a l m n (i + 1)
def sevS (a : G) (l : List G) (m : List Mo) (i : Nat) (d : G) (out : List Mo) : Sp := ⟨a, d, gt l i, thenM (gt m ((0 : Nat) : Int)) (gt out ((0 : Nat) : Int)), gt m i⟩
def sevO (out : List Mo) (p q : Mo) : List Mo := out.map (fun o => thenM o p) ++ [q]
def sevGo (a : G) (l : List G) (m : List Mo) : Nat → Nat → G → List Mo → G × List Mo × Int
 | 0, _, d, out => (d, out, 0)
 | n + 1, i, d, out => if poErr (sevS a l m i d out) ≠ 0 then (g0, [], poErr (sevS a l m i d out)) else sevGo a l m n (i + 1) (poG (sevS a l m i d out)) (sevO out (poP (sevS a l m i d out)) (poK (sevS a l m i d out)))
def sevR (a : G) (l : List G) (m : List Mo) : G × List Mo × Int :=
 if l.length = 0 then (g0, [], 7) else if l.length ≠ m.length then (g0, [], 20) else if sevV a l m l.length 0 ≠ 0 then (g0, [], sevV a l m l.length 0)
 else sevGo a l m (l.length - 1) 1 (gt l ((0 : Nat) : Int)) [idM (gt l ((0 : Nat) : Int))]
def sevD (r : G × List Mo × Int) : D := .tup [gA r.1, .arr 2 (pts r.2.1), .int .i64 r.2.2]
section
variable (P : Program) (F : String → Nat)
def K_pushout_Several : Prop := ∀ (a : G) (l : List G) (m : List Mo), l.length ≤ 4 → m.length ≤ 5 → FC P (F "pushout.Several") [gD a, .lst 2 (gls l), .lst 2 (pts m)] (sevD (sevR a l m)) []
def K_r10_Several : Prop := ∀ (a : G) (l : List G) (m : List Mo), l.length ≤ 4 → m.length ≤ 5 → FC P (F "r10.Several") [gD a, .lst 2 (gls l), .lst 2 (pts m)] (sevD (sevR a l m)) []
end
section
variable {P : Program} {F : String → Nat} {α : Type}
structure SvOk (l : List G) (i : Nat) (d : G) (out : List Mo) : Prop where
 ln : out.length = i
 ok : ∀ k : Nat, k < i → MOk (gt l k) d (gt out k)
theorem sevO_ok {l : List G} {i : Nat} {d x : G} {out : List Mo} {p q : Mo} (h : SvOk l i d out) (hp : MOk d x p) (hq : MOk (gt l i) x q) : SvOk l (i + 1) x (sevO out p q) := by
 have hl := h.ln
 refine ⟨by simp [sevO, hl], fun k hk => ?_⟩
 unfold sevO
 by_cases c : k < i
 ·rw [gt_appL (by simp; omega), gt_map (by omega)]
  exact then_okP (h.ok k c) hp
 ·obtain rfl : k = i := by omega
  rw [gt_lastS (by simp [hl])]
  exact hq
theorem sevV_ok {a : G} {l : List G} {m : List Mo} : ∀ {n i : Nat}, sevV a l m n i = 0 → ∀ k : Nat, i ≤ k → k < i + n → MOk a (gt l k) (gt m k)
 | 0, i, _, k, h1, h2 => by omega
 | n + 1, i, h, k, h1, h2 => by
  rw [sevV] at h
  split at h
  ·rename_i e; exact absurd h e
  ·rename_i e
   by_cases c : k = i
   ·subst c; exact mok.1 (Decidable.not_not.1 e)
   ·exact sevV_ok h k (by omega) (by omega)
set_option maxHeartbeats 4000000 in
set_option maxRecDepth 100000 in
theorem w_pushout_Several (hv : K_morphism_Valid P F) (hid : K_morphism_Identity P F) (hcI : K_slices_Clone_I P F) (hcE : K_slices_Clone_E P F) (ht : K_pushout_then P F) (ho : K_pushout_Of P F) (a : G) (l : List G) (m : List Mo) (hl : l.length ≤ 4) (hm : m.length ≤ 5) :
  W P (c_pushout_Several F) (Done [.c 6 true 2, .t 7, .t 8] [] (sevD (sevR a l m)) []) (init [gD a, .lst 2 (gls l), .lst 2 (pts m)]) := by
 refine W_of ?_
 have hR : sevR a l m = if l.length = 0 then (g0, [], 7) else if l.length ≠ m.length then (g0, [], 20) else if sevV a l m l.length 0 ≠ 0 then (g0, [], sevV a l m l.length 0)
  else sevGo a l m (l.length - 1) 1 (gt l ((0 : Nat) : Int)) [idM (gt l ((0 : Nat) : Int))] := rfl
 have hp0 : pts [] = [] := rfl
 by_cases c1 : l.length = 0
 ·rw [if_pos c1] at hR
  rw [hR]
  have d1 : decide ((l.length : Int) = 0) = true := decide_eq_true (by omega)
  simp only [gD]
  simp (disch := omega) only [go_sem, ↓reduceIte, d1]
  simp [sevD, g0, gA, ints, eds, pts]
 rw [if_neg c1] at hR
 have d1 : decide ((l.length : Int) = 0) = false := decide_eq_false (by omega)
 by_cases c2 : l.length = m.length
 case neg =>
  rw [if_pos c2] at hR
  rw [hR]
  have d2 : decide ((m.length : Int) = l.length) = false := decide_eq_false (by omega)
  simp only [gD]
  simp (disch := omega) only [go_sem, ↓reduceIte, d1, d2]
  simp [sevD, g0, gA, ints, eds, pts]
 rw [if_neg (by simp [c2])] at hR
 have d2 : decide ((m.length : Int) = l.length) = true := decide_eq_true (by omega)
 have vO := @sevV_ok a l m
 obtain ⟨an, ae⟩ := a
 simp only [gD]
 simp (disch := omega) only [go_sem, ↓reduceIte, d1, d2]
 refine W_loop (fun i : Nat => ⟨[(1, .lst 2 (gls l)), (2, .lst 2 (pts m)), (3, .pt 0 0), (6, .pt 3 0), (32, .int .i64 l.length), (33, .int .i64 i)],
  [(0, .box [.lst 1 (ints an), .lst 3 (eds ae)]), (1, .arr 1 []), (2, .arr 3 []), (3, .box [.sl 1 0 0, .sl 2 0 0])], 4⟩) (fun i => i ≤ l.length ∧ sevV ⟨an, ae⟩ l m l.length 0 = sevV ⟨an, ae⟩ l m (l.length - i) i) (fun i => l.length - i) 0 ?_ ?_ ?_
 ·simp (disch := omega) only [go_sem, ↓reduceIte]
  rfl
 ·simp
 ·rintro i ⟨hi, hV⟩
  by_cases c : i < l.length
  ·have g1 : decide ((i : Int) < l.length) = true := decide_eq_true (by omega)
   have r := hv ⟨an, ae⟩ (gt l i) (gt m i)
   obtain ⟨n, hn⟩ : ∃ n, l.length - i = n + 1 := ⟨l.length - i - 1, by omega⟩
   rw [hn, sevV] at hV
   by_cases e : validM ⟨an, ae⟩ (gt l i) (gt m i) = 0
   ·rw [if_neg (by simp [e])] at hV
    rw [e] at r
    simp only [gD, mD] at r
    simp (disch := omega) only [go_sem, ↓reduceIte, c_pushout_Several_b12, g1]
    refine call_by r ?_
    simp (disch := omega) only [go_sem, ↓reduceIte]
    exact ⟨i + 1, by simp, ⟨by omega, by rw [hV, show l.length - (i + 1) = n by omega]⟩, by omega⟩
   ·rw [if_pos e] at hV
    rw [hV, if_pos e] at hR
    rw [hR]
    generalize validM ⟨an, ae⟩ (gt l i) (gt m i) = v at *
    simp only [gD, mD] at r
    simp (disch := omega) only [go_sem, ↓reduceIte, c_pushout_Several_b12, g1]
    refine call_by r ?_
    simp (disch := omega) only [go_sem, ↓reduceIte, e]
    simp [sevD, g0, gA, ints, eds, pts]
  ·have g1 : decide ((i : Int) < l.length) = false := decide_eq_false (by omega)
   obtain rfl : i = l.length := by omega
   rw [show l.length - l.length = 0 by omega, sevV] at hV
   rw [hV, if_neg (by simp)] at hR
   have hall : ∀ k : Nat, k < l.length → MOk ⟨an, ae⟩ (gt l k) (gt m k) := fun k hk => vO hV k (by omega) (by omega)
   have h0 := hall 0 (by omega)
   have v0 := valid_spec h0.vb
   have r1 := hid (gt l ((0 : Nat) : Int))
   rw [show idE (gt l ((0 : Nat) : Int)) = (idM (gt l ((0 : Nat) : Int)), 0) by unfold idE; rw [if_neg (fun e => e h0.vb)]] at r1
   have r2 := hcI (gt l ((0 : Nat) : Int)).n (by omega)
   have r3 := hcE (gt l ((0 : Nat) : Int)).e (by omega)
   have s0 : SvOk l 1 (gt l ((0 : Nat) : Int)) [idM (gt l ((0 : Nat) : Int))] := ⟨rfl, fun k hk => by
    obtain rfl : k = 0 := by omega
    exact idM_ok h0.vb⟩
   have hd0 : ∃ d : G, d = gt l ((0 : Nat) : Int) := ⟨_, rfl⟩
   obtain ⟨d0, hd0⟩ := hd0
   rw [← hd0] at r1 r2 r3 s0 hR
   generalize hom : idM d0 = om at *
   obtain ⟨d0n, d0e⟩ := d0
   obtain ⟨on, oe⟩ := om
   have h0g : (gt l ((0 : Nat) : Int)).n = d0n ∧ (gt l ((0 : Nat) : Int)).e = d0e := by rw [← hd0]; exact ⟨rfl, rfl⟩
   simp only [gD, gA, mA] at r1 r2 r3
   simp (disch := omega) only [go_sem, ↓reduceIte, c_pushout_Several_b12, g1, h0g.1, h0g.2]
   refine call_by r1 ?_
   simp (disch := omega) only [go_sem, ↓reduceIte, h0g.1, h0g.2]
   refine call_by r2 ?_
   simp (disch := omega) only [go_sem, ↓reduceIte, h0g.1, h0g.2]
   refine call_by r3 ?_
   simp (disch := omega) only [go_sem, ↓reduceIte]
   rw [hR]
   refine W_loop (fun s : Nat × G × List Mo => ⟨[(1, .lst 2 (gls l)), (2, .lst 2 (pts m)), (3, .pt 0 0), (6, .pt 3 0), (13, .pt 6 0), (14, .sl 7 0 s.1), (15, .int .i64 s.1)],
    [(0, .box [.lst 1 (ints an), .lst 3 (eds ae)]), (1, .arr 1 []), (2, .arr 3 []), (3, .box [.sl 1 0 0, .sl 2 0 0]), (4, .arr 1 (ints s.2.1.n)), (5, .arr 3 (eds s.2.1.e)), (6, .box [.sl 4 0 s.2.1.n.length, .sl 5 0 s.2.1.e.length]), (7, .arr 2 (pts s.2.2))], 8⟩)
    (fun s => (1 ≤ s.1 ∧ s.1 ≤ l.length) ∧ sevGo ⟨an, ae⟩ l m (l.length - 1) 1 ⟨d0n, d0e⟩ [⟨on, oe⟩] = sevGo ⟨an, ae⟩ l m (l.length - s.1) s.1 s.2.1 s.2.2 ∧ SvOk l s.1 s.2.1 s.2.2) (fun s => l.length - s.1) (1, ⟨d0n, d0e⟩, [⟨on, oe⟩]) ?_ ?_ ?_
   ·simp (disch := omega) only [go_sem, ↓reduceIte]
    rfl
   ·exact ⟨⟨by omega, by omega⟩, rfl, s0⟩
   ·rintro ⟨i, ⟨dn, de⟩, out⟩ ⟨⟨i1, i2⟩, hgo, hok⟩
    simp only at i1 i2 hgo hok
    rw [hgo]
    have hol := hok.ln
    have pol := pts_length out
    by_cases c : i < l.length
    ·have g2 : decide ((i : Int) < l.length) = true := decide_eq_true (by omega)
     obtain ⟨n, hn⟩ : ∃ n, l.length - i = n + 1 := ⟨l.length - i - 1, by omega⟩
     rw [hn, sevGo]
     have m0 := hall 0 (by omega)
     have o0 := hok.ok 0 (by omega)
     have mi := hall i c
     have bm := validM_bd (mok.2 m0)
     have vm := valid_spec m0.va
     have l1 := m0.ln
     have l2 := m0.le
     have t1 := ht (gt m ((0 : Nat) : Int)) (gt out ((0 : Nat) : Int)) (by omega) (by omega) (by rw [o0.ln]; exact bm.1) (by rw [o0.le]; exact bm.2)
     have t2 := ho (sevS ⟨an, ae⟩ l m i ⟨dn, de⟩ out)
     have hsp : spE (sevS ⟨an, ae⟩ l m i ⟨dn, de⟩ out) = 0 := spE_ok.2 ⟨then_okP m0 o0, mi⟩
     have hS : spD (sevS ⟨an, ae⟩ l m i ⟨dn, de⟩ out) = .agg [.lst 1 (ints an), .lst 3 (eds ae), .lst 1 (ints dn), .lst 3 (eds de), .lst 1 (ints (gt l i).n), .lst 3 (eds (gt l i).e), .lst 1 (ints (thenM (gt m ((0 : Nat) : Int)) (gt out ((0 : Nat) : Int))).n), .lst 1 (ints (thenM (gt m ((0 : Nat) : Int)) (gt out ((0 : Nat) : Int))).e), .lst 1 (ints (gt m i).n), .lst 1 (ints (gt m i).e)] := rfl
     rw [hS] at t2
     clear hS
     by_cases e : poErr (sevS ⟨an, ae⟩ l m i ⟨dn, de⟩ out) = 0
     ·rw [if_neg (by simp [e])]
      have hso := poErr_ok.1 e
      rw [poR_ok hso] at t2
      have hp : MOk ⟨dn, de⟩ (poG (sevS ⟨an, ae⟩ l m i ⟨dn, de⟩ out)) (poP (sevS ⟨an, ae⟩ l m i ⟨dn, de⟩ out)) := hso.p
      have hk : MOk (gt l i) (poG (sevS ⟨an, ae⟩ l m i ⟨dn, de⟩ out)) (poK (sevS ⟨an, ae⟩ l m i ⟨dn, de⟩ out)) := hso.k
      have hnx := sevO_ok hok hp hk
      have hT : ∀ k : Nat, k < i → FC P (F "pushout.then") [mD (gt out k), mD (poP (sevS ⟨an, ae⟩ l m i ⟨dn, de⟩ out))] (mA (thenM (gt out k) (poP (sevS ⟨an, ae⟩ l m i ⟨dn, de⟩ out)))) [] := fun k hk => by
       have q := hok.ok k hk
       have qv := valid_spec q.va
       have q1 := q.ln
       have q2 := q.le
       have qb := validM_bd (mok.2 q)
       exact ht _ _ (by omega) (by omega) (by rw [hp.ln]; exact qb.1) (by rw [hp.le]; exact qb.2)
      have hO : ∀ p q, sevO out p q = out.map (fun o => thenM o p) ++ [q] := fun p q => rfl
      clear hso hp hk e hsp o0 m0 mi bm vm l1 l2
      generalize poG (sevS ⟨an, ae⟩ l m i ⟨dn, de⟩ out) = x at *
      generalize poP (sevS ⟨an, ae⟩ l m i ⟨dn, de⟩ out) = p at *
      generalize poK (sevS ⟨an, ae⟩ l m i ⟨dn, de⟩ out) = q at *
      generalize thenM (gt m ((0 : Nat) : Int)) (gt out ((0 : Nat) : Int)) = f at *
      obtain ⟨xn, xe⟩ := x
      obtain ⟨pn, pe⟩ := p
      obtain ⟨qn, qe⟩ := q
      obtain ⟨fn, fe⟩ := f
      simp only [poD, gD, gA, mD, mA] at t1 t2 hT
      cases hfl : (pts out).all D.flatE
      all_goals
       simp (disch := omega) only [go_sem, ↓reduceIte, c_pushout_Several_b30, g2, hol]
       refine call_by t1 ?_
       simp (disch := omega) only [go_sem, ↓reduceIte]
       refine call_by t2 ?_
       simp (disch := omega) only [go_sem, ↓reduceIte]
       refine W_loop (fun s : Nat × List Mo => ⟨[(1, .lst 2 (gls l)), (2, .lst 2 (pts m)), (3, .pt 0 0), (6, .pt 3 0), (13, .pt 6 0), (14, .sl 7 0 i), (15, .int .i64 i), (16, .pt 10 0), (17, .pt 13 0), (18, .pt 16 0), (110, .int .i64 i), (111, .int .i64 s.1)],
        [(0, .box [.lst 1 (ints an), .lst 3 (eds ae)]), (1, .arr 1 []), (2, .arr 3 []), (3, .box [.sl 1 0 0, .sl 2 0 0]), (4, .arr 1 (ints dn)), (5, .arr 3 (eds de)), (6, .box [.sl 4 0 dn.length, .sl 5 0 de.length]), (7, .arr 2 (pts s.2)),
         (8, .arr 1 (ints xn)), (9, .arr 3 (eds xe)), (10, .box [.sl 8 0 xn.length, .sl 9 0 xe.length]), (11, .arr 1 (ints pn)), (12, .arr 1 (ints pe)), (13, .box [.sl 11 0 pn.length, .sl 12 0 pe.length]), (14, .arr 1 (ints qn)), (15, .arr 1 (ints qe)), (16, .box [.sl 14 0 qn.length, .sl 15 0 qe.length])], 17⟩)
        (fun s => s.1 ≤ i ∧ s.2.length = i ∧ (∀ k : Nat, k < s.1 → gt s.2 k = thenM (gt out k) ⟨pn, pe⟩) ∧ ∀ k : Nat, s.1 ≤ k → gt s.2 k = gt out k) (fun s => i - s.1) (0, out) ?_ ?_ ?_
       ·simp (disch := omega) only [go_sem, ↓reduceIte, hol]
        rfl
       ·exact ⟨by omega, hol, fun k hk => by omega, fun k hk => rfl⟩
       ·rintro ⟨k, o⟩ ⟨k1, k2, k3, k4⟩
        simp only at k1 k2 k3 k4
        by_cases c : k < i
        ·have g3 : decide ((k : Int) < i) = true := decide_eq_true (by omega)
         have r := hT k c
         have ok := k4 k (by omega)
         have ok1 : (gt o k).n = (gt out k).n := by rw [ok]
         have ok2 : (gt o k).e = (gt out k).e := by rw [ok]
         generalize hx : thenM (gt out k) ⟨pn, pe⟩ = x at *
         obtain ⟨xn', xe'⟩ := x
         simp only at r
         simp (disch := omega) only [go_sem, ↓reduceIte, c_pushout_Several_b27, g3, k2, ok1, ok2]
         refine call_by r ?_
         simp (disch := omega) only [go_sem, ↓reduceIte, k2]
         refine ⟨(k + 1, o.set k ⟨xn', xe'⟩), by simp, ⟨by simp only; omega, by simp [k2], fun j hj => ?_, fun j hj => ?_⟩, by simp only; omega⟩
         ·simp only at hj ⊢
          by_cases y : j < i
          ·rw [gt_setS (by omega)]
           split
           ·rename_i z; subst z; exact hx.symm
           ·exact k3 j (by omega)
          ·omega
         ·simp only at hj ⊢
          by_cases y : j < i
          ·rw [gt_setS (by omega), if_neg (by omega)]
           exact k4 j (by omega)
          ·have := k4 j (by omega)
           rw [← this]
           simp only [gt, Int.toNat_natCast, List.getD_eq_getElem?_getD]
           rw [List.getElem?_eq_none (by simp; omega), List.getElem?_eq_none (by omega)]
        ·have g3 : decide ((k : Int) < i) = false := decide_eq_false (by omega)
         obtain rfl : k = i := by omega
         have ho : o = out.map (fun o => thenM o ⟨pn, pe⟩) := list_ext_gt (by simp; omega) fun j hj => by rw [gt_map (by omega)]; exact k3 j (by omega)
         subst ho
         have hOO := hO ⟨pn, pe⟩ ⟨qn, qe⟩
         simp (disch := omega) only [go_sem, ↓reduceIte, c_pushout_Several_b27, g3, k2]
         exact ⟨(k + 1, ⟨xn, xe⟩, sevO out ⟨pn, pe⟩ ⟨qn, qe⟩), by simp [hOO], ⟨⟨by simp only; omega, by simp only; omega⟩, by simp only; rw [show l.length - (k + 1) = n by omega], hnx⟩, by simp only; omega⟩
     ·rw [if_pos e]
      have hE : poR (sevS ⟨an, ae⟩ l m i ⟨dn, de⟩ out) = (g0, Am.m0, Am.m0, poErr (sevS ⟨an, ae⟩ l m i ⟨dn, de⟩ out)) := by unfold poR; rw [if_neg e]
      rw [hE] at t2
      generalize poErr (sevS ⟨an, ae⟩ l m i ⟨dn, de⟩ out) = v at *
      generalize thenM (gt m ((0 : Nat) : Int)) (gt out ((0 : Nat) : Int)) = f at *
      obtain ⟨fn, fe⟩ := f
      simp only [poD, gD, gA, mD, mA, g0, Am.m0] at t1 t2
      cases hfl : (pts out).all D.flatE
      all_goals
       simp (disch := omega) only [go_sem, ↓reduceIte, c_pushout_Several_b30, g2, hol]
       refine call_by t1 ?_
       simp (disch := omega) only [go_sem, ↓reduceIte]
       refine call_by t2 ?_
       simp (disch := omega) only [go_sem, ↓reduceIte, e]
       simp [sevD, g0, gA, ints, eds, pts]
    ·have g2 : decide ((i : Int) < l.length) = false := decide_eq_false (by omega)
     obtain rfl : i = l.length := by omega
     rw [show l.length - l.length = 0 by omega, sevGo]
     simp (disch := omega) only [go_sem, ↓reduceIte, c_pushout_Several_b30, g2, hol]
     try rfl
end
@[go_sem] def c_l10_PushoutSeveral_r0 : LL := [qB 3 0,qb 6 false]
@[go_sem] def c_l10_PushoutSeveral_r1 (F : Fn) : LL := [qc 17 (F "l10.awake") [],qv 18 17,qm 19 18,qg 19 false (qL 20 2 3),qg 19 false (qc 21 (F "r05.Few") [.t 20]),qg 19 false (qv 22 21),qQ 23 19 22,qm 24 23,qg 24 false (qm 25 1),qg 24 false (qz 26 25),
 qg 24 false (qk .gtr 27 26 4),qQ 28 24 27,qm 29 28,qg 29 false (qm 30 2),qg 29 false (qz 31 30),qg 29 false (qk .gtr 32 31 5),qQ 33 29 32]
@[go_sem] def c_l10_PushoutSeveral_r2 (F : Fn) : LL := [qc 34 (F "l10.awake") [],qm 6 34]
@[go_sem] def c_l10_PushoutSeveral_r3 : LL := [qm 35 1,qz 36 35,qi 37 0]
@[go_sem] def c_l10_PushoutSeveral_r4 : LL := [qo .lss 38 37 36]
@[go_sem] def c_l10_PushoutSeveral_r5 : LL := [qd 39 2 35 37,qL 40 2 39,qa 8 [.nl 1,.nl 3],qs 2 8 40]
@[go_sem] def c_l10_PushoutSeveral_r6 (F : Fn) : LL := [qL 41 2 8,qc 42 (F "r05.Few") [.t 41],qv 43 42]
@[go_sem] def c_l10_PushoutSeveral_r7 : LL := [qb 6 true]
@[go_sem] def c_l10_PushoutSeveral_r8 : LL := [qk .add 44 37 1,qm 37 44]
def c_l10_PushoutSeveral_b9 (F : Fn) : LC := (.seq (.reg c_l10_PushoutSeveral_r4 [1,2,3,35,36,37,38]) (.seq (.cond (.t 38) .skip (.exit 0)) (.seq (.block 1 (.seq (.reg c_l10_PushoutSeveral_r5 [1,2,3,8,35,36,37]) (.seq (.reg (c_l10_PushoutSeveral_r6 F) [1,2,3,35,36,37,43]) (.cond (.t 43) (.seq (.reg c_l10_PushoutSeveral_r7 [6]) .ret) .skip)))) (.reg c_l10_PushoutSeveral_r8 [1,2,3,35,36,37]))))
@[go_sem] def c_l10_PushoutSeveral_r10 : LL := [qm 45 2,qz 46 45,qi 47 0]
@[go_sem] def c_l10_PushoutSeveral_r11 : LL := [qo .lss 48 47 46]
@[go_sem] def c_l10_PushoutSeveral_r12 : LL := [qd 49 2 45 47,qL 50 2 49,qa 10 [.nl 1,.nl 1],qs 2 10 50]
@[go_sem] def c_l10_PushoutSeveral_r13 (F : Fn) : LL := [qL 51 2 10,qc 52 (F "r06.Few") [.t 51,.k (.int .i64 (140))],qv 53 52]
@[go_sem] def c_l10_PushoutSeveral_r14 : LL := [qb 6 true]
@[go_sem] def c_l10_PushoutSeveral_r15 : LL := [qk .add 54 47 1,qm 47 54]
def c_l10_PushoutSeveral_b16 (F : Fn) : LC := (.seq (.reg c_l10_PushoutSeveral_r11 [1,2,3,45,46,47,48]) (.seq (.cond (.t 48) .skip (.exit 2)) (.seq (.block 3 (.seq (.reg c_l10_PushoutSeveral_r12 [1,2,3,10,45,46,47]) (.seq (.reg (c_l10_PushoutSeveral_r13 F) [1,2,3,45,46,47,53]) (.cond (.t 53) (.seq (.reg c_l10_PushoutSeveral_r14 [6]) .ret) .skip)))) (.reg c_l10_PushoutSeveral_r15 [1,2,3,45,46,47]))))
@[go_sem] def c_l10_PushoutSeveral_r17 (F : Fn) : LL := [qL 56 2 3,qm 57 1,qc 58 (F "slices.Clone.apiGraph") [.t 57],qm 59 2,qc 60 (F "slices.Clone.apiMorphism") [.t 59],qc 61 (F "pushout.Several") [.t 56,.t 58,.t 60],qm 55 61,qx 62 55 0,qx 63 55 1,qx 64 55 2,qa 11 [.nl 1,.nl 3],qs 2 11 62,qm 12 63,
 qm 13 64]
@[go_sem] def c_l10_PushoutSeveral_r18 (F : Fn) : LL := [qL 66 2 3,qm 67 1,qm 68 2,qc 69 (F "r10.Several") [.t 66,.t 67,.t 68],qm 65 69,qx 70 65 0,qx 71 65 1,qx 72 65 2,qa 14 [.nl 1,.nl 3],qs 2 14 70,qm 15 71,qm 16 72]
@[go_sem] def c_l10_PushoutSeveral_r19 (F : Fn) : LL := [qm 73 13,qm 74 16,qo .eql 75 73 74,qm 76 75,qg 76 true (qL 77 2 11),qg 76 true (qL 78 2 14),qg 76 true (qc 79 (F "r05.Same") [.t 77,.t 78]),qP 80 76 79,qm 81 80,qg 81 true (qm 82 12),
 qg 81 true (qm 83 15),qg 81 true (qc 84 (F "r06.SameAll") [.t 82,.t 83]),qP 85 81 84,qm 6 85]
@[go_sem] def c_l10_PushoutSeveral (F : Fn) : LC := (.seq (.reg c_l10_PushoutSeveral_r0 [1,2,3]) (.seq (.seq (.reg (c_l10_PushoutSeveral_r1 F) [1,2,3,33]) (.cond (.t 33) (.seq (.reg (c_l10_PushoutSeveral_r2 F) [6]) .ret) .skip)) (.seq (.seq (.reg c_l10_PushoutSeveral_r3 [1,2,3,35,36,37]) (.block 0 (.loop [1,2,3,35,36,37] (c_l10_PushoutSeveral_b9 F)))) (.seq (.seq (.reg c_l10_PushoutSeveral_r10 [1,2,3,45,46,47]) (.block 2 (.loop [1,2,3,45,46,47] (c_l10_PushoutSeveral_b16 F)))) (.seq (.dreg [(0,none,[],true),(2,none,[0],false),(4,none,[0],false)] (c_l10_PushoutSeveral_r17 F) [1,2,3,11,12,13]) (.seq (.reg (c_l10_PushoutSeveral_r18 F) [11,12,13,14,15,16]) (.seq (.reg (c_l10_PushoutSeveral_r19 F) [6]) .ret)))))))
def h_l10_PushoutSeveral : Hints := hOf [] (c_l10_PushoutSeveral fun _ => 0)
@[go_sem] def c_slices_Clone_apiGraph_r0 : LL := [qn 2 2]
@[go_sem] def c_slices_Clone_apiGraph_r1 : LL := [qm 3 0,⟨some 4,.isnil false (.t 3),none⟩]
@[go_sem] def c_slices_Clone_apiGraph_r2 : LL := [qn 2 2]
@[go_sem] def c_slices_Clone_apiGraph_r3 : LL := [⟨some 5,.buildSl 2 48 (.agg [.lst 1 [],.lst 3 []]) 0 [],none⟩,qm 6 0,qp 7 2 48 5 6,qm 2 7]
@[go_sem] def c_slices_Clone_apiGraph (F : Fn) : LC := (.seq (.reg c_slices_Clone_apiGraph_r0 [0]) (.seq (.seq (.reg c_slices_Clone_apiGraph_r1 [0,4]) (.cond (.t 4) (.seq (.reg c_slices_Clone_apiGraph_r2 [2]) .ret) .skip)) (.seq (.reg c_slices_Clone_apiGraph_r3 [2]) .ret)))
def h_slices_Clone_apiGraph : Hints := hOf [] (c_slices_Clone_apiGraph fun _ => 0)
@[go_sem] def c_slices_Clone_apiMorphism_r0 : LL := [qn 2 2]
@[go_sem] def c_slices_Clone_apiMorphism_r1 : LL := [qm 3 0,⟨some 4,.isnil false (.t 3),none⟩]
@[go_sem] def c_slices_Clone_apiMorphism_r2 : LL := [qn 2 2]
@[go_sem] def c_slices_Clone_apiMorphism_r3 : LL := [⟨some 5,.buildSl 2 48 (.agg [.lst 1 [],.lst 1 []]) 0 [],none⟩,qm 6 0,qp 7 2 48 5 6,qm 2 7]
@[go_sem] def c_slices_Clone_apiMorphism (F : Fn) : LC := (.seq (.reg c_slices_Clone_apiMorphism_r0 [0]) (.seq (.seq (.reg c_slices_Clone_apiMorphism_r1 [0,4]) (.cond (.t 4) (.seq (.reg c_slices_Clone_apiMorphism_r2 [2]) .ret) .skip)) (.seq (.reg c_slices_Clone_apiMorphism_r3 [2]) .ret)))
def h_slices_Clone_apiMorphism : Hints := hOf [] (c_slices_Clone_apiMorphism fun _ => 0)
section
variable (P : Program) (F : String → Nat)
def K_slices_Clone_apiGraph : Prop := ∀ l : List G, l.length ≤ 1000 → FC P (F "slices.Clone.apiGraph") [.lst 2 (gls l)] (.arr 2 (gls l)) []
def K_slices_Clone_apiMorphism : Prop := ∀ l : List Mo, l.length ≤ 1000 → FC P (F "slices.Clone.apiMorphism") [.lst 2 (pts l)] (.arr 2 (pts l)) []
def K_l10_PushoutSeveral : Prop := ∀ (a : G) (l : List G) (m : List Mo), l.length ≤ maxL → m.length ≤ maxL → (∀ x ∈ m, x.sm) → FC P (F "l10.PushoutSeveral") [gD a, .lst 2 (gls l), .lst 2 (pts m)] (.bool true) []
end
section
variable {P : Program} {F : String → Nat} {α : Type}
theorem gls_nil : gls [] = [] := rfl
theorem pts_nilQ : pts [] = [] := rfl
theorem w_slices_Clone_apiGraph (l : List G) (hl : l.length ≤ 1000) : W P (c_slices_Clone_apiGraph F) (Done [.t 2] [] (.arr 2 (gls l)) []) (init [.lst 2 (gls l)]) := by
 refine W_of ?_
 simp (disch := omega) only [go_sem, ↓reduceIte]
 refine nil_by (fun h => ?_) (fun _ => ?_)
 ·have : l = [] := by simpa [gls] using h
  subst this
  simp (disch := omega) only [go_sem, ↓reduceIte, gls_nil]
 ·cases hfl : (gls l).all D.flatE
  all_goals simp (disch := omega) only [go_sem, ↓reduceIte, hfl]
theorem w_slices_Clone_apiMorphism (l : List Mo) (hl : l.length ≤ 1000) : W P (c_slices_Clone_apiMorphism F) (Done [.t 2] [] (.arr 2 (pts l)) []) (init [.lst 2 (pts l)]) := by
 refine W_of ?_
 simp (disch := omega) only [go_sem, ↓reduceIte]
 refine nil_by (fun h => ?_) (fun _ => ?_)
 ·have : l = [] := by simpa [pts] using h
  subst this
  simp (disch := omega) only [go_sem, ↓reduceIte, pts_nilQ]
 ·cases hfl : (pts l).all D.flatE
  all_goals simp (disch := omega) only [go_sem, ↓reduceIte, hfl]
theorem then_idP {b d : G} {m : Mo} (hm : MOk b d m) : thenM m (idM d) = m := by
 have l1 := hm.ln
 have l2 := hm.le
 refine mo_ext (list_ext_gt (by simp only [thenM, thr_len]) fun i hi => ?_) (list_ext_gt (by simp only [thenM, thr_len]) fun i hi => ?_)
 ·simp only [thenM, thr_len] at hi ⊢
  obtain ⟨k, hk, hk2⟩ := gtI (hm.nd i (by omega)).1
  rw [thr_gt hi, hk2]; exact nums_gt hk
 ·simp only [thenM, thr_len] at hi ⊢
  obtain ⟨k, hk, hk2⟩ := gtI (hm.ed i (by omega)).1
  rw [thr_gt hi, hk2]; exact nums_gt hk
def r10O (a : G) (l : List G) (m : List Mo) (b : Bool) (i : Nat) (d : G) (out : List Mo) (f : Mo) : St := match b with
 | true => ⟨[(1, .lst 2 (gls l)), (2, .lst 2 (pts m)), (3, .pt 0 0), (6, .pt 3 0), (11, .pt 6 0), (12, .pt 7 0), (13, .sl 8 0 i), (14, .int .i64 i)],
   [(0, .box [.lst 1 (ints a.n), .lst 3 (eds a.e)]), (1, .arr 1 []), (2, .arr 3 []), (3, .box [.sl 1 0 0, .sl 2 0 0]), (4, .arr 1 (ints d.n)), (5, .arr 3 (eds d.e)), (6, .box [.sl 4 0 d.n.length, .sl 5 0 d.e.length]), (7, .box [.lst 1 (ints f.n), .lst 1 (ints f.e)]), (8, .arr 2 (pts out))], 9⟩
 | false => ⟨[(1, .lst 2 (gls l)), (2, .lst 2 (pts m)), (3, .pt 0 0), (6, .pt 3 0), (11, .pt 6 0), (12, .pt 9 0), (13, .sl 10 0 i), (14, .int .i64 i)],
   [(0, .box [.lst 1 (ints a.n), .lst 3 (eds a.e)]), (1, .arr 1 []), (2, .arr 3 []), (3, .box [.sl 1 0 0, .sl 2 0 0]), (4, .arr 1 (ints d.n)), (5, .arr 3 (eds d.e)), (6, .box [.sl 4 0 d.n.length, .sl 5 0 d.e.length]), (7, .arr 1 (ints f.n)), (8, .arr 1 (ints f.e)), (9, .box [.sl 7 0 f.n.length, .sl 8 0 f.e.length]), (10, .arr 2 (pts out))], 11⟩
def r10I (a : G) (l : List G) (m : List Mo) (b : Bool) (i : Nat) (d : G) (out : List Mo) (f : Mo) (x : G) (p q : Mo) (k : Nat) : St := match b with
 | true => ⟨[(1, .lst 2 (gls l)), (2, .lst 2 (pts m)), (3, .pt 0 0), (6, .pt 3 0), (11, .pt 6 0), (12, .pt 7 0), (13, .sl 8 0 i), (14, .int .i64 i), (15, .pt 11 0), (16, .pt 14 0), (17, .pt 17 0), (19, .int .i64 k)],
   [(0, .box [.lst 1 (ints a.n), .lst 3 (eds a.e)]), (1, .arr 1 []), (2, .arr 3 []), (3, .box [.sl 1 0 0, .sl 2 0 0]), (4, .arr 1 (ints d.n)), (5, .arr 3 (eds d.e)), (6, .box [.sl 4 0 d.n.length, .sl 5 0 d.e.length]), (7, .box [.lst 1 (ints f.n), .lst 1 (ints f.e)]), (8, .arr 2 (pts out)),
    (9, .arr 1 (ints x.n)), (10, .arr 3 (eds x.e)), (11, .box [.sl 9 0 x.n.length, .sl 10 0 x.e.length]), (12, .arr 1 (ints p.n)), (13, .arr 1 (ints p.e)), (14, .box [.sl 12 0 p.n.length, .sl 13 0 p.e.length]), (15, .arr 1 (ints q.n)), (16, .arr 1 (ints q.e)), (17, .box [.sl 15 0 q.n.length, .sl 16 0 q.e.length])], 18⟩
 | false => ⟨[(1, .lst 2 (gls l)), (2, .lst 2 (pts m)), (3, .pt 0 0), (6, .pt 3 0), (11, .pt 6 0), (12, .pt 9 0), (13, .sl 10 0 i), (14, .int .i64 i), (15, .pt 13 0), (16, .pt 16 0), (17, .pt 19 0), (19, .int .i64 k)],
   [(0, .box [.lst 1 (ints a.n), .lst 3 (eds a.e)]), (1, .arr 1 []), (2, .arr 3 []), (3, .box [.sl 1 0 0, .sl 2 0 0]), (4, .arr 1 (ints d.n)), (5, .arr 3 (eds d.e)), (6, .box [.sl 4 0 d.n.length, .sl 5 0 d.e.length]), (7, .arr 1 (ints f.n)), (8, .arr 1 (ints f.e)), (9, .box [.sl 7 0 f.n.length, .sl 8 0 f.e.length]), (10, .arr 2 (pts out)),
    (11, .arr 1 (ints x.n)), (12, .arr 3 (eds x.e)), (13, .box [.sl 11 0 x.n.length, .sl 12 0 x.e.length]), (14, .arr 1 (ints p.n)), (15, .arr 1 (ints p.e)), (16, .box [.sl 14 0 p.n.length, .sl 15 0 p.e.length]), (17, .arr 1 (ints q.n)), (18, .arr 1 (ints q.e)), (19, .box [.sl 17 0 q.n.length, .sl 18 0 q.e.length])], 20⟩
set_option maxHeartbeats 8000000 in
set_option maxRecDepth 100000 in
theorem w_r10_Several (hv : K_r06_Valid P F) (hcp : K_r05_Copied P F) (hof : K_r06_Of P F) (ht : K_r06_Then P F) (ho : K_r10_Of P F) (a : G) (l : List G) (m : List Mo) (hl : l.length ≤ 4) (hm : m.length ≤ 5) :
  W P (c_r10_Several F) (Done [.c 6 true 2, .t 7, .t 8] [] (sevD (sevR a l m)) []) (init [gD a, .lst 2 (gls l), .lst 2 (pts m)]) := by
 refine W_of ?_
 have hR : sevR a l m = if l.length = 0 then (g0, [], 7) else if l.length ≠ m.length then (g0, [], 20) else if sevV a l m l.length 0 ≠ 0 then (g0, [], sevV a l m l.length 0)
  else sevGo a l m (l.length - 1) 1 (gt l ((0 : Nat) : Int)) [idM (gt l ((0 : Nat) : Int))] := rfl
 by_cases c1 : l.length = 0
 ·rw [if_pos c1] at hR
  rw [hR]
  have d1 : decide ((l.length : Int) = 0) = true := decide_eq_true (by omega)
  simp only [gD]
  simp (disch := omega) only [go_sem, ↓reduceIte, d1]
  simp [sevD, g0, gA, ints, eds, pts]
 rw [if_neg c1] at hR
 have d1 : decide ((l.length : Int) = 0) = false := decide_eq_false (by omega)
 by_cases c2 : l.length = m.length
 case neg =>
  rw [if_pos c2] at hR
  rw [hR]
  have d2 : decide ((l.length : Int) = m.length) = false := decide_eq_false (by omega)
  simp only [gD]
  simp (disch := omega) only [go_sem, ↓reduceIte, d1, d2]
  simp [sevD, g0, gA, ints, eds, pts]
 rw [if_neg (by simp [c2])] at hR
 have d2 : decide ((l.length : Int) = m.length) = true := decide_eq_true (by omega)
 have vO := @sevV_ok a l m
 obtain ⟨an, ae⟩ := a
 simp only [gD]
 simp (disch := omega) only [go_sem, ↓reduceIte, d1, d2]
 refine W_loop (fun i : Nat => ⟨[(1, .lst 2 (gls l)), (2, .lst 2 (pts m)), (3, .pt 0 0), (6, .pt 3 0), (9, .int .i64 i)],
  [(0, .box [.lst 1 (ints an), .lst 3 (eds ae)]), (1, .arr 1 []), (2, .arr 3 []), (3, .box [.sl 1 0 0, .sl 2 0 0])], 4⟩) (fun i => i ≤ l.length ∧ sevV ⟨an, ae⟩ l m l.length 0 = sevV ⟨an, ae⟩ l m (l.length - i) i) (fun i => l.length - i) 0 ?_ ?_ ?_
 ·simp (disch := omega) only [go_sem, ↓reduceIte]
  rfl
 ·simp
 ·rintro i ⟨hi, hV⟩
  by_cases c : i < l.length
  ·have g1 : decide ((i : Int) < l.length) = true := decide_eq_true (by omega)
   have r := hv ⟨an, ae⟩ (gt l i) (gt m i)
   obtain ⟨n, hn⟩ : ∃ n, l.length - i = n + 1 := ⟨l.length - i - 1, by omega⟩
   rw [hn, sevV] at hV
   by_cases e : validM ⟨an, ae⟩ (gt l i) (gt m i) = 0
   ·rw [if_neg (by simp [e])] at hV
    rw [e] at r
    simp only [gD, mD] at r
    simp (disch := omega) only [go_sem, ↓reduceIte, c_r10_Several_b11, g1]
    refine call_by r ?_
    simp (disch := omega) only [go_sem, ↓reduceIte]
    exact ⟨i + 1, by simp, ⟨by omega, by rw [hV, show l.length - (i + 1) = n by omega]⟩, by omega⟩
   ·rw [if_pos e] at hV
    rw [hV, if_pos e] at hR
    rw [hR]
    generalize validM ⟨an, ae⟩ (gt l i) (gt m i) = v at *
    simp only [gD, mD] at r
    simp (disch := omega) only [go_sem, ↓reduceIte, c_r10_Several_b11, g1]
    refine call_by r ?_
    simp (disch := omega) only [go_sem, ↓reduceIte, e]
    simp [sevD, g0, gA, ints, eds, pts]
  ·have g1 : decide ((i : Int) < l.length) = false := decide_eq_false (by omega)
   obtain rfl : i = l.length := by omega
   rw [show l.length - l.length = 0 by omega, sevV] at hV
   rw [hV, if_neg (by simp)] at hR
   have hall : ∀ k : Nat, k < l.length → MOk ⟨an, ae⟩ (gt l k) (gt m k) := fun k hk => vO hV k (by omega) (by omega)
   have h0 := hall 0 (by omega)
   have v0 := valid_spec h0.vb
   have r1 := hcp (gt l ((0 : Nat) : Int)) (by omega) (by omega)
   have r2 := hof (gt l ((0 : Nat) : Int)) (by omega) (by omega)
   have s0 : SvOk l 1 (gt l ((0 : Nat) : Int)) [idM (gt l ((0 : Nat) : Int))] := ⟨rfl, fun k hk => by
    obtain rfl : k = 0 := by omega
    exact idM_ok h0.vb⟩
   have f0 : gt m ((0 : Nat) : Int) = thenM (gt m ((0 : Nat) : Int)) (idM (gt l ((0 : Nat) : Int))) := (then_idP h0).symm
   have hd0 : ∃ d : G, d = gt l ((0 : Nat) : Int) := ⟨_, rfl⟩
   obtain ⟨d0, hd0⟩ := hd0
   rw [← hd0] at r1 r2 s0 hR f0
   generalize hom : idM d0 = om at *
   obtain ⟨d0n, d0e⟩ := d0
   obtain ⟨on, oe⟩ := om
   have h0g : (gt l ((0 : Nat) : Int)).n = d0n ∧ (gt l ((0 : Nat) : Int)).e = d0e := by rw [← hd0]; exact ⟨rfl, rfl⟩
   simp only [gD, gA, mA] at r1 r2
   simp (disch := omega) only [go_sem, ↓reduceIte, c_r10_Several_b11, g1, h0g.1, h0g.2]
   refine call_by r1 ?_
   simp (disch := omega) only [go_sem, ↓reduceIte, h0g.1, h0g.2]
   refine call_by r2 ?_
   simp (disch := omega) only [go_sem, ↓reduceIte]
   rw [hR]
   refine W_loop (fun s : Bool × Nat × G × List Mo × Mo => r10O ⟨an, ae⟩ l m s.1 s.2.1 s.2.2.1 s.2.2.2.1 s.2.2.2.2)
    (fun s => (1 ≤ s.2.1 ∧ s.2.1 ≤ l.length) ∧ sevGo ⟨an, ae⟩ l m (l.length - 1) 1 ⟨d0n, d0e⟩ [⟨on, oe⟩] = sevGo ⟨an, ae⟩ l m (l.length - s.2.1) s.2.1 s.2.2.1 s.2.2.2.1 ∧ SvOk l s.2.1 s.2.2.1 s.2.2.2.1 ∧ s.2.2.2.2 = thenM (gt m ((0 : Nat) : Int)) (gt s.2.2.2.1 ((0 : Nat) : Int)))
    (fun s => l.length - s.2.1) (true, 1, ⟨d0n, d0e⟩, [⟨on, oe⟩], gt m ((0 : Nat) : Int)) ?_ ?_ ?_
   ·simp (disch := omega) only [go_sem, ↓reduceIte, r10O]
    rfl
   ·exact ⟨⟨by simp only; omega, by simp only; omega⟩, rfl, s0, f0⟩
   ·rintro ⟨b, i, ⟨dn, de⟩, out, f⟩ ⟨⟨i1, i2⟩, hgo, hok, hf⟩
    simp only at i1 i2 hgo hok hf
    rw [hgo]
    have hol := hok.ln
    have pol := pts_length out
    by_cases c : i < l.length
    ·have g2 : decide ((i : Int) < l.length) = true := decide_eq_true (by omega)
     obtain ⟨n, hn⟩ : ∃ n, l.length - i = n + 1 := ⟨l.length - i - 1, by omega⟩
     rw [hn, sevGo]
     have m0 := hall 0 (by omega)
     have o0 := hok.ok 0 (by omega)
     have mi := hall i c
     have hfo : MOk ⟨an, ae⟩ ⟨dn, de⟩ f := by rw [hf]; exact then_okP m0 o0
     have t2 := ho (sevS ⟨an, ae⟩ l m i ⟨dn, de⟩ out)
     have hS : spD (sevS ⟨an, ae⟩ l m i ⟨dn, de⟩ out) = .agg [.lst 1 (ints an), .lst 3 (eds ae), .lst 1 (ints dn), .lst 3 (eds de), .lst 1 (ints (gt l i).n), .lst 3 (eds (gt l i).e), .lst 1 (ints f.n), .lst 1 (ints f.e), .lst 1 (ints (gt m i).n), .lst 1 (ints (gt m i).e)] := by rw [hf]; rfl
     rw [hS] at t2
     clear hS
     by_cases e : poErr (sevS ⟨an, ae⟩ l m i ⟨dn, de⟩ out) = 0
     ·rw [if_neg (by simp [e])]
      have hso := poErr_ok.1 e
      rw [poR_ok hso] at t2
      have hp : MOk ⟨dn, de⟩ (poG (sevS ⟨an, ae⟩ l m i ⟨dn, de⟩ out)) (poP (sevS ⟨an, ae⟩ l m i ⟨dn, de⟩ out)) := hso.p
      have hk : MOk (gt l i) (poG (sevS ⟨an, ae⟩ l m i ⟨dn, de⟩ out)) (poK (sevS ⟨an, ae⟩ l m i ⟨dn, de⟩ out)) := hso.k
      have hnx := sevO_ok hok hp hk
      have hT : ∀ k : Nat, k < i → FC P (F "r06.Then") [mD (gt out k), mD (poP (sevS ⟨an, ae⟩ l m i ⟨dn, de⟩ out))] (mA (thenM (gt out k) (poP (sevS ⟨an, ae⟩ l m i ⟨dn, de⟩ out)))) [] := fun k hk => by
       have q := hok.ok k hk
       have qv := valid_spec q.va
       have q1 := q.ln
       have q2 := q.le
       have qb := validM_bd (mok.2 q)
       exact ht _ _ (by omega) (by omega) (by rw [hp.ln]; exact qb.1) (by rw [hp.le]; exact qb.2)
      have vf := valid_spec hfo.va
      have f1 := hfo.ln
      have f2 := hfo.le
      have bf := validM_bd (mok.2 hfo)
      have t3 := ht f (poP (sevS ⟨an, ae⟩ l m i ⟨dn, de⟩ out)) (by omega) (by omega) (by rw [hp.ln]; exact bf.1) (by rw [hp.le]; exact bf.2)
      have hnf : thenM f (poP (sevS ⟨an, ae⟩ l m i ⟨dn, de⟩ out)) = thenM (gt m ((0 : Nat) : Int)) (gt (sevO out (poP (sevS ⟨an, ae⟩ l m i ⟨dn, de⟩ out)) (poK (sevS ⟨an, ae⟩ l m i ⟨dn, de⟩ out))) ((0 : Nat) : Int)) := by
       unfold sevO
       rw [gt_appL (by simp; omega), gt_map (by omega), hf, then_assoc m0 o0]
      have hO : ∀ p q, sevO out p q = out.map (fun o => thenM o p) ++ [q] := fun p q => rfl
      clear hso hp hk e o0 m0 mi hfo vf f1 f2 bf hf
      generalize poG (sevS ⟨an, ae⟩ l m i ⟨dn, de⟩ out) = x at *
      generalize poP (sevS ⟨an, ae⟩ l m i ⟨dn, de⟩ out) = p at *
      generalize poK (sevS ⟨an, ae⟩ l m i ⟨dn, de⟩ out) = q at *
      generalize hfp : thenM f p = fp at *
      obtain ⟨xn, xe⟩ := x
      obtain ⟨pn, pe⟩ := p
      obtain ⟨qn, qe⟩ := q
      obtain ⟨fn, fe⟩ := f
      obtain ⟨fpn, fpe⟩ := fp
      simp only [poD, gD, gA, mD, mA] at t2 t3 hT
      rcases (show b = true ∨ b = false by cases b <;> simp) with hb | hb
      all_goals
       cases hfl : (pts out).all D.flatE
       all_goals
        simp (disch := omega) only [go_sem, ↓reduceIte, c_r10_Several_b26, r10O, hb, g2, hol]
        refine call_by t2 ?_
        simp (disch := omega) only [go_sem, ↓reduceIte]
        refine W_loop (fun s : Nat × List Mo => r10I ⟨an, ae⟩ l m b i ⟨dn, de⟩ s.2 ⟨fn, fe⟩ ⟨xn, xe⟩ ⟨pn, pe⟩ ⟨qn, qe⟩ s.1)
         (fun s => s.1 ≤ i ∧ s.2.length = i ∧ (∀ k : Nat, k < s.1 → gt s.2 k = thenM (gt out k) ⟨pn, pe⟩) ∧ ∀ k : Nat, s.1 ≤ k → gt s.2 k = gt out k) (fun s => i - s.1) (0, out) ?_ ?_ ?_
        ·simp (disch := omega) only [go_sem, ↓reduceIte, hol, r10I, hb]
         rfl
        ·exact ⟨by simp only; omega, hol, fun k hk => by simp only at hk; omega, fun k hk => rfl⟩
        ·rintro ⟨k, o⟩ ⟨k1, k2, k3, k4⟩
         simp only at k1 k2 k3 k4
         by_cases c : k < i
         ·have g3 : decide ((k : Int) < i) = true := decide_eq_true (by omega)
          have r := hT k c
          have ok := k4 k (by omega)
          have ok1 : (gt o k).n = (gt out k).n := by rw [ok]
          have ok2 : (gt o k).e = (gt out k).e := by rw [ok]
          generalize hx : thenM (gt out k) ⟨pn, pe⟩ = x at *
          obtain ⟨xn', xe'⟩ := x
          simp only at r
          simp (disch := omega) only [go_sem, ↓reduceIte, c_r10_Several_b23, r10I, hb, g3, k2, ok1, ok2]
          refine call_by r ?_
          simp (disch := omega) only [go_sem, ↓reduceIte, k2]
          refine ⟨(k + 1, o.set k ⟨xn', xe'⟩), by simp [r10I, hb], ⟨by simp only; omega, by simp [k2], fun j hj => ?_, fun j hj => ?_⟩, by simp only; omega⟩
          ·simp only at hj ⊢
           by_cases y : j < i
           ·rw [gt_setS (by omega)]
            split
            ·rename_i z; subst z; exact hx.symm
            ·exact k3 j (by omega)
           ·omega
          ·simp only at hj ⊢
           by_cases y : j < i
           ·rw [gt_setS (by omega), if_neg (by omega)]
            exact k4 j (by omega)
           ·have := k4 j (by omega)
            rw [← this]
            simp only [gt, Int.toNat_natCast, List.getD_eq_getElem?_getD]
            rw [List.getElem?_eq_none (by simp; omega), List.getElem?_eq_none (by omega)]
         ·have g3 : decide ((k : Int) < i) = false := decide_eq_false (by omega)
          obtain rfl : k = i := by omega
          have ho : o = out.map (fun o => thenM o ⟨pn, pe⟩) := list_ext_gt (by simp; omega) fun j hj => by rw [gt_map (by omega)]; exact k3 j (by omega)
          subst ho
          have hOO := hO ⟨pn, pe⟩ ⟨qn, qe⟩
          simp (disch := omega) only [go_sem, ↓reduceIte, c_r10_Several_b23, r10I, hb, g3, k2]
          refine call_by t3 ?_
          simp (disch := omega) only [go_sem, ↓reduceIte, k2]
          exact ⟨(false, k + 1, ⟨xn, xe⟩, sevO out ⟨pn, pe⟩ ⟨qn, qe⟩, ⟨fpn, fpe⟩), by simp [hOO, r10O], ⟨⟨by simp only; omega, by simp only; omega⟩, by simp only; rw [show l.length - (k + 1) = n by omega], hnx, hnf⟩, by simp only; omega⟩
     ·rw [if_pos e]
      have hE : poR (sevS ⟨an, ae⟩ l m i ⟨dn, de⟩ out) = (g0, Am.m0, Am.m0, poErr (sevS ⟨an, ae⟩ l m i ⟨dn, de⟩ out)) := by unfold poR; rw [if_neg e]
      rw [hE] at t2
      generalize poErr (sevS ⟨an, ae⟩ l m i ⟨dn, de⟩ out) = v at *
      clear hf hfo
      obtain ⟨fn, fe⟩ := f
      simp only [poD, gD, gA, mD, mA, g0, Am.m0] at t2
      rcases (show b = true ∨ b = false by cases b <;> simp) with hb | hb
      all_goals
       cases hfl : (pts out).all D.flatE
       all_goals
        simp (disch := omega) only [go_sem, ↓reduceIte, c_r10_Several_b26, r10O, hb, g2, hol]
        refine call_by t2 ?_
        simp (disch := omega) only [go_sem, ↓reduceIte, e]
        simp [sevD, g0, gA, ints, eds, pts]
    ·have g2 : decide ((i : Int) < l.length) = false := decide_eq_false (by omega)
     obtain rfl : i = l.length := by omega
     rw [show l.length - l.length = 0 by omega, sevGo]
     rcases (show b = true ∨ b = false by cases b <;> simp) with hb | hb
     all_goals
      simp (disch := omega) only [go_sem, ↓reduceIte, c_r10_Several_b26, r10O, hb, g2, hol]
      try rfl
theorem sevGo_len {a : G} {l : List G} {m : List Mo} : ∀ (n i : Nat) (d : G) (out : List Mo), validG d = 0 → SvOk l i d out →
  ((sevGo a l m n i d out).1.n.length ≤ 40 ∧ (sevGo a l m n i d out).1.e.length ≤ 80) ∧ (∀ o ∈ (sevGo a l m n i d out).2.1, o.n.length ≤ 40 ∧ o.e.length ≤ 80) ∧ (sevGo a l m n i d out).2.1.length ≤ i + n
 | 0, i, d, out, hv, ho => by
  have v := valid_spec hv
  rw [sevGo]
  refine ⟨⟨v.1, v.2.1⟩, fun o h => ?_, by simp only; rw [ho.ln]; omega⟩
  obtain ⟨k, hk, hk2⟩ := mem_gt h
  simp only at hk
  have q := ho.ok k (by have := ho.ln; omega)
  have w := valid_spec q.va
  have q1 := q.ln
  have q2 := q.le
  rw [hk2] at q1 q2
  omega
 | n + 1, i, d, out, hv, ho => by
  rw [sevGo]
  split
  ·simp [g0]
  ·rename_i e
   have hs := poErr_ok.1 (Decidable.not_not.1 e)
   have := sevGo_len (a := a) (m := m) n (i + 1) _ _ hs.p.vb (sevO_ok (x := poG (sevS a l m i d out)) (p := poP (sevS a l m i d out)) (q := poK (sevS a l m i d out)) ho hs.p hs.k)
   rw [show i + (n + 1) = i + 1 + n by omega]
   exact this
theorem sevR_len (a : G) (l : List G) (m : List Mo) (hl : l.length ≤ 4) : ((sevR a l m).1.n.length ≤ 40 ∧ (sevR a l m).1.e.length ≤ 80) ∧ (∀ o ∈ (sevR a l m).2.1, o.n.length ≤ 40 ∧ o.e.length ≤ 80) ∧ (sevR a l m).2.1.length ≤ 4 := by
 unfold sevR
 split
 ·simp [g0]
 split
 ·simp [g0]
 split
 ·simp [g0]
 rename_i h1 h2 h3
 have hall := sevV_ok (Decidable.not_not.1 h3)
 have h0 := hall 0 (by omega) (by omega)
 have := sevGo_len (a := a) (l := l) (m := m) (l.length - 1) 1 (gt l ((0 : Nat) : Int)) [idM (gt l ((0 : Nat) : Int))] h0.vb ⟨rfl, fun k hk => by
  obtain rfl : k = 0 := by omega
  exact idM_ok h0.vb⟩
 exact ⟨this.1, this.2.1, by have := this.2.2; omega⟩
set_option maxHeartbeats 4000000 in
set_option maxRecDepth 100000 in
theorem w_l10_PushoutSeveral (hw : K_l10_awake P F) (hf : K_r05_Few P F) (hfm : K_r06_Few P F) (hcg : K_slices_Clone_apiGraph P F) (hcm : K_slices_Clone_apiMorphism P F) (hse : K_pushout_Several P F) (hse2 : K_r10_Several P F) (hg : K_r05_Same P F) (hs : K_r06_SameAll P F) (a : G) (l : List G) (m : List Mo) (hl : l.length ≤ maxL) (hm : m.length ≤ maxL) (hsm : ∀ x ∈ m, x.sm) :
  W P (c_l10_PushoutSeveral F) (Done [.t 6] [] (.bool true) []) (init [gD a, .lst 2 (gls l), .lst 2 (pts m)]) := by
 refine W_of ?_
 unfold maxL at hl hm
 have r1 := hf a
 generalize few a = b1 at *
 obtain ⟨an, ae⟩ := a
 simp only [gD] at r1 ⊢
 cases b1
 ·simp (disch := omega) only [go_sem, ↓reduceIte]
  refine call_by hw ?_
  simp (disch := omega) only [go_sem, ↓reduceIte]
  refine call_by r1 ?_
  simp (disch := omega) only [go_sem, ↓reduceIte]
  refine call_by hw ?_
  simp (disch := omega) only [go_sem, ↓reduceIte]
 by_cases c1 : l.length ≤ 4
 case neg =>
  have d1 : decide ((4 : Int) < l.length) = true := decide_eq_true (by omega)
  simp (disch := omega) only [go_sem, ↓reduceIte]
  refine call_by hw ?_
  simp (disch := omega) only [go_sem, ↓reduceIte]
  refine call_by r1 ?_
  simp (disch := omega) only [go_sem, ↓reduceIte, d1]
  refine call_by hw ?_
  simp (disch := omega) only [go_sem, ↓reduceIte]
 have d1 : decide ((4 : Int) < l.length) = false := decide_eq_false (by omega)
 by_cases c2 : m.length ≤ 5
 case neg =>
  have d2 : decide ((5 : Int) < m.length) = true := decide_eq_true (by omega)
  simp (disch := omega) only [go_sem, ↓reduceIte]
  refine call_by hw ?_
  simp (disch := omega) only [go_sem, ↓reduceIte]
  refine call_by r1 ?_
  simp (disch := omega) only [go_sem, ↓reduceIte, d1, d2]
  refine call_by hw ?_
  simp (disch := omega) only [go_sem, ↓reduceIte]
 have d2 : decide ((5 : Int) < m.length) = false := decide_eq_false (by omega)
 simp (disch := omega) only [go_sem, ↓reduceIte]
 refine call_by hw ?_
 simp (disch := omega) only [go_sem, ↓reduceIte]
 refine call_by r1 ?_
 simp (disch := omega) only [go_sem, ↓reduceIte, d1, d2]
 refine W_loop (fun i : Nat => ⟨[(1, .lst 2 (gls l)), (2, .lst 2 (pts m)), (3, .pt 0 0), (35, .lst 2 (gls l)), (36, .int .i64 l.length), (37, .int .i64 i)], [(0, .box [.lst 1 (ints an), .lst 3 (eds ae)])], 1⟩) (fun i => i ≤ l.length) (fun i => l.length - i) 0 ?_ ?_ ?_
 ·simp (disch := omega) only [go_sem, ↓reduceIte]
  rfl
 ·simp
 ·intro i hi
  by_cases c : i < l.length
  ·have g1 : decide ((i : Int) < l.length) = true := decide_eq_true (by omega)
   have r := hf (gt l i)
   generalize few (gt l i) = b at *
   simp only [gD] at r
   cases b
   ·simp (disch := omega) only [go_sem, ↓reduceIte, c_l10_PushoutSeveral_b9, g1]
    refine call_by r ?_
    simp (disch := omega) only [go_sem, ↓reduceIte]
   ·simp (disch := omega) only [go_sem, ↓reduceIte, c_l10_PushoutSeveral_b9, g1]
    refine call_by r ?_
    simp (disch := omega) only [go_sem, ↓reduceIte]
    exact ⟨i + 1, by simp, by omega, by omega⟩
  ·have g1 : decide ((i : Int) < l.length) = false := decide_eq_false (by omega)
   simp (disch := omega) only [go_sem, ↓reduceIte, c_l10_PushoutSeveral_b9, g1]
   refine W_loop (fun i : Nat => ⟨[(1, .lst 2 (gls l)), (2, .lst 2 (pts m)), (3, .pt 0 0), (45, .lst 2 (pts m)), (46, .int .i64 m.length), (47, .int .i64 i)], [(0, .box [.lst 1 (ints an), .lst 3 (eds ae)])], 1⟩) (fun i => i ≤ m.length) (fun i => m.length - i) 0 ?_ ?_ ?_
   ·simp (disch := omega) only [go_sem, ↓reduceIte]
    rfl
   ·simp
   ·intro i hi
    by_cases c : i < m.length
    ·have g1 : decide ((i : Int) < m.length) = true := decide_eq_true (by omega)
     have q := hsm _ (gt_mem (l := m) (j := i) (by omega) (by omega))
     have r := hfm (gt m i) 140 q.1 q.2
     generalize fewM (gt m i) 140 = b at *
     simp only [mD] at r
     cases b
     ·simp (disch := omega) only [go_sem, ↓reduceIte, c_l10_PushoutSeveral_b16, g1]
      refine call_by r ?_
      simp (disch := omega) only [go_sem, ↓reduceIte]
     ·simp (disch := omega) only [go_sem, ↓reduceIte, c_l10_PushoutSeveral_b16, g1]
      refine call_by r ?_
      simp (disch := omega) only [go_sem, ↓reduceIte]
      exact ⟨i + 1, by simp, by omega, by omega⟩
    ·have g1 : decide ((i : Int) < m.length) = false := decide_eq_false (by omega)
     have r2 := hcg l (by omega)
     have r3 := hcm m (by omega)
     have r4 := hse ⟨an, ae⟩ l m c1 c2
     have r5 := hse2 ⟨an, ae⟩ l m c1 c2
     obtain ⟨q1, q2, q3⟩ := sevR_len ⟨an, ae⟩ l m c1
     have r6 := hg (sevR ⟨an, ae⟩ l m).1 (sevR ⟨an, ae⟩ l m).1 (by unfold maxL; omega) (by unfold maxL; omega)
     have r7 := hs (sevR ⟨an, ae⟩ l m).2.1 (sevR ⟨an, ae⟩ l m).2.1 (by unfold maxL; omega) (fun o ho => by have := q2 o ho; exact ⟨by unfold maxL; omega, by unfold maxL; omega⟩)
     clear q1 q2
     generalize sevR ⟨an, ae⟩ l m = R at *
     obtain ⟨⟨rn, re⟩, ro, rv⟩ := R
     have pol := pts_length ro
     simp only [sevD, gD, gA, decide_true] at *
     cases hfl : (pts ro).all D.flatE <;> cases hfg : (gls l).all D.flatE <;> cases hfm' : (pts m).all D.flatE
     all_goals
      simp (disch := omega) only [go_sem, ↓reduceIte, c_l10_PushoutSeveral_b16, g1]
      refine call_by r2 ?_
      simp (disch := omega) only [go_sem, ↓reduceIte, hfg]
      refine call_by r3 ?_
      simp (disch := omega) only [go_sem, ↓reduceIte, hfm']
      refine call_by r4 ?_
      simp (disch := omega) only [go_sem, ↓reduceIte, hfl]
      refine call_by r5 ?_
      simp (disch := omega) only [go_sem, ↓reduceIte, hfl]
      refine call_by r6 ?_
      simp (disch := omega) only [go_sem, ↓reduceIte]
      refine call_by r7 ?_
      simp (disch := omega) only [go_sem, ↓reduceIte]
end
end Go.Am
