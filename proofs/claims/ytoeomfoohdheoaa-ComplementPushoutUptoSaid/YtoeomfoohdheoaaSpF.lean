/- Repair of parts: the program's and the reference's functions. -/
import Derived.Test.YtoeomfoohdheoaaSpE
namespace Go.Am
open Go
set_option linter.unusedVariables false
set_option linter.unusedSimpArgs false
attribute [local irreducible] W
/- complement.Repair -/
def c_complement_Repair_r0 (F : String → Nat) : List LI := [⟨some 4, .bx (.t 0), none⟩,
  ⟨some 5, .bx (.t 1), none⟩,
  ⟨some 6, .bx (.t 2), none⟩,
  ⟨some 7, .bx (.t 3), none⟩,
  ⟨some 8, .alloc [.nl 1, .nl 1], none⟩,
  ⟨some 9, .mov (.k (.int .i64 (0))), none⟩]
def c_complement_Repair_r1 (F : String → Nat) : List LI := [⟨some 28, .load true 2 (.t 4), none⟩,
  ⟨some 29, .load true 2 (.t 5), none⟩,
  ⟨some 30, .load true 2 (.t 6), none⟩,
  ⟨some 31, .load true 2 (.t 7), none⟩,
  ⟨some 32, .build [.nl 1, .nl 3, .nl 1, .nl 3, .nl 1, .nl 1, .nl 1, .nl 1] [(0, 2, .t 28), (2, 2, .t 29), (4, 2, .t 30), (6, 2, .t 31)], none⟩,
  ⟨some 10, .alloc [.nl 1, .nl 3, .nl 1, .nl 3, .nl 1, .nl 1, .nl 1, .nl 1], none⟩,
  ⟨none, .store 8 (.t 10) (.t 32), none⟩]
def c_complement_Repair_r2 (F : String → Nat) : List LI := [⟨some 33, .load true 8 (.t 10), none⟩,
  ⟨some 34, .call (F "complement.gluing.given") [.t 33] [], none⟩,
  ⟨some 11, .mov (.t 34), none⟩]
def c_complement_Repair_r3 (F : String → Nat) : List LI := [⟨some 35, .mov (.t 11), none⟩,
  ⟨some 36, .bin .neq (.t 35) (.k (.int .i64 (0))), none⟩]
def c_complement_Repair_r4 (F : String → Nat) : List LI := [⟨some 37, .build [.nl 1, .nl 1] [], none⟩,
  ⟨some 38, .mov (.t 11), none⟩,
  ⟨none, .store 2 (.t 8) (.t 37), none⟩,
  ⟨some 9, .mov (.t 38), none⟩]
def c_complement_Repair_r5 (F : String → Nat) : List LI := [⟨some 39, .fad 4 (.t 10), none⟩,
  ⟨some 40, .fad 0 (.t 39), none⟩,
  ⟨some 41, .load false 1 (.t 40), none⟩,
  ⟨some 42, .call (F "slices.Clone.I") [.t 41] [], none⟩,
  ⟨some 43, .fad 4 (.t 10), none⟩,
  ⟨some 44, .fad 1 (.t 43), none⟩,
  ⟨some 45, .load false 1 (.t 44), none⟩,
  ⟨some 46, .call (F "slices.Clone.I") [.t 45] [], none⟩,
  ⟨some 12, .mov (.t 42), none⟩,
  ⟨some 13, .mov (.t 46), none⟩]
def c_complement_Repair_r6 (F : String → Nat) : List LI := [⟨some 48, .load true 8 (.t 10), none⟩,
  ⟨some 49, .call (F "complement.gluing.identified") [.t 48] [], none⟩,
  ⟨some 47, .mov (.t 49), none⟩,
  ⟨some 50, .ext (.t 47) 0, none⟩,
  ⟨some 51, .ext (.t 47) 1, none⟩,
  ⟨some 14, .mov (.t 50), none⟩,
  ⟨some 15, .mov (.t 51), none⟩]
def c_complement_Repair_r7 (F : String → Nat) : List LI := [⟨some 52, .mov (.t 14), none⟩,
  ⟨some 53, .len (.t 52), none⟩,
  ⟨some 54, .mov (.k (.int .i64 (0))), none⟩]
def c_complement_Repair_r8 (F : String → Nat) : List LI := [⟨some 55, .bin .lss (.t 54) (.t 53), none⟩]
def c_complement_Repair_r9 (F : String → Nat) : List LI := [⟨some 56, .iad 2 (.t 52) (.t 54), none⟩,
  ⟨some 57, .load true 2 (.t 56), none⟩,
  ⟨some 17, .alloc [.int .i64 (0), .int .i64 (0)], none⟩,
  ⟨none, .store 2 (.t 17) (.t 57), none⟩]
def c_complement_Repair_r10 (F : String → Nat) : List LI := [⟨some 58, .mov (.t 12), none⟩,
  ⟨some 59, .fad 0 (.t 17), none⟩,
  ⟨some 60, .load false 1 (.t 59), none⟩,
  ⟨some 61, .fad 1 (.t 17), none⟩,
  ⟨some 62, .load false 1 (.t 61), none⟩,
  ⟨some 63, .buildSl 1 8 (.int .i64 (0)) 2 [(0, .t 60), (1, .t 62)], none⟩,
  ⟨some 64, .app 1 8 (.t 58) (.t 63), none⟩,
  ⟨some 12, .mov (.t 64), none⟩]
def c_complement_Repair_r11 (F : String → Nat) : List LI := [⟨some 65, .bin .add (.t 54) (.k (.int .i64 (1))), none⟩,
  ⟨some 54, .mov (.t 65), none⟩]
def c_complement_Repair_b12 (F : String → Nat) : LC := (.seq (.reg (c_complement_Repair_r8 F) [4, 5, 7, 8, 10, 12, 13, 15, 52, 53, 54, 55]) (.seq (.cond (.t 55) .skip (.exit 2)) (.seq (.block 3 (.seq (.reg (c_complement_Repair_r9 F) [4, 5, 7, 8, 10, 12, 13, 15, 17, 52, 53, 54]) (.reg (c_complement_Repair_r10 F) [4, 5, 7, 8, 10, 12, 13, 15, 52, 53, 54]))) (.reg (c_complement_Repair_r11 F) [4, 5, 7, 8, 10, 12, 13, 15, 52, 53, 54]))))
def c_complement_Repair_r13 (F : String → Nat) : List LI := [⟨some 66, .mov (.t 15), none⟩,
  ⟨some 67, .len (.t 66), none⟩,
  ⟨some 68, .mov (.k (.int .i64 (0))), none⟩]
def c_complement_Repair_r14 (F : String → Nat) : List LI := [⟨some 69, .bin .lss (.t 68) (.t 67), none⟩]
def c_complement_Repair_r15 (F : String → Nat) : List LI := [⟨some 70, .iad 2 (.t 66) (.t 68), none⟩,
  ⟨some 71, .load true 2 (.t 70), none⟩,
  ⟨some 19, .alloc [.int .i64 (0), .int .i64 (0)], none⟩,
  ⟨none, .store 2 (.t 19) (.t 71), none⟩]
def c_complement_Repair_r16 (F : String → Nat) : List LI := [⟨some 72, .mov (.t 13), none⟩,
  ⟨some 73, .fad 0 (.t 19), none⟩,
  ⟨some 74, .load false 1 (.t 73), none⟩,
  ⟨some 75, .fad 1 (.t 19), none⟩,
  ⟨some 76, .load false 1 (.t 75), none⟩,
  ⟨some 77, .buildSl 1 8 (.int .i64 (0)) 2 [(0, .t 74), (1, .t 76)], none⟩,
  ⟨some 78, .app 1 8 (.t 72) (.t 77), none⟩,
  ⟨some 13, .mov (.t 78), none⟩]
def c_complement_Repair_r17 (F : String → Nat) : List LI := [⟨some 79, .bin .add (.t 68) (.k (.int .i64 (1))), none⟩,
  ⟨some 68, .mov (.t 79), none⟩]
def c_complement_Repair_b18 (F : String → Nat) : LC := (.seq (.reg (c_complement_Repair_r14 F) [4, 5, 7, 8, 10, 12, 13, 66, 67, 68, 69]) (.seq (.cond (.t 69) .skip (.exit 4)) (.seq (.block 5 (.seq (.reg (c_complement_Repair_r15 F) [4, 5, 7, 8, 10, 12, 13, 19, 66, 67, 68]) (.reg (c_complement_Repair_r16 F) [4, 5, 7, 8, 10, 12, 13, 66, 67, 68]))) (.reg (c_complement_Repair_r17 F) [4, 5, 7, 8, 10, 12, 13, 66, 67, 68]))))
def c_complement_Repair_r19 (F : String → Nat) : List LI := [⟨some 80, .load true 8 (.t 10), none⟩,
  ⟨some 81, .call (F "complement.gluing.dangling") [.t 80] [], none⟩,
  ⟨some 82, .len (.t 81), none⟩,
  ⟨some 83, .mov (.k (.int .i64 (0))), none⟩]
def c_complement_Repair_r20 (F : String → Nat) : List LI := [⟨some 84, .bin .lss (.t 83) (.t 82), none⟩]
def c_complement_Repair_r21 (F : String → Nat) : List LI := [⟨some 85, .iad 1 (.t 81) (.t 83), none⟩,
  ⟨some 86, .load false 1 (.t 85), none⟩,
  ⟨some 21, .mov (.t 86), none⟩]
def c_complement_Repair_r22 (F : String → Nat) : List LI := [⟨some 87, .fad 1 (.t 5), none⟩,
  ⟨some 88, .load false 1 (.t 87), none⟩,
  ⟨some 89, .mov (.t 21), none⟩,
  ⟨some 90, .iad 3 (.t 88) (.t 89), none⟩,
  ⟨some 91, .load true 3 (.t 90), none⟩,
  ⟨some 22, .alloc [.int .i64 (0), .int .i64 (0), .int .i64 (0)], none⟩,
  ⟨none, .store 3 (.t 22) (.t 91), none⟩]
def c_complement_Repair_r23 (F : String → Nat) : List LI := [⟨some 92, .fad 0 (.t 7), none⟩,
  ⟨some 93, .load false 1 (.t 92), none⟩,
  ⟨some 94, .len (.t 93), none⟩,
  ⟨some 95, .mov (.k (.int .i64 (0))), none⟩]
def c_complement_Repair_r24 (F : String → Nat) : List LI := [⟨some 96, .bin .lss (.t 95) (.t 94), none⟩]
def c_complement_Repair_r25 (F : String → Nat) : List LI := [⟨some 97, .mov (.t 95), none⟩,
  ⟨some 98, .iad 1 (.t 93) (.t 95), none⟩,
  ⟨some 99, .load false 1 (.t 98), none⟩,
  ⟨some 23, .mov (.t 97), none⟩,
  ⟨some 24, .mov (.t 99), none⟩]
def c_complement_Repair_r26 (F : String → Nat) : List LI := [⟨some 100, .mov (.t 24), none⟩,
  ⟨some 101, .fad 1 (.t 22), none⟩,
  ⟨some 102, .load false 1 (.t 101), none⟩,
  ⟨some 103, .bin .eql (.t 100) (.t 102), none⟩,
  ⟨some 104, .mov (.t 103), none⟩,
  ⟨some 105, .mov (.t 24), some (104, false)⟩,
  ⟨some 106, .fad 2 (.t 22), some (104, false)⟩,
  ⟨some 107, .load false 1 (.t 106), some (104, false)⟩,
  ⟨some 108, .bin .eql (.t 105) (.t 107), some (104, false)⟩,
  ⟨some 109, .pick (.t 104) (.k (.bool true)) (.t 108), none⟩]
def c_complement_Repair_r27 (F : String → Nat) : List LI := [⟨some 110, .mov (.t 12), none⟩,
  ⟨some 111, .mov (.t 23), none⟩,
  ⟨some 112, .buildSl 1 8 (.int .i64 (0)) 1 [(0, .t 111)], none⟩,
  ⟨some 113, .app 1 8 (.t 110) (.t 112), none⟩,
  ⟨some 12, .mov (.t 113), none⟩]
def c_complement_Repair_r28 (F : String → Nat) : List LI := [⟨some 114, .bin .add (.t 95) (.k (.int .i64 (1))), none⟩,
  ⟨some 95, .mov (.t 114), none⟩]
def c_complement_Repair_b29 (F : String → Nat) : LC := (.seq (.reg (c_complement_Repair_r24 F) [4, 5, 7, 8, 10, 12, 13, 22, 81, 82, 83, 93, 94, 95, 96]) (.seq (.cond (.t 96) .skip (.exit 8)) (.seq (.block 9 (.seq (.reg (c_complement_Repair_r25 F) [4, 5, 7, 8, 10, 12, 13, 22, 23, 24, 81, 82, 83, 93, 94, 95]) (.seq (.reg (c_complement_Repair_r26 F) [4, 5, 7, 8, 10, 12, 13, 22, 23, 81, 82, 83, 93, 94, 95, 109]) (.cond (.t 109) (.reg (c_complement_Repair_r27 F) [4, 5, 7, 8, 10, 12, 13, 22, 81, 82, 83, 93, 94, 95]) .skip)))) (.reg (c_complement_Repair_r28 F) [4, 5, 7, 8, 10, 12, 13, 22, 81, 82, 83, 93, 94, 95]))))
def c_complement_Repair_r30 (F : String → Nat) : List LI := [⟨some 115, .bin .add (.t 83) (.k (.int .i64 (1))), none⟩,
  ⟨some 83, .mov (.t 115), none⟩]
def c_complement_Repair_b31 (F : String → Nat) : LC := (.seq (.reg (c_complement_Repair_r20 F) [4, 5, 7, 8, 10, 12, 13, 81, 82, 83, 84]) (.seq (.cond (.t 84) .skip (.exit 6)) (.seq (.block 7 (.seq (.reg (c_complement_Repair_r21 F) [4, 5, 7, 8, 10, 12, 13, 21, 81, 82, 83]) (.seq (.reg (c_complement_Repair_r22 F) [4, 5, 7, 8, 10, 12, 13, 22, 81, 82, 83]) (.seq (.reg (c_complement_Repair_r23 F) [4, 5, 7, 8, 10, 12, 13, 22, 81, 82, 83, 93, 94, 95]) (.block 8 (.loop [4, 5, 7, 8, 10, 12, 13, 22, 81, 82, 83, 93, 94, 95] (c_complement_Repair_b29 F))))))) (.reg (c_complement_Repair_r30 F) [4, 5, 7, 8, 10, 12, 13, 81, 82, 83]))))
def c_complement_Repair_r32 (F : String → Nat) : List LI := [⟨some 116, .mov (.t 13), none⟩,
  ⟨some 117, .len (.t 116), none⟩,
  ⟨some 118, .mov (.k (.int .i64 (0))), none⟩]
def c_complement_Repair_r33 (F : String → Nat) : List LI := [⟨some 119, .bin .lss (.t 118) (.t 117), none⟩]
def c_complement_Repair_r34 (F : String → Nat) : List LI := [⟨some 120, .iad 1 (.t 116) (.t 118), none⟩,
  ⟨some 121, .load false 1 (.t 120), none⟩,
  ⟨some 26, .mov (.t 121), none⟩]
def c_complement_Repair_r35 (F : String → Nat) : List LI := [⟨some 122, .mov (.t 12), none⟩,
  ⟨some 123, .fad 1 (.t 4), none⟩,
  ⟨some 124, .load false 1 (.t 123), none⟩,
  ⟨some 125, .mov (.t 26), none⟩,
  ⟨some 126, .iad 3 (.t 124) (.t 125), none⟩,
  ⟨some 127, .fad 1 (.t 126), none⟩,
  ⟨some 128, .load false 1 (.t 127), none⟩,
  ⟨some 129, .fad 1 (.t 4), none⟩,
  ⟨some 130, .load false 1 (.t 129), none⟩,
  ⟨some 131, .mov (.t 26), none⟩,
  ⟨some 132, .iad 3 (.t 130) (.t 131), none⟩,
  ⟨some 133, .fad 2 (.t 132), none⟩,
  ⟨some 134, .load false 1 (.t 133), none⟩,
  ⟨some 135, .buildSl 1 8 (.int .i64 (0)) 2 [(0, .t 128), (1, .t 134)], none⟩,
  ⟨some 136, .app 1 8 (.t 122) (.t 135), none⟩,
  ⟨some 12, .mov (.t 136), none⟩]
def c_complement_Repair_r36 (F : String → Nat) : List LI := [⟨some 137, .bin .add (.t 118) (.k (.int .i64 (1))), none⟩,
  ⟨some 118, .mov (.t 137), none⟩]
def c_complement_Repair_b37 (F : String → Nat) : LC := (.seq (.reg (c_complement_Repair_r33 F) [4, 5, 7, 8, 10, 12, 13, 116, 117, 118, 119]) (.seq (.cond (.t 119) .skip (.exit 10)) (.seq (.block 11 (.seq (.reg (c_complement_Repair_r34 F) [4, 5, 7, 8, 10, 12, 13, 26, 116, 117, 118]) (.dreg [] (c_complement_Repair_r35 F) [4, 5, 7, 8, 10, 12, 13, 116, 117, 118]))) (.reg (c_complement_Repair_r36 F) [4, 5, 7, 8, 10, 12, 13, 116, 117, 118]))))
def c_complement_Repair_r38 (F : String → Nat) : List LI := [⟨some 138, .mov (.t 12), none⟩,
  ⟨some 139, .call (F "slices.Sort.I") [.t 138] [.mu], none⟩]
def c_complement_Repair_r39 (F : String → Nat) : List LI := [⟨some 140, .mov (.t 13), none⟩,
  ⟨some 141, .call (F "slices.Sort.I") [.t 140] [.mu], none⟩]
def c_complement_Repair_r40 (F : String → Nat) : List LI := [⟨some 142, .mov (.t 12), none⟩,
  ⟨some 143, .call (F "slices.Compact.I") [.t 142] [.ow], none⟩,
  ⟨some 144, .mov (.t 13), none⟩,
  ⟨some 145, .call (F "slices.Compact.I") [.t 144] [.ow], none⟩,
  ⟨some 146, .build [.nl 1, .nl 1] [(0, 1, .t 143), (1, 1, .t 145)], none⟩,
  ⟨some 27, .alloc [.nl 1, .nl 1], none⟩,
  ⟨none, .store 2 (.t 27) (.t 146), none⟩]
def c_complement_Repair_r41 (F : String → Nat) : List LI := [⟨some 147, .fad 0 (.t 27), none⟩,
  ⟨some 148, .load false 1 (.t 147), none⟩,
  ⟨some 149, .len (.t 148), none⟩,
  ⟨some 150, .fad 4 (.t 10), none⟩,
  ⟨some 151, .fad 0 (.t 150), none⟩,
  ⟨some 152, .load false 1 (.t 151), none⟩,
  ⟨some 153, .len (.t 152), none⟩,
  ⟨some 154, .bin .eql (.t 149) (.t 153), none⟩,
  ⟨some 155, .mov (.t 154), none⟩,
  ⟨some 156, .fad 1 (.t 27), some (155, true)⟩,
  ⟨some 157, .load false 1 (.t 156), some (155, true)⟩,
  ⟨some 158, .len (.t 157), some (155, true)⟩,
  ⟨some 159, .fad 4 (.t 10), some (155, true)⟩,
  ⟨some 160, .fad 1 (.t 159), some (155, true)⟩,
  ⟨some 161, .load false 1 (.t 160), some (155, true)⟩,
  ⟨some 162, .len (.t 161), some (155, true)⟩,
  ⟨some 163, .bin .eql (.t 158) (.t 162), some (155, true)⟩,
  ⟨some 164, .pick (.t 155) (.t 163) (.k (.bool false)), none⟩]
def c_complement_Repair_r42 (F : String → Nat) : List LI := [⟨some 165, .load true 2 (.t 27), none⟩,
  ⟨none, .store 2 (.t 8) (.t 165), none⟩,
  ⟨some 9, .mov (.k (.int .i64 (0))), none⟩]
def c_complement_Repair_r43 (F : String → Nat) : List LI := [⟨some 166, .load true 2 (.t 27), none⟩,
  ⟨some 167, .fad 4 (.t 10), none⟩,
  ⟨none, .store 2 (.t 167) (.t 166), none⟩]
def c_complement_Repair_b44 (F : String → Nat) : LC := (.block 1 (.seq (.dreg [(3, none, [], true), (6, (some 48), [3], false)] (c_complement_Repair_r5 F) [4, 5, 7, 8, 10, 12, 13]) (.seq (.reg (c_complement_Repair_r6 F) [4, 5, 7, 8, 10, 12, 13, 14, 15]) (.seq (.seq (.reg (c_complement_Repair_r7 F) [4, 5, 7, 8, 10, 12, 13, 15, 52, 53, 54]) (.block 2 (.loop [4, 5, 7, 8, 10, 12, 13, 15, 52, 53, 54] (c_complement_Repair_b12 F)))) (.seq (.seq (.reg (c_complement_Repair_r13 F) [4, 5, 7, 8, 10, 12, 13, 66, 67, 68]) (.block 4 (.loop [4, 5, 7, 8, 10, 12, 13, 66, 67, 68] (c_complement_Repair_b18 F)))) (.seq (.seq (.reg (c_complement_Repair_r19 F) [4, 5, 7, 8, 10, 12, 13, 81, 82, 83]) (.block 6 (.loop [4, 5, 7, 8, 10, 12, 13, 81, 82, 83] (c_complement_Repair_b31 F)))) (.seq (.seq (.reg (c_complement_Repair_r32 F) [4, 5, 7, 8, 10, 12, 13, 116, 117, 118]) (.block 10 (.loop [4, 5, 7, 8, 10, 12, 13, 116, 117, 118] (c_complement_Repair_b37 F)))) (.seq (.reg (c_complement_Repair_r38 F) [4, 5, 7, 8, 10, 12, 13]) (.seq (.reg (c_complement_Repair_r39 F) [4, 5, 7, 8, 10, 12, 13]) (.seq (.reg (c_complement_Repair_r40 F) [4, 5, 7, 8, 10, 27]) (.seq (.seq (.reg (c_complement_Repair_r41 F) [4, 5, 7, 8, 10, 27, 164]) (.cond (.t 164) (.seq (.reg (c_complement_Repair_r42 F) [8, 9]) .ret) .skip)) (.reg (c_complement_Repair_r43 F) [4, 5, 7, 8, 10]))))))))))))
def c_complement_Repair (F : String → Nat) : LC := (.seq (.reg (c_complement_Repair_r0 F) [4, 5, 6, 7, 8]) (.seq (.reg (c_complement_Repair_r1 F) [4, 5, 7, 8, 10]) (.seq (.seq (.reg (c_complement_Repair_r2 F) [4, 5, 7, 8, 10, 11]) (.seq (.reg (c_complement_Repair_r3 F) [4, 5, 7, 8, 10, 11, 36]) (.cond (.t 36) (.seq (.reg (c_complement_Repair_r4 F) [8, 9]) .ret) .skip))) (.block 0 (.loop [4, 5, 7, 8, 10] (c_complement_Repair_b44 F))))))
def h_complement_Repair : Hints := ⟨[], fun _ => [], tab [(0, [4, 5, 6, 7, 8]), (1, [4, 5, 7, 8, 10]), (2, [4, 5, 7, 8, 10, 11]), (3, [4, 5, 7, 8, 10, 11, 36]), (4, [8, 9]), (5, [4, 5, 7, 8, 10, 12, 13]), (6, [4, 5, 7, 8, 10, 12, 13, 14, 15]), (7, [4, 5, 7, 8, 10, 12, 13, 15, 52, 53, 54]), (8, [4, 5, 7, 8, 10, 12, 13, 15, 52, 53, 54, 55]), (9, [4, 5, 7, 8, 10, 12, 13, 15, 17, 52, 53, 54]), (10, [4, 5, 7, 8, 10, 12, 13, 15, 52, 53, 54]), (11, [4, 5, 7, 8, 10, 12, 13, 15, 52, 53, 54]), (12, [4, 5, 7, 8, 10, 12, 13, 66, 67, 68]), (13, [4, 5, 7, 8, 10, 12, 13, 66, 67, 68, 69]), (14, [4, 5, 7, 8, 10, 12, 13, 19, 66, 67, 68]), (15, [4, 5, 7, 8, 10, 12, 13, 66, 67, 68]), (16, [4, 5, 7, 8, 10, 12, 13, 66, 67, 68]), (17, [4, 5, 7, 8, 10, 12, 13, 81, 82, 83]), (18, [4, 5, 7, 8, 10, 12, 13, 81, 82, 83, 84]), (19, [4, 5, 7, 8, 10, 12, 13, 21, 81, 82, 83]), (20, [4, 5, 7, 8, 10, 12, 13, 22, 81, 82, 83]), (21, [4, 5, 7, 8, 10, 12, 13, 22, 81, 82, 83, 93, 94, 95]), (22, [4, 5, 7, 8, 10, 12, 13, 22, 81, 82, 83, 93, 94, 95, 96]), (23, [4, 5, 7, 8, 10, 12, 13, 22, 23, 24, 81, 82, 83, 93, 94, 95]), (24, [4, 5, 7, 8, 10, 12, 13, 22, 23, 81, 82, 83, 93, 94, 95, 109]), (25, [4, 5, 7, 8, 10, 12, 13, 22, 81, 82, 83, 93, 94, 95]), (26, [4, 5, 7, 8, 10, 12, 13, 22, 81, 82, 83, 93, 94, 95]), (27, [4, 5, 7, 8, 10, 12, 13, 81, 82, 83]), (28, [4, 5, 7, 8, 10, 12, 13, 116, 117, 118]), (29, [4, 5, 7, 8, 10, 12, 13, 116, 117, 118, 119]), (30, [4, 5, 7, 8, 10, 12, 13, 26, 116, 117, 118]), (31, [4, 5, 7, 8, 10, 12, 13, 116, 117, 118]), (32, [4, 5, 7, 8, 10, 12, 13, 116, 117, 118]), (33, [4, 5, 7, 8, 10, 12, 13]), (34, [4, 5, 7, 8, 10, 12, 13]), (35, [4, 5, 7, 8, 10, 27]), (36, [4, 5, 7, 8, 10, 27, 164]), (37, [8, 9]), (38, [4, 5, 7, 8, 10])], tab [(5, [4, 5, 7, 8, 10]), (8, [4, 5, 7, 8, 10, 12, 13, 15, 52, 53, 54]), (13, [4, 5, 7, 8, 10, 12, 13, 66, 67, 68]), (18, [4, 5, 7, 8, 10, 12, 13, 81, 82, 83]), (22, [4, 5, 7, 8, 10, 12, 13, 22, 81, 82, 83, 93, 94, 95]), (29, [4, 5, 7, 8, 10, 12, 13, 116, 117, 118])]⟩

attribute [go_sem] c_complement_Repair_r0 c_complement_Repair_r1 c_complement_Repair_r2 c_complement_Repair_r3 c_complement_Repair_r4 c_complement_Repair_r5 c_complement_Repair_r6 c_complement_Repair_r7 c_complement_Repair_r8 c_complement_Repair_r9 c_complement_Repair_r10 c_complement_Repair_r11 c_complement_Repair_r13 c_complement_Repair_r14 c_complement_Repair_r15 c_complement_Repair_r16 c_complement_Repair_r17 c_complement_Repair_r19 c_complement_Repair_r20 c_complement_Repair_r21 c_complement_Repair_r22 c_complement_Repair_r23 c_complement_Repair_r24 c_complement_Repair_r25 c_complement_Repair_r26 c_complement_Repair_r27 c_complement_Repair_r28 c_complement_Repair_r30 c_complement_Repair_r32 c_complement_Repair_r33 c_complement_Repair_r34 c_complement_Repair_r35 c_complement_Repair_r36 c_complement_Repair_r38 c_complement_Repair_r39 c_complement_Repair_r40 c_complement_Repair_r41 c_complement_Repair_r42 c_complement_Repair_r43 c_complement_Repair
def cpS (b : Bool) (x : Cx) (sl : Nat → List (Nat × D)) (hp : Nat → List (Nat × Ent)) (k : Nat) : St := match b with
  | true => ⟨[(4, .pt 0 0), (5, .pt 1 0), (7, .pt 2 0), (8, .pt 5 0), (10, .pt 6 0)] ++ sl 7,
      [(0, .box [.lst 1 (ints x.l.n), .lst 3 (eds x.l.e)]), (1, .box [.lst 1 (ints x.g.n), .lst 3 (eds x.g.e)]), (2, .box [.lst 1 (ints x.m.n), .lst 1 (ints x.m.e)]), (3, .arr 1 []), (4, .arr 1 []), (5, .box [.sl 3 0 0, .sl 4 0 0]),
       (6, .box [.lst 1 (ints x.l.n), .lst 3 (eds x.l.e), .lst 1 (ints x.g.n), .lst 3 (eds x.g.e), .lst 1 (ints x.k.n), .lst 1 (ints x.k.e), .lst 1 (ints x.m.n), .lst 1 (ints x.m.e)])] ++ hp 7, 7 + k⟩
  | false => ⟨[(4, .pt 0 0), (5, .pt 1 0), (7, .pt 2 0), (8, .pt 5 0), (10, .pt 8 0)] ++ sl 9,
      [(0, .box [.lst 1 (ints x.l.n), .lst 3 (eds x.l.e)]), (1, .box [.lst 1 (ints x.g.n), .lst 3 (eds x.g.e)]), (2, .box [.lst 1 (ints x.m.n), .lst 1 (ints x.m.e)]), (3, .arr 1 []), (4, .arr 1 []), (5, .box [.sl 3 0 0, .sl 4 0 0]),
       (6, .arr 1 (ints x.k.n)), (7, .arr 1 (ints x.k.e)), (8, .box [.lst 1 (ints x.l.n), .lst 3 (eds x.l.e), .lst 1 (ints x.g.n), .lst 3 (eds x.g.e), .sl 6 0 x.k.n.length, .sl 7 0 x.k.e.length, .lst 1 (ints x.m.n), .lst 1 (ints x.m.e)])] ++ hp 9, 9 + k⟩
theorem ints_two (l : List Int) (a b : Int) : ints l ++ [.int .i64 a, .int .i64 b] = ints (l ++ [a, b]) := by simp [ints]
attribute [go_sem] ints_two
section
variable (P : Program) (F : String → Nat)
def K_complement_Repair : Prop := ∀ x : Cx, x.sm → FC P (F "complement.Repair") [gD x.l, gD x.g, mD x.k, mD x.m] (.tup [mA (repR x).1, .int .i64 (repR x).2]) []
end
section
variable {P : Program} {F : String → Nat} {α : Type}
set_option maxHeartbeats 16000000 in
set_option maxRecDepth 100000 in
theorem w_complement_Repair (hg : K_complement_gluing_given P F) (hcl : K_slices_Clone_I P F) (hi : K_complement_gluing_identified P F) (hd : K_complement_gluing_dangling P F) (hso : K_slices_Sort_I P F) (hco : K_slices_Compact_I P F) (x : Cx) (hs : x.sm) :
    W P (c_complement_Repair F) (Done [.c 8 true 2, .t 9] [] (.tup [mA (repR x).1, .int .i64 (repR x).2]) []) (init [gD x.l, gD x.g, mD x.k, mD x.m]) := by
  refine W_of ?_
  have r1 := hg x hs
  by_cases c : cxE x = 0
  case neg =>
    have hR : repR x = (m0, cxE x) := by unfold repR; rw [if_pos c]
    rw [hR]
    generalize cxE x = v at *
    simp only [gD, mD, cxD] at *
    simp (config := { maxSteps := 1000000 }) (disch := first | omega | (simp only [go_sem]; omega)) only [go_sem, ↓reduceIte]
    refine call_by r1 ?_
    simp (config := { maxSteps := 1000000 }) (disch := first | omega | (simp only [go_sem]; omega)) only [go_sem, ↓reduceIte, c]
    simp [m0, mA, ints]
  have hR : repR x = (repGo 121 x, 0) := by unfold repR; rw [if_neg (by simp [c])]
  rw [hR]
  rw [c] at r1
  have hmu : rpM x.k < 121 := by unfold rpM; omega
  have hc0 := c
  clear hR
  obtain ⟨⟨ln, le⟩, ⟨gn, ge⟩, ⟨kn0, ke0⟩, ⟨mn, me⟩⟩ := x
  simp only [gD, mD, cxD] at *
  simp (config := { maxSteps := 1000000 }) (disch := first | omega | (simp only [go_sem]; omega)) only [go_sem, ↓reduceIte]
  refine call_by r1 ?_
  simp (config := { maxSteps := 1000000 }) (disch := first | omega | (simp only [go_sem]; omega)) only [go_sem, ↓reduceIte]
  refine W_loop (fun s : Bool × Nat × Mo => cpS s.1 ⟨⟨ln, le⟩, ⟨gn, ge⟩, s.2.2, ⟨mn, me⟩⟩ (fun _ => []) (fun _ => []) 0) (fun s => repGo 121 ⟨⟨ln, le⟩, ⟨gn, ge⟩, ⟨kn0, ke0⟩, ⟨mn, me⟩⟩ = repGo s.2.1 ⟨⟨ln, le⟩, ⟨gn, ge⟩, s.2.2, ⟨mn, me⟩⟩ ∧ cxE ⟨⟨ln, le⟩, ⟨gn, ge⟩, s.2.2, ⟨mn, me⟩⟩ = 0 ∧ rpM s.2.2 < s.2.1) (fun s => s.2.1) (true, 121, ⟨kn0, ke0⟩) ?_ ?_ ?_
  · simp (config := { maxSteps := 1000000 }) (disch := first | omega | (simp only [go_sem]; omega)) only [go_sem, ↓reduceIte, cpS]
    try rfl
  · exact ⟨rfl, hc0, hmu⟩
  · rintro ⟨b, n, ⟨kn, ke⟩⟩ ⟨h1, h2, h3⟩
    simp only at h1 h2 h3
    rw [h1]
    clear h1 hmu hc0 r1 c hs
    obtain ⟨n, rfl⟩ : ∃ n', n = n' + 1 := ⟨n - 1, by omega⟩
    obtain ⟨y, hy⟩ : ∃ y : Cx, y = ⟨⟨ln, le⟩, ⟨gn, ge⟩, ⟨kn, ke⟩, ⟨mn, me⟩⟩ := ⟨_, rfl⟩
    have hk : (⟨kn, ke⟩ : Mo) = y.k := by rw [hy]
    rw [← hy] at h2
    rw [hk] at h3
    obtain ⟨hm, hpk⟩ := cx_len h2
    have vl := valid_spec hm.va
    have vg := valid_spec hm.vb
    have l1 := hm.ln
    have l2 := hm.le
    have l3 := hpk.len
    have s1 := hcl y.k.n (by omega)
    have s2 := hcl y.k.e (by omega)
    have s3 := hi y h2
    have s4 := hd y h2
    have q1 := idL_len (im := y.m.n) (kn := y.k.n) (by omega)
    have q2 := idL_len (im := y.m.e) (kn := y.k.e) (by omega)
    have q3 := danL_len y
    have hdb : ∀ i : Nat, i < (cxDan y).length → 0 ≤ gt (cxDan y) i ∧ gt (cxDan y) i < y.g.e.length := fun i hi => by
      obtain ⟨j, hj, _, e⟩ := danL_mem.1 (gt_mem (l := cxDan y) (j := i) (by omega) (by omega))
      omega
    have heb : ∀ i : Nat, i < (rpE y).length → 0 ≤ gt (rpE y) i ∧ gt (rpE y) i < y.l.e.length := fun i hi => rpE_in h2 _ (gt_mem (by omega) (by omega))
    obtain ⟨n1, n2, n3⟩ := next_len h2
    obtain ⟨i1, i2⟩ := next_imgs h2
    have hNE : rpE y = y.k.e ++ flP (idL y.m.e y.k.e) (idL y.m.e y.k.e).length := rfl
    have hNN : rpN y = (y.k.n ++ flP (idL y.m.n y.k.n) (idL y.m.n y.k.n).length) ++ dnL y.g y.m.n (cxDan y) (cxDan y).length := rfl
    have hgo : repGo (n + 1) y = if nextP y = y.k then y.k else repGo n (y.wk (nextP y)) := rfl
    have hnm := fun h => next_m h2 h
    have hno := next_ok h2
    have fl1 := flP_len (idL y.m.n y.k.n)
    have fl2 := flP_len (idL y.m.e y.k.e)
    have dl := dnL_len y.g y.m.n (cxDan y)
    have dlb : ∀ i : Nat, i ≤ (cxDan y).length → (dnL y.g y.m.n (cxDan y) i).length ≤ 3200 := fun i hi => Nat.le_trans (dl i) (Nat.mul_le_mul (by omega : i ≤ 80) (by omega : y.m.n.length ≤ 40))
    have el := edL_len y.l (rpE y)
    have fS1 : ∀ i, flP (idL y.m.n y.k.n) (i + 1) = flP (idL y.m.n y.k.n) i ++ [(gt (idL y.m.n y.k.n) i).a, (gt (idL y.m.n y.k.n) i).b] := fun i => rfl
    have fS2 : ∀ i, flP (idL y.m.e y.k.e) (i + 1) = flP (idL y.m.e y.k.e) i ++ [(gt (idL y.m.e y.k.e) i).a, (gt (idL y.m.e y.k.e) i).b] := fun i => rfl
    have dS : ∀ i, dnL y.g y.m.n (cxDan y) (i + 1) = dnL y.g y.m.n (cxDan y) i ++ atE y.m.n (gt y.g.e (gt (cxDan y) i)) y.m.n.length := fun i => rfl
    have eS : ∀ i, edL y.l (rpE y) (i + 1) = edL y.l (rpE y) i ++ [(gt y.l.e (gt (rpE y) i)).f, (gt y.l.e (gt (rpE y) i)).o] := fun i => rfl
    have f01 : flP (idL y.m.n y.k.n) 0 = [] := rfl
    have f02 : flP (idL y.m.e y.k.e) 0 = [] := rfl
    have d0 : dnL y.g y.m.n (cxDan y) 0 = [] := rfl
    have e0 : edL y.l (rpE y) 0 = [] := rfl
    have aL := fun e n => atE_len y.m.n e n
    have aS : ∀ e n, atE y.m.n e (n + 1) = if (decide (gt y.m.n n = e.f) || decide (gt y.m.n n = e.o)) = true then atE y.m.n e n ++ [(n : Int)] else atE y.m.n e n := fun e n => sel_succ _ _
    have a0 : ∀ e, atE y.m.n e 0 = [] := fun e => rfl
    clear hm hpk hk dl hcl hi hd hg
    generalize nextP y = nx at *
    generalize cxDan y = da at *
    generalize idL y.m.n y.k.n = il at *
    generalize idL y.m.e y.k.e = jl at *
    generalize flP il = f1 at *
    generalize flP jl = f2 at *
    generalize dnL y.g y.m.n da = dn at *
    generalize edL y.l (rpE y) = ed at *
    generalize atE y.m.n = at_ at *
    generalize rpN y = rN at *
    generalize rpE y = rE at *
    have fb1 := fl1 il.length
    have fb2 := fl2 jl.length
    have eb := el rE.length
    have rEl : rE.length = y.k.e.length + 2 * jl.length := by rw [hNE, List.length_append]; omega
    have s5 := hso (rN ++ ed rE.length) (by have := dlb da.length (Nat.le_refl _); rw [hNN]; simp only [List.length_append, maxL]; omega)
    have s6 := hso rE (by unfold maxL; omega)
    have sl5 := srt_len (rN ++ ed rE.length)
    have sl6 := srt_len rE
    have s7 := hco (srt (rN ++ ed rE.length)) (by rw [sl5]; have := dlb da.length (Nat.le_refl _); rw [hNN]; simp only [List.length_append, maxL]; omega)
    have s8 := hco (srt rE) (by rw [sl6]; unfold maxL; omega)
    rw [show cpt (srt (rN ++ ed rE.length)) = imgs (rN ++ ed rE.length) from rfl, i1] at s7
    rw [show cpt (srt rE) = imgs rE from rfl, i2] at s8
    clear i1 i2
    subst hy
    obtain ⟨nxn, nxe⟩ := nx
    simp only [cxD, Cx.wk] at *
    rcases (show b = true ∨ b = false by cases b <;> simp) with hb | hb
    all_goals
      simp (config := { maxSteps := 1000000 }) (disch := first | omega | (simp only [go_sem]; omega)) only [go_sem, ↓reduceIte, c_complement_Repair_b44, cpS, hb]
      refine call_by s1 ?_
      simp (config := { maxSteps := 1000000 }) (disch := first | omega | (simp only [go_sem]; omega)) only [go_sem, ↓reduceIte]
      refine call_by s2 ?_
      simp (config := { maxSteps := 1000000 }) (disch := first | omega | (simp only [go_sem]; omega)) only [go_sem, ↓reduceIte]
      refine call_by s3 ?_
      simp (config := { maxSteps := 1000000 }) (disch := first | omega | (simp only [go_sem]; omega)) only [go_sem, ↓reduceIte]
      refine W_loop (fun i : Nat => cpS b ⟨⟨ln, le⟩, ⟨gn, ge⟩, ⟨kn, ke⟩, ⟨mn, me⟩⟩ (fun N => [(12, .sl N 0 (kn.length + 2 * i)), (13, .sl (N + 1) 0 ke.length), (15, .sl (N + 2) 0 jl.length), (52, .sl (N + 3) 0 il.length), (53, .int .i64 il.length), (54, .int .i64 i)])
        (fun N => [(N, .arr 1 (ints (kn ++ f1 i))), (N + 1, .arr 1 (ints ke)), (N + 2, .arr 2 (prs jl)), (N + 3, .arr 2 (prs il))]) 4) (fun i => i ≤ il.length) (fun i => il.length - i) 0 ?_ ?_ ?_
      · simp (config := { maxSteps := 1000000 }) (disch := first | omega | (simp only [go_sem]; omega)) only [go_sem, ↓reduceIte, cpS, hb, f01]
        rfl
      · simp
      · intro i hi
        have fli := fl1 i
        have al : (kn ++ f1 i).length = kn.length + 2 * i := by rw [List.length_append, fli]
        by_cases c : i < il.length
        · have g1 : decide ((i : Int) < il.length) = true := decide_eq_true (by omega)
          simp (config := { maxSteps := 1000000 }) (disch := first | omega | (simp only [go_sem]; omega)) only [go_sem, ↓reduceIte, c_complement_Repair_b12, cpS, hb, g1, al]
          exact ⟨i + 1, by simp [fS1, Nat.mul_add, Nat.add_assoc], by omega, by omega⟩
        · have g1 : decide ((i : Int) < il.length) = false := decide_eq_false (by omega)
          obtain rfl : i = il.length := by omega
          simp (config := { maxSteps := 1000000 }) (disch := first | omega | (simp only [go_sem]; omega)) only [go_sem, ↓reduceIte, c_complement_Repair_b12, cpS, hb, g1, al]
          clear al fli
          refine W_loop (fun i : Nat => cpS b ⟨⟨ln, le⟩, ⟨gn, ge⟩, ⟨kn, ke⟩, ⟨mn, me⟩⟩ (fun N => [(12, .sl N 0 (kn.length + 2 * il.length)), (13, .sl (N + 1) 0 (ke.length + 2 * i)), (66, .sl (N + 2) 0 jl.length), (67, .int .i64 jl.length), (68, .int .i64 i)])
            (fun N => [(N, .arr 1 (ints (kn ++ f1 il.length))), (N + 1, .arr 1 (ints (ke ++ f2 i))), (N + 2, .arr 2 (prs jl))]) 3) (fun i => i ≤ jl.length) (fun i => jl.length - i) 0 ?_ ?_ ?_
          · simp (config := { maxSteps := 1000000 }) (disch := first | omega | (simp only [go_sem]; omega)) only [go_sem, ↓reduceIte, cpS, hb, f02]
            rfl
          · simp
          · intro i hi
            have fli := fl2 i
            have al : (ke ++ f2 i).length = ke.length + 2 * i := by rw [List.length_append, fli]
            by_cases c : i < jl.length
            · have g1 : decide ((i : Int) < jl.length) = true := decide_eq_true (by omega)
              simp (config := { maxSteps := 1000000 }) (disch := first | omega | (simp only [go_sem]; omega)) only [go_sem, ↓reduceIte, c_complement_Repair_b18, cpS, hb, g1, al]
              exact ⟨i + 1, by simp [fS2, Nat.mul_add, Nat.add_assoc], by omega, by omega⟩
            · have g1 : decide ((i : Int) < jl.length) = false := decide_eq_false (by omega)
              obtain rfl : i = jl.length := by omega
              simp (config := { maxSteps := 1000000 }) (disch := first | omega | (simp only [go_sem]; omega)) only [go_sem, ↓reduceIte, c_complement_Repair_b18, cpS, hb, g1, al]
              refine call_by s4 ?_
              simp (config := { maxSteps := 1000000 }) (disch := first | omega | (simp only [go_sem]; omega)) only [go_sem, ↓reduceIte]
              have nnl : (kn ++ f1 il.length).length = kn.length + 2 * il.length := by rw [List.length_append, fb1]
              rw [← nnl, ← hNE, ← rEl]
              clear al fli
              generalize hnn : kn ++ f1 il.length = nn at *
              refine W_loop (fun i : Nat => cpS b ⟨⟨ln, le⟩, ⟨gn, ge⟩, ⟨kn, ke⟩, ⟨mn, me⟩⟩ (fun N => [(12, .sl N 0 (nn.length + (dn i).length)), (13, .sl (N + 1) 0 rE.length), (81, .sl (N + 2) 0 da.length), (82, .int .i64 da.length), (83, .int .i64 i)])
                (fun N => [(N, .arr 1 (ints (nn ++ dn i))), (N + 1, .arr 1 (ints rE)), (N + 2, .arr 1 (ints da))]) 3) (fun i => i ≤ da.length) (fun i => da.length - i) 0 ?_ ?_ ?_
              · simp (config := { maxSteps := 1000000 }) (disch := first | omega | (simp only [go_sem]; omega)) only [go_sem, ↓reduceIte, cpS, hb, d0]
                rfl
              · simp
              · intro i hi
                have dli := dlb i hi
                have al : (nn ++ dn i).length = nn.length + (dn i).length := List.length_append
                by_cases c : i < da.length
                · have g1 : decide ((i : Int) < da.length) = true := decide_eq_true (by omega)
                  have hdi := hdb i c
                  have aLi := aL (gt ge (gt da i))
                  have aSi := aS (gt ge (gt da i))
                  have a0i := a0 (gt ge (gt da i))
                  have dSi := dS i
                  generalize hge : gt ge (gt da i) = e at *
                  simp (config := { maxSteps := 1000000 }) (disch := first | omega | (simp only [go_sem]; omega)) only [go_sem, ↓reduceIte, c_complement_Repair_b31, cpS, hb, g1, al]
                  refine W_loop (fun j : Nat => cpS b ⟨⟨ln, le⟩, ⟨gn, ge⟩, ⟨kn, ke⟩, ⟨mn, me⟩⟩ (fun N => [(12, .sl N 0 (nn.length + (dn i).length + (at_ e j).length)), (13, .sl (N + 1) 0 rE.length), (22, .pt (N + 2) 0), (81, .sl (N + 3) 0 da.length), (82, .int .i64 da.length), (83, .int .i64 i), (93, .lst 1 (ints mn)), (94, .int .i64 mn.length), (95, .int .i64 j)])
                    (fun N => [(N, .arr 1 (ints (nn ++ dn i ++ at_ e j))), (N + 1, .arr 1 (ints rE)), (N + 2, .box [.int .i64 e.t, .int .i64 e.f, .int .i64 e.o]), (N + 3, .arr 1 (ints da))]) 4) (fun j => j ≤ mn.length) (fun j => mn.length - j) 0 ?_ ?_ ?_
                  · simp (config := { maxSteps := 1000000 }) (disch := first | omega | (simp only [go_sem]; omega)) only [go_sem, ↓reduceIte, cpS, hb, a0i, hge]
                    rfl
                  · simp
                  · intro j hj
                    have aLj := aLi j
                    have al2 : (nn ++ dn i ++ at_ e j).length = nn.length + (dn i).length + (at_ e j).length := by simp only [List.length_append]
                    by_cases c2 : j < mn.length
                    · have g2 : decide ((j : Int) < mn.length) = true := decide_eq_true (by omega)
                      have hsj := aSi j
                      generalize hd1 : decide (gt mn j = e.f) = t1 at *
                      generalize hd2 : decide (gt mn j = e.o) = t2 at *
                      cases t1
                      · cases t2
                        · simp (config := { maxSteps := 1000000 }) (disch := first | omega | (simp only [go_sem]; omega)) only [go_sem, ↓reduceIte, c_complement_Repair_b29, cpS, hb, g2, al2, hd1, hd2]
                          exact ⟨j + 1, by simp [hsj], by omega, by omega⟩
                        · simp (config := { maxSteps := 1000000 }) (disch := first | omega | (simp only [go_sem]; omega)) only [go_sem, ↓reduceIte, c_complement_Repair_b29, cpS, hb, g2, al2, hd1, hd2]
                          exact ⟨j + 1, by simp [hsj, Nat.add_assoc], by omega, by omega⟩
                      · simp (config := { maxSteps := 1000000 }) (disch := first | omega | (simp only [go_sem]; omega)) only [go_sem, ↓reduceIte, c_complement_Repair_b29, cpS, hb, g2, al2, hd1]
                        exact ⟨j + 1, by simp [hsj, Nat.add_assoc], by omega, by omega⟩
                    · have g2 : decide ((j : Int) < mn.length) = false := decide_eq_false (by omega)
                      obtain rfl : j = mn.length := by omega
                      simp (config := { maxSteps := 1000000 }) (disch := first | omega | (simp only [go_sem]; omega)) only [go_sem, ↓reduceIte, c_complement_Repair_b29, cpS, hb, g2, al2]
                      exact ⟨i + 1, by simp [dSi, Nat.add_assoc], by omega, by omega⟩
                · have g1 : decide ((i : Int) < da.length) = false := decide_eq_false (by omega)
                  obtain rfl : i = da.length := by omega
                  simp (config := { maxSteps := 1000000 }) (disch := first | omega | (simp only [go_sem]; omega)) only [go_sem, ↓reduceIte, c_complement_Repair_b31, cpS, hb, g1, al]
                  rw [← al, ← hNN]
                  have rNl : rN.length = nn.length + (dn da.length).length := by rw [hNN, al]
                  have nnb : nn.length ≤ 3000000 := by omega
                  clear al
                  refine W_loop (fun i : Nat => cpS b ⟨⟨ln, le⟩, ⟨gn, ge⟩, ⟨kn, ke⟩, ⟨mn, me⟩⟩ (fun N => [(12, .sl N 0 (rN.length + 2 * i)), (13, .sl (N + 1) 0 rE.length), (116, .sl (N + 1) 0 rE.length), (117, .int .i64 rE.length), (118, .int .i64 i)])
                    (fun N => [(N, .arr 1 (ints (rN ++ ed i))), (N + 1, .arr 1 (ints rE))]) 2) (fun i => i ≤ rE.length) (fun i => rE.length - i) 0 ?_ ?_ ?_
                  · simp (config := { maxSteps := 1000000 }) (disch := first | omega | (simp only [go_sem]; omega)) only [go_sem, ↓reduceIte, cpS, hb, e0]
                    rfl
                  · simp
                  · intro i hi
                    have eli := el i
                    have al : (rN ++ ed i).length = rN.length + 2 * i := by rw [List.length_append, eli]
                    by_cases c : i < rE.length
                    · have g1 : decide ((i : Int) < rE.length) = true := decide_eq_true (by omega)
                      have hei := heb i c
                      simp (config := { maxSteps := 1000000 }) (disch := first | omega | (simp only [go_sem]; omega)) only [go_sem, ↓reduceIte, c_complement_Repair_b37, cpS, hb, g1, al]
                      exact ⟨i + 1, by simp [eS, Nat.mul_add, Nat.add_assoc], by omega, by omega⟩
                    · have g1 : decide ((i : Int) < rE.length) = false := decide_eq_false (by omega)
                      obtain rfl : i = rE.length := by omega
                      have sl5' : (srt (rN ++ ed rE.length)).length = rN.length + 2 * rE.length := by rw [sl5, al]
                      by_cases e1 : nxn.length = kn.length
                      · have k1 : decide ((nxn.length : Int) = kn.length) = true := decide_eq_true (by omega)
                        by_cases e2 : nxe.length = ke.length
                        · have k2 : decide ((nxe.length : Int) = ke.length) = true := decide_eq_true (by omega)
                          have hnx := n3.1 ⟨e1, e2⟩
                          rw [hgo, if_pos hnx, ← hnx]
                          simp (config := { maxSteps := 1000000 }) (disch := first | omega | (simp only [go_sem]; omega)) only [go_sem, ↓reduceIte, c_complement_Repair_b37, cpS, hb, g1, al]
                          refine call_by s5 ?_
                          simp (config := { maxSteps := 1000000 }) (disch := first | omega | (simp only [go_sem]; omega)) only [go_sem, ↓reduceIte, sl5', al]
                          refine call_by s6 ?_
                          simp (config := { maxSteps := 1000000 }) (disch := first | omega | (simp only [go_sem]; omega)) only [go_sem, ↓reduceIte, sl5', sl6]
                          refine call_by s7 ?_
                          simp (config := { maxSteps := 1000000 }) (disch := first | omega | (simp only [go_sem]; omega)) only [go_sem, ↓reduceIte, sl5', sl6]
                          refine call_by s8 ?_
                          simp (config := { maxSteps := 1000000 }) (disch := first | omega | (simp only [go_sem]; omega)) only [go_sem, ↓reduceIte, k1, k2]
                          try rfl
                        · have k2 : decide ((nxe.length : Int) = ke.length) = false := decide_eq_false (by omega)
                          have hnx : (⟨nxn, nxe⟩ : Mo) ≠ ⟨kn, ke⟩ := fun h => e2 (n3.2 h).2
                          have hmm := hnm hnx
                          rw [if_neg hnx] at hgo
                          simp (config := { maxSteps := 1000000 }) (disch := first | omega | (simp only [go_sem]; omega)) only [go_sem, ↓reduceIte, c_complement_Repair_b37, cpS, hb, g1, al]
                          refine call_by s5 ?_
                          simp (config := { maxSteps := 1000000 }) (disch := first | omega | (simp only [go_sem]; omega)) only [go_sem, ↓reduceIte, sl5', al]
                          refine call_by s6 ?_
                          simp (config := { maxSteps := 1000000 }) (disch := first | omega | (simp only [go_sem]; omega)) only [go_sem, ↓reduceIte, sl5', sl6]
                          refine call_by s7 ?_
                          simp (config := { maxSteps := 1000000 }) (disch := first | omega | (simp only [go_sem]; omega)) only [go_sem, ↓reduceIte, sl5', sl6]
                          refine call_by s8 ?_
                          simp (config := { maxSteps := 1000000 }) (disch := first | omega | (simp only [go_sem]; omega)) only [go_sem, ↓reduceIte, k1, k2]
                          exact ⟨(false, n, ⟨nxn, nxe⟩), by simp [cpS], ⟨by simp only; exact hgo, hno, by simp only; omega⟩, by simp only; omega⟩
                      · have k1 : decide ((nxn.length : Int) = kn.length) = false := decide_eq_false (by omega)
                        have hnx : (⟨nxn, nxe⟩ : Mo) ≠ ⟨kn, ke⟩ := fun h => e1 (n3.2 h).1
                        have hmm := hnm hnx
                        rw [if_neg hnx] at hgo
                        simp (config := { maxSteps := 1000000 }) (disch := first | omega | (simp only [go_sem]; omega)) only [go_sem, ↓reduceIte, c_complement_Repair_b37, cpS, hb, g1, al]
                        refine call_by s5 ?_
                        simp (config := { maxSteps := 1000000 }) (disch := first | omega | (simp only [go_sem]; omega)) only [go_sem, ↓reduceIte, sl5', al]
                        refine call_by s6 ?_
                        simp (config := { maxSteps := 1000000 }) (disch := first | omega | (simp only [go_sem]; omega)) only [go_sem, ↓reduceIte, sl5', sl6]
                        refine call_by s7 ?_
                        simp (config := { maxSteps := 1000000 }) (disch := first | omega | (simp only [go_sem]; omega)) only [go_sem, ↓reduceIte, sl5', sl6]
                        refine call_by s8 ?_
                        simp (config := { maxSteps := 1000000 }) (disch := first | omega | (simp only [go_sem]; omega)) only [go_sem, ↓reduceIte, k1]
                        exact ⟨(false, n, ⟨nxn, nxe⟩), by simp [cpS], ⟨by simp only; exact hgo, hno, by simp only; omega⟩, by simp only; omega⟩
end
end Go.Am
