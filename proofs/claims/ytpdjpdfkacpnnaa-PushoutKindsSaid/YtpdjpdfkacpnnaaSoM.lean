/- The reference's Reorder; the law PushoutKinds. -/
import Derived.Test.YtpdjpdfkacpnnaaSoL
namespace Go.Am
open Go
set_option linter.unusedVariables false
set_option linter.unusedSimpArgs false
attribute [local irreducible] W
/- r05.permutation -/
def c_r05_permutation_r0 (F : String → Nat) : List LI := [⟨some 2, .mov (.k (.int .i64 (0))), none⟩]
def c_r05_permutation_r1 (F : String → Nat) : List LI := [⟨some 3, .mov (.k (.int .i64 (0))), none⟩]
def c_r05_permutation_r2 (F : String → Nat) : List LI := [⟨some 6, .mov (.t 3), none⟩,
  ⟨some 7, .mov (.t 0), none⟩,
  ⟨some 8, .len (.t 7), none⟩,
  ⟨some 9, .bin .lss (.t 6) (.t 8), none⟩]
def c_r05_permutation_r3 (F : String → Nat) : List LI := [⟨some 12, .mov (.t 0), none⟩,
  ⟨some 13, .mov (.t 3), none⟩,
  ⟨some 14, .iad 1 (.t 12) (.t 13), none⟩,
  ⟨some 15, .load false 1 (.t 14), none⟩,
  ⟨some 16, .bin .lss (.t 15) (.k (.int .i64 (0))), none⟩,
  ⟨some 17, .mov (.t 16), none⟩,
  ⟨some 18, .mov (.t 0), some (17, false)⟩,
  ⟨some 19, .mov (.t 3), some (17, false)⟩,
  ⟨some 20, .iad 1 (.t 18) (.t 19), some (17, false)⟩,
  ⟨some 21, .load false 1 (.t 20), some (17, false)⟩,
  ⟨some 22, .mov (.t 0), some (17, false)⟩,
  ⟨some 23, .len (.t 22), some (17, false)⟩,
  ⟨some 24, .bin .geq (.t 21) (.t 23), some (17, false)⟩,
  ⟨some 25, .pick (.t 17) (.k (.bool true)) (.t 24), none⟩]
def c_r05_permutation_r4 (F : String → Nat) : List LI := [⟨some 2, .mov (.k (.int .i64 (6))), none⟩]
def c_r05_permutation_r5 (F : String → Nat) : List LI := [⟨some 10, .mov (.t 3), none⟩,
  ⟨some 11, .bin .add (.t 10) (.k (.int .i64 (1))), none⟩,
  ⟨some 3, .mov (.t 11), none⟩]
def c_r05_permutation_b6 (F : String → Nat) : LC := (.seq (.seq (.reg (c_r05_permutation_r2 F) [0, 3, 9]) (.cond (.t 9) .skip (.exit 0))) (.seq (.block 1 (.seq (.reg (c_r05_permutation_r3 F) [0, 3, 25]) (.cond (.t 25) (.seq (.reg (c_r05_permutation_r4 F) [2]) .ret) .skip))) (.reg (c_r05_permutation_r5 F) [0, 3])))
def c_r05_permutation_r7 (F : String → Nat) : List LI := [⟨some 4, .mov (.k (.int .i64 (0))), none⟩]
def c_r05_permutation_r8 (F : String → Nat) : List LI := [⟨some 26, .mov (.t 4), none⟩,
  ⟨some 27, .mov (.t 0), none⟩,
  ⟨some 28, .len (.t 27), none⟩,
  ⟨some 29, .bin .lss (.t 26) (.t 28), none⟩]
def c_r05_permutation_r9 (F : String → Nat) : List LI := [⟨some 5, .mov (.k (.int .i64 (0))), none⟩]
def c_r05_permutation_r10 (F : String → Nat) : List LI := [⟨some 32, .mov (.t 5), none⟩,
  ⟨some 33, .mov (.t 4), none⟩,
  ⟨some 34, .bin .lss (.t 32) (.t 33), none⟩]
def c_r05_permutation_r11 (F : String → Nat) : List LI := [⟨some 37, .mov (.t 0), none⟩,
  ⟨some 38, .mov (.t 4), none⟩,
  ⟨some 39, .iad 1 (.t 37) (.t 38), none⟩,
  ⟨some 40, .load false 1 (.t 39), none⟩,
  ⟨some 41, .mov (.t 0), none⟩,
  ⟨some 42, .mov (.t 5), none⟩,
  ⟨some 43, .iad 1 (.t 41) (.t 42), none⟩,
  ⟨some 44, .load false 1 (.t 43), none⟩,
  ⟨some 45, .bin .eql (.t 40) (.t 44), none⟩]
def c_r05_permutation_r12 (F : String → Nat) : List LI := [⟨some 2, .mov (.k (.int .i64 (5))), none⟩]
def c_r05_permutation_r13 (F : String → Nat) : List LI := [⟨some 35, .mov (.t 5), none⟩,
  ⟨some 36, .bin .add (.t 35) (.k (.int .i64 (1))), none⟩,
  ⟨some 5, .mov (.t 36), none⟩]
def c_r05_permutation_b14 (F : String → Nat) : LC := (.seq (.seq (.reg (c_r05_permutation_r10 F) [0, 4, 5, 34]) (.cond (.t 34) .skip (.exit 4))) (.seq (.block 5 (.seq (.dreg [] (c_r05_permutation_r11 F) [0, 4, 5, 45]) (.cond (.t 45) (.seq (.reg (c_r05_permutation_r12 F) [2]) .ret) .skip))) (.reg (c_r05_permutation_r13 F) [0, 4, 5])))
def c_r05_permutation_r15 (F : String → Nat) : List LI := [⟨some 30, .mov (.t 4), none⟩,
  ⟨some 31, .bin .add (.t 30) (.k (.int .i64 (1))), none⟩,
  ⟨some 4, .mov (.t 31), none⟩]
def c_r05_permutation_b16 (F : String → Nat) : LC := (.seq (.seq (.reg (c_r05_permutation_r8 F) [0, 4, 29]) (.cond (.t 29) .skip (.exit 2))) (.seq (.block 3 (.seq (.reg (c_r05_permutation_r9 F) [0, 4, 5]) (.block 4 (.loop [0, 4, 5] (c_r05_permutation_b14 F))))) (.reg (c_r05_permutation_r15 F) [0, 4])))
def c_r05_permutation_r17 (F : String → Nat) : List LI := [⟨some 2, .mov (.k (.int .i64 (0))), none⟩]
def c_r05_permutation (F : String → Nat) : LC := (.seq (.reg (c_r05_permutation_r0 F) [0]) (.seq (.seq (.reg (c_r05_permutation_r1 F) [0, 3]) (.block 0 (.loop [0, 3] (c_r05_permutation_b6 F)))) (.seq (.seq (.reg (c_r05_permutation_r7 F) [0, 4]) (.block 2 (.loop [0, 4] (c_r05_permutation_b16 F)))) (.seq (.reg (c_r05_permutation_r17 F) [2]) .ret))))
def h_r05_permutation : Hints := ⟨[], fun _ => [], tab [(0, [0]), (1, [0, 3]), (2, [0, 3, 9]), (3, [0, 3]), (4, [0, 3, 25]), (5, [2]), (6, [0, 4]), (7, [0, 4, 29]), (8, [0, 4]), (9, [0, 4, 5]), (10, [0, 4, 5, 34]), (11, [0, 4, 5]), (12, [0, 4, 5, 45]), (13, [2]), (14, [2])], tab [(2, [0, 3]), (7, [0, 4]), (10, [0, 4, 5])]⟩

/- r05.Reorder -/
def c_r05_Reorder_r0 (F : String → Nat) : List LI := [⟨some 2, .bx (.t 0), none⟩,
  ⟨some 3, .bx (.t 1), none⟩,
  ⟨some 4, .alloc [.nl 1, .nl 3], none⟩,
  ⟨some 5, .mov (.k (.int .i64 (0))), none⟩]
def c_r05_Reorder_r1 (F : String → Nat) : List LI := [⟨some 13, .load true 2 (.t 2), none⟩,
  ⟨some 14, .call (F "r05.Valid") [.t 13] [], none⟩,
  ⟨some 6, .mov (.t 14), none⟩]
def c_r05_Reorder_r2 (F : String → Nat) : List LI := [⟨some 15, .mov (.t 6), none⟩,
  ⟨some 16, .bin .neq (.t 15) (.k (.int .i64 (0))), none⟩]
def c_r05_Reorder_r3 (F : String → Nat) : List LI := [⟨some 17, .build [.nl 1, .nl 3] [], none⟩,
  ⟨some 18, .mov (.t 6), none⟩,
  ⟨none, .store 2 (.t 4) (.t 17), none⟩,
  ⟨some 5, .mov (.t 18), none⟩]
def c_r05_Reorder_r4 (F : String → Nat) : List LI := [⟨some 19, .fad 0 (.t 3), none⟩,
  ⟨some 20, .load false 1 (.t 19), none⟩,
  ⟨some 21, .len (.t 20), none⟩,
  ⟨some 22, .fad 0 (.t 2), none⟩,
  ⟨some 23, .load false 1 (.t 22), none⟩,
  ⟨some 24, .len (.t 23), none⟩,
  ⟨some 25, .bin .neq (.t 21) (.t 24), none⟩,
  ⟨some 26, .mov (.t 25), none⟩,
  ⟨some 27, .fad 1 (.t 3), some (26, false)⟩,
  ⟨some 28, .load false 1 (.t 27), some (26, false)⟩,
  ⟨some 29, .len (.t 28), some (26, false)⟩,
  ⟨some 30, .fad 1 (.t 2), some (26, false)⟩,
  ⟨some 31, .load false 1 (.t 30), some (26, false)⟩,
  ⟨some 32, .len (.t 31), some (26, false)⟩,
  ⟨some 33, .bin .neq (.t 29) (.t 32), some (26, false)⟩,
  ⟨some 34, .pick (.t 26) (.k (.bool true)) (.t 33), none⟩]
def c_r05_Reorder_r5 (F : String → Nat) : List LI := [⟨some 35, .build [.nl 1, .nl 3] [], none⟩,
  ⟨none, .store 2 (.t 4) (.t 35), none⟩,
  ⟨some 5, .mov (.k (.int .i64 (20))), none⟩]
def c_r05_Reorder_r6 (F : String → Nat) : List LI := [⟨some 36, .fad 0 (.t 3), none⟩,
  ⟨some 37, .load false 1 (.t 36), none⟩,
  ⟨some 38, .call (F "r05.permutation") [.t 37] [], none⟩,
  ⟨some 7, .mov (.t 38), none⟩]
def c_r05_Reorder_r7 (F : String → Nat) : List LI := [⟨some 39, .mov (.t 7), none⟩,
  ⟨some 40, .bin .neq (.t 39) (.k (.int .i64 (0))), none⟩]
def c_r05_Reorder_r8 (F : String → Nat) : List LI := [⟨some 41, .build [.nl 1, .nl 3] [], none⟩,
  ⟨some 42, .mov (.t 7), none⟩,
  ⟨none, .store 2 (.t 4) (.t 41), none⟩,
  ⟨some 5, .mov (.t 42), none⟩]
def c_r05_Reorder_r9 (F : String → Nat) : List LI := [⟨some 43, .fad 1 (.t 3), none⟩,
  ⟨some 44, .load false 1 (.t 43), none⟩,
  ⟨some 45, .call (F "r05.permutation") [.t 44] [], none⟩,
  ⟨some 8, .mov (.t 45), none⟩]
def c_r05_Reorder_r10 (F : String → Nat) : List LI := [⟨some 46, .mov (.t 8), none⟩,
  ⟨some 47, .bin .neq (.t 46) (.k (.int .i64 (0))), none⟩]
def c_r05_Reorder_r11 (F : String → Nat) : List LI := [⟨some 48, .build [.nl 1, .nl 3] [], none⟩,
  ⟨some 49, .mov (.t 8), none⟩,
  ⟨none, .store 2 (.t 4) (.t 48), none⟩,
  ⟨some 5, .mov (.t 49), none⟩]
def c_r05_Reorder_r12 (F : String → Nat) : List LI := [⟨some 50, .load true 2 (.t 2), none⟩,
  ⟨some 51, .call (F "r05.Copied") [.t 50] [], none⟩,
  ⟨some 9, .alloc [.nl 1, .nl 3], none⟩,
  ⟨none, .store 2 (.t 9) (.t 51), none⟩]
def c_r05_Reorder_r13 (F : String → Nat) : List LI := [⟨some 10, .mov (.k (.int .i64 (0))), none⟩]
def c_r05_Reorder_r14 (F : String → Nat) : List LI := [⟨some 52, .mov (.t 10), none⟩,
  ⟨some 53, .fad 0 (.t 2), none⟩,
  ⟨some 54, .load false 1 (.t 53), none⟩,
  ⟨some 55, .len (.t 54), none⟩,
  ⟨some 56, .bin .lss (.t 52) (.t 55), none⟩]
def c_r05_Reorder_r15 (F : String → Nat) : List LI := [⟨some 59, .fad 0 (.t 9), none⟩,
  ⟨some 60, .load false 1 (.t 59), none⟩,
  ⟨some 61, .fad 0 (.t 3), none⟩,
  ⟨some 62, .load false 1 (.t 61), none⟩,
  ⟨some 63, .mov (.t 10), none⟩,
  ⟨some 64, .iad 1 (.t 62) (.t 63), none⟩,
  ⟨some 65, .load false 1 (.t 64), none⟩,
  ⟨some 66, .fad 0 (.t 2), none⟩,
  ⟨some 67, .load false 1 (.t 66), none⟩,
  ⟨some 68, .mov (.t 10), none⟩,
  ⟨some 69, .iad 1 (.t 67) (.t 68), none⟩,
  ⟨some 70, .load false 1 (.t 69), none⟩,
  ⟨some 71, .iad 1 (.t 60) (.t 65), none⟩,
  ⟨none, .store 1 (.t 71) (.t 70), none⟩]
def c_r05_Reorder_r16 (F : String → Nat) : List LI := [⟨some 57, .mov (.t 10), none⟩,
  ⟨some 58, .bin .add (.t 57) (.k (.int .i64 (1))), none⟩,
  ⟨some 10, .mov (.t 58), none⟩]
def c_r05_Reorder_b17 (F : String → Nat) : LC := (.seq (.seq (.reg (c_r05_Reorder_r14 F) [2, 3, 4, 9, 10, 56]) (.cond (.t 56) .skip (.exit 0))) (.seq (.block 1 (.dreg [] (c_r05_Reorder_r15 F) [2, 3, 4, 9, 10])) (.reg (c_r05_Reorder_r16 F) [2, 3, 4, 9, 10])))
def c_r05_Reorder_r18 (F : String → Nat) : List LI := [⟨some 11, .mov (.k (.int .i64 (0))), none⟩]
def c_r05_Reorder_r19 (F : String → Nat) : List LI := [⟨some 72, .mov (.t 11), none⟩,
  ⟨some 73, .fad 1 (.t 2), none⟩,
  ⟨some 74, .load false 1 (.t 73), none⟩,
  ⟨some 75, .len (.t 74), none⟩,
  ⟨some 76, .bin .lss (.t 72) (.t 75), none⟩]
def c_r05_Reorder_r20 (F : String → Nat) : List LI := [⟨some 79, .fad 1 (.t 2), none⟩,
  ⟨some 80, .load false 1 (.t 79), none⟩,
  ⟨some 81, .mov (.t 11), none⟩,
  ⟨some 82, .iad 3 (.t 80) (.t 81), none⟩,
  ⟨some 83, .load true 3 (.t 82), none⟩,
  ⟨some 12, .alloc [.int .i64 (0), .int .i64 (0), .int .i64 (0)], none⟩,
  ⟨none, .store 3 (.t 12) (.t 83), none⟩]
def c_r05_Reorder_r21 (F : String → Nat) : List LI := [⟨some 84, .fad 1 (.t 9), none⟩,
  ⟨some 85, .load false 1 (.t 84), none⟩,
  ⟨some 86, .fad 1 (.t 3), none⟩,
  ⟨some 87, .load false 1 (.t 86), none⟩,
  ⟨some 88, .mov (.t 11), none⟩,
  ⟨some 89, .iad 1 (.t 87) (.t 88), none⟩,
  ⟨some 90, .load false 1 (.t 89), none⟩,
  ⟨some 91, .fad 0 (.t 12), none⟩,
  ⟨some 92, .load false 1 (.t 91), none⟩,
  ⟨some 93, .fad 0 (.t 3), none⟩,
  ⟨some 94, .load false 1 (.t 93), none⟩,
  ⟨some 95, .fad 1 (.t 12), none⟩,
  ⟨some 96, .load false 1 (.t 95), none⟩,
  ⟨some 97, .iad 1 (.t 94) (.t 96), none⟩,
  ⟨some 98, .load false 1 (.t 97), none⟩,
  ⟨some 99, .fad 0 (.t 3), none⟩,
  ⟨some 100, .load false 1 (.t 99), none⟩,
  ⟨some 101, .fad 2 (.t 12), none⟩,
  ⟨some 102, .load false 1 (.t 101), none⟩,
  ⟨some 103, .iad 1 (.t 100) (.t 102), none⟩,
  ⟨some 104, .load false 1 (.t 103), none⟩,
  ⟨some 105, .build [.int .i64 (0), .int .i64 (0), .int .i64 (0)] [(0, 1, .t 92), (1, 1, .t 98), (2, 1, .t 104)], none⟩,
  ⟨some 106, .iad 3 (.t 85) (.t 90), none⟩,
  ⟨none, .store 3 (.t 106) (.t 105), none⟩]
def c_r05_Reorder_r22 (F : String → Nat) : List LI := [⟨some 77, .mov (.t 11), none⟩,
  ⟨some 78, .bin .add (.t 77) (.k (.int .i64 (1))), none⟩,
  ⟨some 11, .mov (.t 78), none⟩]
def c_r05_Reorder_b23 (F : String → Nat) : LC := (.seq (.seq (.reg (c_r05_Reorder_r19 F) [2, 3, 4, 9, 11, 76]) (.cond (.t 76) .skip (.exit 2))) (.seq (.block 3 (.seq (.reg (c_r05_Reorder_r20 F) [2, 3, 4, 9, 11, 12]) (.dreg [] (c_r05_Reorder_r21 F) [2, 3, 4, 9, 11]))) (.reg (c_r05_Reorder_r22 F) [2, 3, 4, 9, 11])))
def c_r05_Reorder_r24 (F : String → Nat) : List LI := [⟨some 107, .load true 2 (.t 9), none⟩,
  ⟨none, .store 2 (.t 4) (.t 107), none⟩,
  ⟨some 5, .mov (.k (.int .i64 (0))), none⟩]
def c_r05_Reorder (F : String → Nat) : LC := (.seq (.reg (c_r05_Reorder_r0 F) [2, 3, 4]) (.seq (.seq (.reg (c_r05_Reorder_r1 F) [2, 3, 4, 6]) (.seq (.reg (c_r05_Reorder_r2 F) [2, 3, 4, 6, 16]) (.cond (.t 16) (.seq (.reg (c_r05_Reorder_r3 F) [4, 5]) .ret) .skip))) (.seq (.seq (.reg (c_r05_Reorder_r4 F) [2, 3, 4, 34]) (.cond (.t 34) (.seq (.reg (c_r05_Reorder_r5 F) [4, 5]) .ret) .skip)) (.seq (.seq (.reg (c_r05_Reorder_r6 F) [2, 3, 4, 7]) (.seq (.reg (c_r05_Reorder_r7 F) [2, 3, 4, 7, 40]) (.cond (.t 40) (.seq (.reg (c_r05_Reorder_r8 F) [4, 5]) .ret) .skip))) (.seq (.seq (.reg (c_r05_Reorder_r9 F) [2, 3, 4, 8]) (.seq (.reg (c_r05_Reorder_r10 F) [2, 3, 4, 8, 47]) (.cond (.t 47) (.seq (.reg (c_r05_Reorder_r11 F) [4, 5]) .ret) .skip))) (.seq (.reg (c_r05_Reorder_r12 F) [2, 3, 4, 9]) (.seq (.seq (.reg (c_r05_Reorder_r13 F) [2, 3, 4, 9, 10]) (.block 0 (.loop [2, 3, 4, 9, 10] (c_r05_Reorder_b17 F)))) (.seq (.seq (.reg (c_r05_Reorder_r18 F) [2, 3, 4, 9, 11]) (.block 2 (.loop [2, 3, 4, 9, 11] (c_r05_Reorder_b23 F)))) (.seq (.reg (c_r05_Reorder_r24 F) [4, 5]) .ret)))))))))
def h_r05_Reorder : Hints := ⟨[], fun _ => [], tab [(0, [2, 3, 4]), (1, [2, 3, 4, 6]), (2, [2, 3, 4, 6, 16]), (3, [4, 5]), (4, [2, 3, 4, 34]), (5, [4, 5]), (6, [2, 3, 4, 7]), (7, [2, 3, 4, 7, 40]), (8, [4, 5]), (9, [2, 3, 4, 8]), (10, [2, 3, 4, 8, 47]), (11, [4, 5]), (12, [2, 3, 4, 9]), (13, [2, 3, 4, 9, 10]), (14, [2, 3, 4, 9, 10, 56]), (15, [2, 3, 4, 9, 10]), (16, [2, 3, 4, 9, 10]), (17, [2, 3, 4, 9, 11]), (18, [2, 3, 4, 9, 11, 76]), (19, [2, 3, 4, 9, 11]), (20, [2, 3, 4, 9, 11, 12]), (21, [2, 3, 4, 9, 11]), (22, [4, 5])], tab [(14, [2, 3, 4, 9, 10]), (18, [2, 3, 4, 9, 11])]⟩

/- l10.PushoutKinds -/
def c_l10_PushoutKinds_r0 (F : String → Nat) : List LI := [⟨some 3, .bx (.t 0), none⟩,
  ⟨some 4, .bx (.t 1), none⟩,
  ⟨some 6, .mov (.k (.bool false)), none⟩]
def c_l10_PushoutKinds_r1 (F : String → Nat) : List LI := [⟨some 23, .call (F "l10.awake") [] [], none⟩,
  ⟨some 24, .not (.t 23), none⟩,
  ⟨some 25, .mov (.t 24), none⟩,
  ⟨some 26, .iaa 2 1 (.t 4) (.k (.int .i64 (0))), some (25, false)⟩,
  ⟨some 27, .load false 1 (.t 26), some (25, false)⟩,
  ⟨some 28, .len (.t 27), some (25, false)⟩,
  ⟨some 29, .bin .gtr (.t 28) (.k (.int .i64 (10))), some (25, false)⟩,
  ⟨some 30, .pick (.t 25) (.k (.bool true)) (.t 29), none⟩,
  ⟨some 31, .mov (.t 30), none⟩,
  ⟨some 32, .iaa 2 1 (.t 4) (.k (.int .i64 (1))), some (31, false)⟩,
  ⟨some 33, .load false 1 (.t 32), some (31, false)⟩,
  ⟨some 34, .len (.t 33), some (31, false)⟩,
  ⟨some 35, .bin .gtr (.t 34) (.k (.int .i64 (10))), some (31, false)⟩,
  ⟨some 36, .pick (.t 31) (.k (.bool true)) (.t 35), none⟩,
  ⟨some 37, .mov (.t 36), none⟩,
  ⟨some 38, .mov (.t 2), some (37, false)⟩,
  ⟨some 39, .len (.t 38), some (37, false)⟩,
  ⟨some 40, .bin .gtr (.t 39) (.k (.int .i64 (40))), some (37, false)⟩,
  ⟨some 41, .pick (.t 37) (.k (.bool true)) (.t 40), none⟩]
def c_l10_PushoutKinds_r2 (F : String → Nat) : List LI := [⟨some 42, .call (F "l10.awake") [] [], none⟩,
  ⟨some 6, .mov (.t 42), none⟩]
def c_l10_PushoutKinds_r3 (F : String → Nat) : List LI := [⟨some 43, .load true 2 (.t 3), none⟩,
  ⟨some 44, .iaa 2 1 (.t 4) (.k (.int .i64 (0))), none⟩,
  ⟨some 45, .load false 1 (.t 44), none⟩,
  ⟨some 46, .iaa 2 1 (.t 4) (.k (.int .i64 (1))), none⟩,
  ⟨some 47, .load false 1 (.t 46), none⟩,
  ⟨some 48, .call (F "r10.Made") [.t 43, .t 45, .t 47] [], none⟩,
  ⟨some 7, .alloc [.nl 1, .nl 3, .nl 1, .nl 3, .nl 1, .nl 3, .nl 1, .nl 1, .nl 1, .nl 1], none⟩,
  ⟨none, .store 10 (.t 7) (.t 48), none⟩]
def c_l10_PushoutKinds_r4 (F : String → Nat) : List LI := [⟨some 50, .load true 10 (.t 7), none⟩,
  ⟨some 51, .call (F "pushout.Of") [.t 50] [], none⟩,
  ⟨some 49, .mov (.t 51), none⟩,
  ⟨some 52, .ext (.t 49) 0, none⟩,
  ⟨some 53, .ext (.t 49) 1, none⟩,
  ⟨some 54, .ext (.t 49) 2, none⟩,
  ⟨some 55, .ext (.t 49) 3, none⟩,
  ⟨some 8, .alloc [.nl 1, .nl 3], none⟩,
  ⟨some 9, .alloc [.nl 1, .nl 1], none⟩,
  ⟨some 10, .alloc [.nl 1, .nl 1], none⟩,
  ⟨none, .store 2 (.t 8) (.t 52), none⟩,
  ⟨none, .store 2 (.t 9) (.t 53), none⟩,
  ⟨none, .store 2 (.t 10) (.t 54), none⟩,
  ⟨some 11, .mov (.t 55), none⟩]
def c_l10_PushoutKinds_r5 (F : String → Nat) : List LI := [⟨some 56, .mov (.t 11), none⟩,
  ⟨some 57, .bin .neq (.t 56) (.k (.int .i64 (0))), none⟩,
  ⟨some 58, .mov (.t 57), none⟩,
  ⟨some 59, .fad 0 (.t 9), some (58, false)⟩,
  ⟨some 60, .load false 1 (.t 59), some (58, false)⟩,
  ⟨some 61, .len (.t 60), some (58, false)⟩,
  ⟨some 62, .fad 2 (.t 7), some (58, false)⟩,
  ⟨some 63, .fad 0 (.t 62), some (58, false)⟩,
  ⟨some 64, .load false 1 (.t 63), some (58, false)⟩,
  ⟨some 65, .len (.t 64), some (58, false)⟩,
  ⟨some 66, .bin .neq (.t 61) (.t 65), some (58, false)⟩,
  ⟨some 67, .pick (.t 58) (.k (.bool true)) (.t 66), none⟩,
  ⟨some 68, .mov (.t 67), none⟩,
  ⟨some 69, .fad 0 (.t 10), some (68, false)⟩,
  ⟨some 70, .load false 1 (.t 69), some (68, false)⟩,
  ⟨some 71, .len (.t 70), some (68, false)⟩,
  ⟨some 72, .fad 4 (.t 7), some (68, false)⟩,
  ⟨some 73, .fad 0 (.t 72), some (68, false)⟩,
  ⟨some 74, .load false 1 (.t 73), some (68, false)⟩,
  ⟨some 75, .len (.t 74), some (68, false)⟩,
  ⟨some 76, .bin .neq (.t 71) (.t 75), some (68, false)⟩,
  ⟨some 77, .pick (.t 68) (.k (.bool true)) (.t 76), none⟩]
def c_l10_PushoutKinds_r6 (F : String → Nat) : List LI := [⟨some 6, .mov (.k (.bool false)), none⟩]
def c_l10_PushoutKinds_r7 (F : String → Nat) : List LI := [⟨some 78, .fad 0 (.t 7), none⟩,
  ⟨some 79, .load true 2 (.t 78), none⟩,
  ⟨some 80, .fad 2 (.t 7), none⟩,
  ⟨some 81, .load true 2 (.t 80), none⟩,
  ⟨some 82, .fad 6 (.t 7), none⟩,
  ⟨some 83, .load true 2 (.t 82), none⟩,
  ⟨some 84, .call (F "morphism.Injective") [.t 79, .t 81, .t 83] [], none⟩,
  ⟨some 85, .mov (.t 84), none⟩,
  ⟨some 86, .fad 4 (.t 7), some (85, true)⟩,
  ⟨some 87, .load true 2 (.t 86), some (85, true)⟩,
  ⟨some 88, .load true 2 (.t 8), some (85, true)⟩,
  ⟨some 89, .load true 2 (.t 10), some (85, true)⟩,
  ⟨some 90, .call (F "morphism.Injective") [.t 87, .t 88, .t 89] [], some (85, true)⟩,
  ⟨some 91, .not (.t 90), some (85, true)⟩,
  ⟨some 92, .pick (.t 85) (.t 91) (.k (.bool false)), none⟩,
  ⟨some 93, .mov (.t 92), none⟩,
  ⟨some 94, .fad 0 (.t 7), some (93, false)⟩,
  ⟨some 95, .load true 2 (.t 94), some (93, false)⟩,
  ⟨some 96, .fad 2 (.t 7), some (93, false)⟩,
  ⟨some 97, .load true 2 (.t 96), some (93, false)⟩,
  ⟨some 98, .fad 6 (.t 7), some (93, false)⟩,
  ⟨some 99, .load true 2 (.t 98), some (93, false)⟩,
  ⟨some 100, .call (F "morphism.Surjective") [.t 95, .t 97, .t 99] [], some (93, false)⟩,
  ⟨some 101, .mov (.t 100), some (93, false)⟩,
  ⟨some 102, .fad 4 (.t 7), some (101, true)⟩,
  ⟨some 103, .load true 2 (.t 102), some (101, true)⟩,
  ⟨some 104, .load true 2 (.t 8), some (101, true)⟩,
  ⟨some 105, .load true 2 (.t 10), some (101, true)⟩,
  ⟨some 106, .call (F "morphism.Surjective") [.t 103, .t 104, .t 105] [], some (101, true)⟩,
  ⟨some 107, .not (.t 106), some (101, true)⟩,
  ⟨some 108, .pick (.t 101) (.t 107) (.k (.bool false)), some (93, false)⟩,
  ⟨some 109, .pick (.t 93) (.k (.bool true)) (.t 108), none⟩]
def c_l10_PushoutKinds_r8 (F : String → Nat) : List LI := [⟨some 6, .mov (.k (.bool false)), none⟩]
def c_l10_PushoutKinds_r9 (F : String → Nat) : List LI := [⟨some 111, .fad 0 (.t 7), none⟩,
  ⟨some 112, .load true 2 (.t 111), none⟩,
  ⟨some 113, .fad 4 (.t 7), none⟩,
  ⟨some 114, .load true 2 (.t 113), none⟩,
  ⟨some 115, .fad 2 (.t 7), none⟩,
  ⟨some 116, .load true 2 (.t 115), none⟩,
  ⟨some 117, .fad 8 (.t 7), none⟩,
  ⟨some 118, .load true 2 (.t 117), none⟩,
  ⟨some 119, .fad 6 (.t 7), none⟩,
  ⟨some 120, .load true 2 (.t 119), none⟩,
  ⟨some 121, .build [.nl 1, .nl 3, .nl 1, .nl 3, .nl 1, .nl 3, .nl 1, .nl 1, .nl 1, .nl 1] [(0, 2, .t 112), (2, 2, .t 114), (4, 2, .t 116), (6, 2, .t 118), (8, 2, .t 120)], none⟩,
  ⟨some 122, .call (F "pushout.Of") [.t 121] [], none⟩,
  ⟨some 110, .mov (.t 122), none⟩,
  ⟨some 123, .ext (.t 110) 0, none⟩,
  ⟨some 124, .ext (.t 110) 1, none⟩,
  ⟨some 125, .ext (.t 110) 2, none⟩,
  ⟨some 126, .ext (.t 110) 3, none⟩,
  ⟨some 12, .alloc [.nl 1, .nl 3], none⟩,
  ⟨some 13, .alloc [.nl 1, .nl 1], none⟩,
  ⟨some 14, .alloc [.nl 1, .nl 1], none⟩,
  ⟨none, .store 2 (.t 12) (.t 123), none⟩,
  ⟨none, .store 2 (.t 13) (.t 124), none⟩,
  ⟨none, .store 2 (.t 14) (.t 125), none⟩,
  ⟨some 15, .mov (.t 126), none⟩]
def c_l10_PushoutKinds_r10 (F : String → Nat) : List LI := [⟨some 128, .fad 0 (.t 7), none⟩,
  ⟨some 129, .load true 2 (.t 128), none⟩,
  ⟨some 130, .fad 4 (.t 7), none⟩,
  ⟨some 131, .load true 2 (.t 130), none⟩,
  ⟨some 132, .fad 2 (.t 7), none⟩,
  ⟨some 133, .load true 2 (.t 132), none⟩,
  ⟨some 134, .fad 8 (.t 7), none⟩,
  ⟨some 135, .load true 2 (.t 134), none⟩,
  ⟨some 136, .fad 6 (.t 7), none⟩,
  ⟨some 137, .load true 2 (.t 136), none⟩,
  ⟨some 138, .build [.nl 1, .nl 3, .nl 1, .nl 3, .nl 1, .nl 3, .nl 1, .nl 1, .nl 1, .nl 1] [(0, 2, .t 129), (2, 2, .t 131), (4, 2, .t 133), (6, 2, .t 135), (8, 2, .t 137)], none⟩,
  ⟨some 139, .call (F "r10.Of") [.t 138] [], none⟩,
  ⟨some 127, .mov (.t 139), none⟩,
  ⟨some 140, .ext (.t 127) 0, none⟩,
  ⟨some 141, .ext (.t 127) 1, none⟩,
  ⟨some 142, .ext (.t 127) 2, none⟩,
  ⟨some 143, .ext (.t 127) 3, none⟩,
  ⟨some 16, .alloc [.nl 1, .nl 3], none⟩,
  ⟨some 17, .alloc [.nl 1, .nl 1], none⟩,
  ⟨some 18, .alloc [.nl 1, .nl 1], none⟩,
  ⟨none, .store 2 (.t 16) (.t 140), none⟩,
  ⟨none, .store 2 (.t 17) (.t 141), none⟩,
  ⟨none, .store 2 (.t 18) (.t 142), none⟩,
  ⟨some 19, .mov (.t 143), none⟩]
def c_l10_PushoutKinds_r11 (F : String → Nat) : List LI := [⟨some 144, .mov (.t 15), none⟩,
  ⟨some 145, .bin .neq (.t 144) (.k (.int .i64 (0))), none⟩,
  ⟨some 146, .mov (.t 145), none⟩,
  ⟨some 147, .load true 10 (.t 7), some (146, false)⟩,
  ⟨some 148, .load true 2 (.t 16), some (146, false)⟩,
  ⟨some 149, .load true 2 (.t 14), some (146, false)⟩,
  ⟨some 150, .load true 2 (.t 13), some (146, false)⟩,
  ⟨some 151, .call (F "pushout.Check") [.t 147, .t 148, .t 149, .t 150] [], some (146, false)⟩,
  ⟨some 152, .not (.t 151), some (146, false)⟩,
  ⟨some 153, .pick (.t 146) (.k (.bool true)) (.t 152), none⟩]
def c_l10_PushoutKinds_r12 (F : String → Nat) : List LI := [⟨some 6, .mov (.k (.bool false)), none⟩]
def c_l10_PushoutKinds_r13 (F : String → Nat) : List LI := [⟨some 154, .fad 0 (.t 8), none⟩,
  ⟨some 155, .load false 1 (.t 154), none⟩,
  ⟨some 156, .len (.t 155), none⟩,
  ⟨some 157, .mov (.t 2), none⟩,
  ⟨some 158, .call (F "r05.Shuffle") [.t 156, .t 157] [], none⟩,
  ⟨some 159, .fad 1 (.t 8), none⟩,
  ⟨some 160, .load false 1 (.t 159), none⟩,
  ⟨some 161, .len (.t 160), none⟩,
  ⟨some 162, .mov (.t 2), none⟩,
  ⟨some 163, .call (F "r05.Shuffle") [.t 161, .t 162] [], none⟩,
  ⟨some 164, .build [.nl 1, .nl 1] [(0, 1, .t 158), (1, 1, .t 163)], none⟩,
  ⟨some 20, .alloc [.nl 1, .nl 1], none⟩,
  ⟨none, .store 2 (.t 20) (.t 164), none⟩]
def c_l10_PushoutKinds_r14 (F : String → Nat) : List LI := [⟨some 166, .load true 2 (.t 8), none⟩,
  ⟨some 167, .load true 2 (.t 20), none⟩,
  ⟨some 168, .call (F "r05.Reorder") [.t 166, .t 167] [], none⟩,
  ⟨some 165, .mov (.t 168), none⟩,
  ⟨some 169, .ext (.t 165) 0, none⟩,
  ⟨some 170, .ext (.t 165) 1, none⟩,
  ⟨some 21, .alloc [.nl 1, .nl 3], none⟩,
  ⟨none, .store 2 (.t 21) (.t 169), none⟩,
  ⟨some 22, .mov (.t 170), none⟩]
def c_l10_PushoutKinds_r15 (F : String → Nat) : List LI := [⟨some 171, .mov (.t 22), none⟩,
  ⟨some 172, .bin .eql (.t 171) (.k (.int .i64 (0))), none⟩,
  ⟨some 173, .mov (.t 172), none⟩,
  ⟨some 174, .load true 10 (.t 7), some (173, true)⟩,
  ⟨some 175, .load true 2 (.t 21), some (173, true)⟩,
  ⟨some 176, .load true 2 (.t 9), some (173, true)⟩,
  ⟨some 177, .load true 2 (.t 20), some (173, true)⟩,
  ⟨some 178, .call (F "r06.Then") [.t 176, .t 177] [], some (173, true)⟩,
  ⟨some 179, .load true 2 (.t 10), some (173, true)⟩,
  ⟨some 180, .load true 2 (.t 20), some (173, true)⟩,
  ⟨some 181, .call (F "r06.Then") [.t 179, .t 180] [], some (173, true)⟩,
  ⟨some 182, .call (F "pushout.Check") [.t 174, .t 175, .t 178, .t 181] [], some (173, true)⟩,
  ⟨some 183, .pick (.t 173) (.t 182) (.k (.bool false)), none⟩,
  ⟨some 6, .mov (.t 183), none⟩]
def c_l10_PushoutKinds (F : String → Nat) : LC := (.seq (.reg (c_l10_PushoutKinds_r0 F) [2, 3, 4]) (.seq (.seq (.reg (c_l10_PushoutKinds_r1 F) [2, 3, 4, 41]) (.cond (.t 41) (.seq (.reg (c_l10_PushoutKinds_r2 F) [6]) .ret) .skip)) (.seq (.reg (c_l10_PushoutKinds_r3 F) [2, 7]) (.seq (.reg (c_l10_PushoutKinds_r4 F) [2, 7, 8, 9, 10, 11]) (.seq (.seq (.reg (c_l10_PushoutKinds_r5 F) [2, 7, 8, 9, 10, 77]) (.cond (.t 77) (.seq (.reg (c_l10_PushoutKinds_r6 F) [6]) .ret) .skip)) (.seq (.seq (.reg (c_l10_PushoutKinds_r7 F) [2, 7, 8, 9, 10, 109]) (.cond (.t 109) (.seq (.reg (c_l10_PushoutKinds_r8 F) [6]) .ret) .skip)) (.seq (.reg (c_l10_PushoutKinds_r9 F) [2, 7, 8, 9, 10, 13, 14, 15]) (.seq (.reg (c_l10_PushoutKinds_r10 F) [2, 7, 8, 9, 10, 13, 14, 15, 16]) (.seq (.seq (.reg (c_l10_PushoutKinds_r11 F) [2, 7, 8, 9, 10, 153]) (.cond (.t 153) (.seq (.reg (c_l10_PushoutKinds_r12 F) [6]) .ret) .skip)) (.seq (.dreg [(4, none, [], true), (6, (some 32), [4], false)] (c_l10_PushoutKinds_r13 F) [7, 8, 9, 10, 20]) (.seq (.reg (c_l10_PushoutKinds_r14 F) [7, 9, 10, 20, 21, 22]) (.seq (.dreg [(3, none, [], true), (4, none, [], true), (7, none, [3, 4], true), (8, (some 7), [7], false), (9, (some 7), [7], false), (10, none, [3, 4], false)] (c_l10_PushoutKinds_r15 F) [6]) .ret))))))))))))
def h_l10_PushoutKinds : Hints := ⟨[], fun _ => [], tab [(0, [2, 3, 4]), (1, [2, 3, 4, 41]), (2, [6]), (3, [2, 7]), (4, [2, 7, 8, 9, 10, 11]), (5, [2, 7, 8, 9, 10, 77]), (6, [6]), (7, [2, 7, 8, 9, 10, 109]), (8, [6]), (9, [2, 7, 8, 9, 10, 13, 14, 15]), (10, [2, 7, 8, 9, 10, 13, 14, 15, 16]), (11, [2, 7, 8, 9, 10, 153]), (12, [6]), (13, [7, 8, 9, 10, 20]), (14, [7, 9, 10, 20, 21, 22]), (15, [6])], tab []⟩

attribute [go_sem] c_r05_permutation_r0 c_r05_permutation_r1 c_r05_permutation_r2 c_r05_permutation_r3 c_r05_permutation_r4 c_r05_permutation_r5 c_r05_permutation_r7 c_r05_permutation_r8 c_r05_permutation_r9 c_r05_permutation_r10 c_r05_permutation_r11 c_r05_permutation_r12 c_r05_permutation_r13 c_r05_permutation_r15 c_r05_permutation_r17 c_r05_permutation c_r05_Reorder_r0 c_r05_Reorder_r1 c_r05_Reorder_r2 c_r05_Reorder_r3 c_r05_Reorder_r4 c_r05_Reorder_r5 c_r05_Reorder_r6 c_r05_Reorder_r7 c_r05_Reorder_r8 c_r05_Reorder_r9 c_r05_Reorder_r10 c_r05_Reorder_r11 c_r05_Reorder_r12 c_r05_Reorder_r13 c_r05_Reorder_r14 c_r05_Reorder_r15 c_r05_Reorder_r16 c_r05_Reorder_r18 c_r05_Reorder_r19 c_r05_Reorder_r20 c_r05_Reorder_r21 c_r05_Reorder_r22 c_r05_Reorder_r24 c_r05_Reorder c_l10_PushoutKinds_r0 c_l10_PushoutKinds_r1 c_l10_PushoutKinds_r2 c_l10_PushoutKinds_r3 c_l10_PushoutKinds_r4 c_l10_PushoutKinds_r5 c_l10_PushoutKinds_r6 c_l10_PushoutKinds_r7 c_l10_PushoutKinds_r8 c_l10_PushoutKinds_r9 c_l10_PushoutKinds_r10 c_l10_PushoutKinds_r11 c_l10_PushoutKinds_r12 c_l10_PushoutKinds_r13 c_l10_PushoutKinds_r14 c_l10_PushoutKinds_r15 c_l10_PushoutKinds
section
variable (P : Program) (F : String → Nat)
def K_r05_permutation : Prop := ∀ (l : List Int) (n : Nat), PermI l n → n ≤ 1000 → FC P (F "r05.permutation") [.lst 1 (ints l)] (.int .i64 0) []
def K_r05_Reorder : Prop := ∀ (g : G) (m : Mo), validG g = 0 → PermI m.n g.n.length → PermI m.e g.e.length → FC P (F "r05.Reorder") [gD g, mD m] (.tup [gA (reO g m), .int .i64 0]) []
def K_l10_PushoutKinds : Prop := ∀ (d : Dr) (b c m : List Int), d.ok → d.n.length ≤ maxL → d.e.length ≤ maxL → Bts b → Bts c → Bts m → FC P (F "l10.PushoutKinds") [drD d, .agg [.lst 1 (u8s b), .lst 1 (u8s c)], .lst 1 (u8s m)] (.bool true) []
end
section
variable {P : Program} {F : String → Nat} {α : Type}
theorem w_r05_permutation (l : List Int) (n : Nat) (hp : PermI l n) (hn : n ≤ 1000) : W P (c_r05_permutation F) (Done [.t 2] [] (.int .i64 0) []) (init [.lst 1 (ints l)]) := by
  refine W_of ?_
  obtain ⟨hl, hb, hj⟩ := hp
  subst hl
  simp (config := { maxSteps := 1000000 }) (disch := first | omega | (simp only [go_sem]; omega)) only [go_sem, ↓reduceIte]
  refine W_loop (fun i : Nat => ⟨[(0, .lst 1 (ints l)), (3, .int .i64 i)], [], 0⟩) (fun i => i ≤ l.length) (fun i => l.length - i) 0 ?_ ?_ ?_
  · simp (config := { maxSteps := 1000000 }) (disch := first | omega | (simp only [go_sem]; omega)) only [go_sem, ↓reduceIte]
    rfl
  · simp
  · intro i hi
    by_cases c : i < l.length
    · have g1 : decide ((i : Int) < l.length) = true := decide_eq_true (by omega)
      obtain ⟨b1, b2⟩ := hb i c
      have g2 : decide (gt l i < 0) = false := decide_eq_false (by omega)
      have g3 : decide ((l.length : Int) ≤ gt l i) = false := decide_eq_false (by omega)
      simp (config := { maxSteps := 1000000 }) (disch := first | omega | (simp only [go_sem]; omega)) only [go_sem, ↓reduceIte, c_r05_permutation_b6, g1, g2, g3]
      exact ⟨i + 1, by simp, by omega, by omega⟩
    · have g1 : decide ((i : Int) < l.length) = false := decide_eq_false (by omega)
      simp (config := { maxSteps := 1000000 }) (disch := first | omega | (simp only [go_sem]; omega)) only [go_sem, ↓reduceIte, c_r05_permutation_b6, g1]
      refine W_loop (fun i : Nat => ⟨[(0, .lst 1 (ints l)), (4, .int .i64 i)], [], 0⟩) (fun i => i ≤ l.length) (fun i => l.length - i) 0 ?_ ?_ ?_
      · simp (config := { maxSteps := 1000000 }) (disch := first | omega | (simp only [go_sem]; omega)) only [go_sem, ↓reduceIte]
        rfl
      · simp
      · intro i hi
        by_cases c : i < l.length
        · have g1 : decide ((i : Int) < l.length) = true := decide_eq_true (by omega)
          simp (config := { maxSteps := 1000000 }) (disch := first | omega | (simp only [go_sem]; omega)) only [go_sem, ↓reduceIte, c_r05_permutation_b16, g1]
          refine W_loop (fun k : Nat => ⟨[(0, .lst 1 (ints l)), (4, .int .i64 i), (5, .int .i64 k)], [], 0⟩) (fun k => k ≤ i) (fun k => i - k) 0 ?_ ?_ ?_
          · simp (config := { maxSteps := 1000000 }) (disch := first | omega | (simp only [go_sem]; omega)) only [go_sem, ↓reduceIte]
            rfl
          · simp
          · intro k hk
            by_cases d : k < i
            · have g2 : decide ((k : Int) < i) = true := decide_eq_true (by omega)
              have g3 : decide (gt l i = gt l k) = false := decide_eq_false (fun e => by have := hj i k c (by omega) e; omega)
              simp (config := { maxSteps := 1000000 }) (disch := first | omega | (simp only [go_sem]; omega)) only [go_sem, ↓reduceIte, c_r05_permutation_b14, g2, g3]
              exact ⟨k + 1, by simp, by omega, by omega⟩
            · have g2 : decide ((k : Int) < i) = false := decide_eq_false (by omega)
              simp (config := { maxSteps := 1000000 }) (disch := first | omega | (simp only [go_sem]; omega)) only [go_sem, ↓reduceIte, c_r05_permutation_b14, g2]
              exact ⟨i + 1, by simp, by omega, by omega⟩
        · have g1 : decide ((i : Int) < l.length) = false := decide_eq_false (by omega)
          simp (config := { maxSteps := 1000000 }) (disch := first | omega | (simp only [go_sem]; omega)) only [go_sem, ↓reduceIte, c_r05_permutation_b16, g1]
set_option maxHeartbeats 2000000 in
theorem w_r05_Reorder (hv : K_r05_Valid P F) (hp : K_r05_permutation P F) (hc : K_r05_Copied P F) (g : G) (m : Mo) (v : validG g = 0) (p1 : PermI m.n g.n.length) (p2 : PermI m.e g.e.length) : W P (c_r05_Reorder F) (Done [.c 4 true 2, .t 5] [] (.tup [gA (reO g m), .int .i64 0]) []) (init [gD g, mD m]) := by
  refine W_of ?_
  have vs := valid_spec v
  have r1 := hv g
  rw [v] at r1
  have r2 := hp m.n _ p1 (by omega)
  have r3 := hp m.e _ p2 (by omega)
  have r4 := hc g (by omega) (by omega)
  have hef : ∀ i : Nat, i < g.e.length → (0 ≤ (gt g.e i).f ∧ (gt g.e i).f < g.n.length) ∧ (0 ≤ (gt g.e i).o ∧ (gt g.e i).o < g.n.length) := fun i hi => (edge_fits v (i := i) (by omega)).2
  have hr : ∀ i : Nat, i < g.e.length → gt (reE m.n g.e) i = ⟨(gt g.e i).t, gt m.n (gt g.e i).f, gt m.n (gt g.e i).o⟩ := fun i hi => reE_gt hi
  have hG : reO g m = ⟨setL g.n m.n g.n g.n.length, setL (reE m.n g.e) m.e g.e g.e.length⟩ := rfl
  rw [hG]
  clear hG
  generalize reE m.n g.e = re at *
  obtain ⟨l1, b1, _⟩ := p1
  obtain ⟨l2, b2, _⟩ := p2
  obtain ⟨gn, ge⟩ := g
  obtain ⟨mn, me⟩ := m
  simp only [gD, gA, mD, mA] at *
  have k1 : decide ((mn.length : Int) = gn.length) = true := decide_eq_true (by omega)
  have k2 : decide ((me.length : Int) = ge.length) = true := decide_eq_true (by omega)
  have lN : ∀ i, (setL gn mn gn i).length = gn.length := fun i => setL_len _ _ _ _
  have lE : ∀ i, (setL re me ge i).length = ge.length := fun i => setL_len _ _ _ _
  simp (config := { maxSteps := 1000000 }) (disch := first | omega | (simp only [go_sem]; omega)) only [go_sem, ↓reduceIte]
  refine call_by r1 ?_
  simp (config := { maxSteps := 1000000 }) (disch := first | omega | (simp only [go_sem]; omega)) only [go_sem, ↓reduceIte, k1, k2]
  refine call_by r2 ?_
  simp (config := { maxSteps := 1000000 }) (disch := first | omega | (simp only [go_sem]; omega)) only [go_sem, ↓reduceIte]
  refine call_by r3 ?_
  simp (config := { maxSteps := 1000000 }) (disch := first | omega | (simp only [go_sem]; omega)) only [go_sem, ↓reduceIte]
  refine call_by r4 ?_
  simp (config := { maxSteps := 1000000 }) (disch := first | omega | (simp only [go_sem]; omega)) only [go_sem, ↓reduceIte]
  refine W_loop (fun i : Nat => ⟨[(2, .pt 0 0), (3, .pt 1 0), (4, .pt 4 0), (9, .pt 7 0), (10, .int .i64 i)],
    [(0, .box [.lst 1 (ints gn), .lst 3 (eds ge)]), (1, .box [.lst 1 (ints mn), .lst 1 (ints me)]), (2, .arr 1 []), (3, .arr 3 []), (4, .box [.sl 2 0 0, .sl 3 0 0]),
     (5, .arr 1 (ints (setL gn mn gn i))), (6, .arr 3 (eds ge)), (7, .box [.sl 5 0 gn.length, .sl 6 0 ge.length])], 8⟩) (fun i => i ≤ gn.length) (fun i => gn.length - i) 0 ?_ ?_ ?_
  · simp (config := { maxSteps := 1000000 }) (disch := first | omega | (simp only [go_sem]; omega)) only [go_sem, ↓reduceIte, setL]
    rfl
  · simp
  · intro i hi
    have lNi := lN i
    by_cases c : i < gn.length
    · have g1 : decide ((i : Int) < gn.length) = true := decide_eq_true (by omega)
      have hs : setL gn mn gn (i + 1) = (setL gn mn gn i).set (gt mn i).toNat (gt gn i) := rfl
      obtain ⟨c1, c2⟩ := b1 i c
      generalize setL gn mn gn i = sn at *
      simp (config := { maxSteps := 1000000 }) (disch := first | omega | (simp only [go_sem]; omega)) only [go_sem, ↓reduceIte, c_r05_Reorder_b17, g1, lNi]
      exact ⟨i + 1, by simp [hs], by omega, by omega⟩
    · have g1 : decide ((i : Int) < gn.length) = false := decide_eq_false (by omega)
      obtain rfl : i = gn.length := by omega
      simp (config := { maxSteps := 1000000 }) (disch := first | omega | (simp only [go_sem]; omega)) only [go_sem, ↓reduceIte, c_r05_Reorder_b17, g1, lNi]
      generalize setL gn mn gn gn.length = on at *
      refine W_loop (fun i : Nat => ⟨[(2, .pt 0 0), (3, .pt 1 0), (4, .pt 4 0), (9, .pt 7 0), (11, .int .i64 i)],
        [(0, .box [.lst 1 (ints gn), .lst 3 (eds ge)]), (1, .box [.lst 1 (ints mn), .lst 1 (ints me)]), (2, .arr 1 []), (3, .arr 3 []), (4, .box [.sl 2 0 0, .sl 3 0 0]),
         (5, .arr 1 (ints on)), (6, .arr 3 (eds (setL re me ge i))), (7, .box [.sl 5 0 gn.length, .sl 6 0 ge.length])], 8⟩) (fun i => i ≤ ge.length) (fun i => ge.length - i) 0 ?_ ?_ ?_
      · simp (config := { maxSteps := 1000000 }) (disch := first | omega | (simp only [go_sem]; omega)) only [go_sem, ↓reduceIte, setL, lNi]
        rfl
      · simp
      · intro i hi
        have lEi := lE i
        by_cases c : i < ge.length
        · have g1 : decide ((i : Int) < ge.length) = true := decide_eq_true (by omega)
          have hs : setL re me ge (i + 1) = (setL re me ge i).set (gt me i).toNat (gt re i) := rfl
          rw [hr i c] at hs
          obtain ⟨⟨f1, f2⟩, o1, o2⟩ := hef i c
          obtain ⟨c1, c2⟩ := b2 i c
          generalize setL re me ge i = se at *
          simp (config := { maxSteps := 1000000 }) (disch := first | omega | (simp only [go_sem]; omega)) only [go_sem, ↓reduceIte, c_r05_Reorder_b23, g1, lEi]
          exact ⟨i + 1, by simp [hs], by omega, by omega⟩
        · have g1 : decide ((i : Int) < ge.length) = false := decide_eq_false (by omega)
          obtain rfl : i = ge.length := by omega
          simp (config := { maxSteps := 1000000 }) (disch := first | omega | (simp only [go_sem]; omega)) only [go_sem, ↓reduceIte, c_r05_Reorder_b23, g1, lNi, lEi]
          try rfl
set_option maxHeartbeats 4000000 in
set_option maxRecDepth 100000 in
theorem w_l10_PushoutKinds (hw : K_l10_awake P F) (hm : K_r10_Made P F) (ho : K_pushout_Of P F) (ho2 : K_r10_Of P F) (hi : K_morphism_Injective P F) (hj : K_morphism_Surjective P F) (hsh : K_r05_Shuffle P F) (hre : K_r05_Reorder P F) (ht : K_r06_Then P F) (hk : K_pushout_Check P F) (d : Dr) (b c m : List Int) (hd : d.ok) (d1 : d.n.length ≤ maxL) (d2 : d.e.length ≤ maxL) (hb : Bts b) (hc : Bts c) (hm' : Bts m) :
    W P (c_l10_PushoutKinds F) (Done [.t 6] [] (.bool true) []) (init [drD d, .agg [.lst 1 (u8s b), .lst 1 (u8s c)], .lst 1 (u8s m)]) := by
  refine W_of ?_
  obtain ⟨hb1, hb2⟩ := hb
  obtain ⟨hc1, hc2⟩ := hc
  obtain ⟨hm1, hm2⟩ := hm'
  unfold maxL at hb2 hc2 hm2
  by_cases a1 : b.length ≤ 10
  · have e1 : decide ((10 : Int) < b.length) = false := decide_eq_false (by omega)
    by_cases a2 : c.length ≤ 10
    · have e2 : decide ((10 : Int) < c.length) = false := decide_eq_false (by omega)
      by_cases a3 : m.length ≤ 40
      · have e3 : decide ((40 : Int) < m.length) = false := decide_eq_false (by omega)
        have r1 := hm d b c hd d1 d2 (by omega) hb1 (by omega) hc1
        obtain ⟨hs, z1, z2, z3, z4⟩ := made_ok hd hb1 hc1
        obtain ⟨p1, p2⟩ := po_len hs
        have r2 := ho (madeSp d b c)
        rw [poR_ok hs] at r2
        have r3 := hi (madeSp d b c).a (madeSp d b c).b (madeSp d b c).f
        have r4 := hi (madeSp d b c).c (poG (madeSp d b c)) (poK (madeSp d b c))
        have r5 := hj (madeSp d b c).a (madeSp d b c).b (madeSp d b c).f
        have r6 := hj (madeSp d b c).c (poG (madeSp d b c)) (poK (madeSp d b c))
        have i12 := hs.inj
        have s12 := hs.sur
        have r7 := ho (madeSp d b c).sw
        have r8 := ho2 (madeSp d b c).sw
        rw [poR_ok hs.sw] at r7 r8
        have r9 := hk (madeSp d b c) (poG (madeSp d b c).sw) (poK (madeSp d b c).sw) (poP (madeSp d b c).sw)
        rw [hs.chk_sw] at r9
        have q1 := PermI.of (shufL_perm (n := (poG (madeSp d b c)).n.length) hm1 (min (poG (madeSp d b c)).n.length m.length) (by omega) (by omega))
        have q2 := PermI.of (shufL_perm (n := (poG (madeSp d b c)).e.length) hm1 (min (poG (madeSp d b c)).e.length m.length) (by omega) (by omega))
        have ra := hsh (poG (madeSp d b c)).n.length m (by omega) (by unfold maxL; omega) hm1
        have rb := hsh (poG (madeSp d b c)).e.length m (by omega) (by unfold maxL; omega) hm1
        generalize shufL (poG (madeSp d b c)).n.length m (min (poG (madeSp d b c)).n.length m.length) = l1 at *
        generalize shufL (poG (madeSp d b c)).e.length m (min (poG (madeSp d b c)).e.length m.length) = l2 at *
        have rc := hre (poG (madeSp d b c)) ⟨l1, l2⟩ hs.p.vb q1 q2
        obtain ⟨hx, x1, x2⟩ := reO_ok (m := ⟨l1, l2⟩) hs.p.vb q1 q2
        have bp := validM_bd (mok.2 hs.p)
        have bk := validM_bd (mok.2 hs.k)
        have y1 := hs.p.ln
        have y2 := hs.p.le
        have y3 := hs.k.ln
        have y4 := hs.k.le
        have y5 := hx.ln
        have y6 := hx.le
        have rd := ht (poP (madeSp d b c)) ⟨l1, l2⟩ (by omega) (by omega) (by rw [y5]; exact bp.1) (by rw [y6]; exact bp.2)
        have re := ht (poK (madeSp d b c)) ⟨l1, l2⟩ (by omega) (by omega) (by rw [y5]; exact bk.1) (by rw [y6]; exact bk.2)
        have rf := hk (madeSp d b c) (reO (poG (madeSp d b c)) ⟨l1, l2⟩) (thenM (poP (madeSp d b c)) ⟨l1, l2⟩) (thenM (poK (madeSp d b c)) ⟨l1, l2⟩)
        rw [hs.chk_grown hx, x1, x2, Bool.and_self] at rf
        have v1 := q1.l
        have v2 := q2.l
        clear hs hx z1 z2 z3 z4 bp bk y5 y6 x1 x2 p1 p2 hm ho hi hj ht hk q1 q2 ho2 hsh hre
        generalize thenM (poP (madeSp d b c)) ⟨l1, l2⟩ = t1 at *
        generalize thenM (poK (madeSp d b c)) ⟨l1, l2⟩ = t2 at *
        generalize injM (madeSp d b c).a (madeSp d b c).b (madeSp d b c).f = i1 at *
        generalize injM (madeSp d b c).c (poG (madeSp d b c)) (poK (madeSp d b c)) = i2 at *
        generalize surM (madeSp d b c).a (madeSp d b c).b (madeSp d b c).f = s1 at *
        generalize surM (madeSp d b c).c (poG (madeSp d b c)) (poK (madeSp d b c)) = s2 at *
        generalize reO (poG (madeSp d b c)) ⟨l1, l2⟩ = x at *
        generalize poG (madeSp d b c).sw = p' at *
        generalize poP (madeSp d b c).sw = h' at *
        generalize poK (madeSp d b c).sw = k' at *
        generalize poG (madeSp d b c) = p at *
        generalize poP (madeSp d b c) = h at *
        generalize poK (madeSp d b c) = k at *
        generalize madeSp d b c = s at *
        obtain ⟨pn, pe⟩ := p
        obtain ⟨hn, he⟩ := h
        obtain ⟨kn, ke⟩ := k
        obtain ⟨pn', pe'⟩ := p'
        obtain ⟨hn', he'⟩ := h'
        obtain ⟨kn', ke'⟩ := k'
        obtain ⟨xn, xe⟩ := x
        obtain ⟨t1n, t1e⟩ := t1
        obtain ⟨t2n, t2e⟩ := t2
        simp only [gD, gA, mD, mA, spD, spA, poD, drD, Sp.sw] at *
        have g1 : decide ((hn.length : Int) = s.b.n.length) = true := decide_eq_true (by omega)
        have g3 : decide ((kn.length : Int) = s.c.n.length) = true := decide_eq_true (by omega)
        simp (config := { maxSteps := 1000000 }) (disch := first | omega | (simp only [go_sem]; omega)) only [go_sem, ↓reduceIte]
        refine call_by hw ?_
        simp (config := { maxSteps := 1000000 }) (disch := first | omega | (simp only [go_sem]; omega)) only [go_sem, ↓reduceIte, e1, e2, e3]
        refine call_by r1 ?_
        simp (config := { maxSteps := 1000000 }) (disch := first | omega | (simp only [go_sem]; omega)) only [go_sem, ↓reduceIte]
        refine call_by r2 ?_
        simp (config := { maxSteps := 1000000 }) (disch := first | omega | (simp only [go_sem]; omega)) only [go_sem, ↓reduceIte, g1, g3]
        refine call_by r3 ?_
        cases i1 <;> cases s1 <;> (first | have i2t := i12 rfl | skip) <;> (first | have s2t := s12 rfl | skip)
        all_goals
          first | subst i2t | skip
          first | subst s2t | skip
          repeat (first | (refine call_by r4 ?_) | (refine call_by r5 ?_) | (refine call_by r6 ?_) | (refine call_by r7 ?_) | (refine call_by r8 ?_) | (refine call_by r9 ?_) | (refine call_by ra ?_) | (refine call_by rb ?_) | (refine call_by rc ?_) | (refine call_by rd ?_) | (refine call_by re ?_) | (refine call_by rf ?_) | simp (config := { maxSteps := 1000000 }) (disch := first | omega | (simp only [go_sem]; omega)) only [go_sem, ↓reduceIte, v1, v2])
      · have e3 : decide ((40 : Int) < m.length) = true := decide_eq_true (by omega)
        simp only [drD] at *
        simp (config := { maxSteps := 1000000 }) (disch := first | omega | (simp only [go_sem]; omega)) only [go_sem, ↓reduceIte]
        refine call_by hw ?_
        simp (config := { maxSteps := 1000000 }) (disch := first | omega | (simp only [go_sem]; omega)) only [go_sem, ↓reduceIte, e1, e2, e3]
        refine call_by hw ?_
        simp (config := { maxSteps := 1000000 }) (disch := first | omega | (simp only [go_sem]; omega)) only [go_sem, ↓reduceIte]
    · have e2 : decide ((10 : Int) < c.length) = true := decide_eq_true (by omega)
      simp only [drD] at *
      simp (config := { maxSteps := 1000000 }) (disch := first | omega | (simp only [go_sem]; omega)) only [go_sem, ↓reduceIte]
      refine call_by hw ?_
      simp (config := { maxSteps := 1000000 }) (disch := first | omega | (simp only [go_sem]; omega)) only [go_sem, ↓reduceIte, e1, e2]
      refine call_by hw ?_
      simp (config := { maxSteps := 1000000 }) (disch := first | omega | (simp only [go_sem]; omega)) only [go_sem, ↓reduceIte]
  · have e1 : decide ((10 : Int) < b.length) = true := decide_eq_true (by omega)
    simp only [drD] at *
    simp (config := { maxSteps := 1000000 }) (disch := first | omega | (simp only [go_sem]; omega)) only [go_sem, ↓reduceIte]
    refine call_by hw ?_
    simp (config := { maxSteps := 1000000 }) (disch := first | omega | (simp only [go_sem]; omega)) only [go_sem, ↓reduceIte, e1]
    refine call_by hw ?_
    simp (config := { maxSteps := 1000000 }) (disch := first | omega | (simp only [go_sem]; omega)) only [go_sem, ↓reduceIte]
theorem x_l10_PushoutKinds (h : K_l10_PushoutKinds P F) (args : List D) (ha : HasEls [shDr, shU82, shU8s] args) : FC P (F "l10.PushoutKinds") args (.bool true) [] := by
  simp only [HasEls] at ha
  obtain ⟨_, _, rfl, h1, _, _, rfl, h2, _, _, rfl, h3, rfl⟩ := ha
  obtain ⟨x, rfl, a1, a2, a3⟩ := rd_draft h1
  obtain ⟨b, c, rfl, hb, hc⟩ := rd_u82 h2
  obtain ⟨m, rfl, m1, m2⟩ := rd_u8s h3
  exact h x b c m a1 a2 a3 hb hc ⟨m1, m2⟩
end
end Go.Am
