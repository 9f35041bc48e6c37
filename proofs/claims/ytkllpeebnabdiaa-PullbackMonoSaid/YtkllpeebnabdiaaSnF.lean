/- Images and preimages; the law: a pullback of an injective morphism. -/
import Derived.Test.YtkllpeebnabdiaaSnC
namespace Go.Am
open Go
set_option linter.unusedVariables false
set_option linter.unusedSimpArgs false
attribute [local irreducible] W
/- r07.has -/
def c_r07_has_r0 (F : String → Nat) : List LI := [⟨some 4, .mov (.k (.bool false)), none⟩]
def c_r07_has_r1 (F : String → Nat) : List LI := [⟨some 5, .mov (.k (.int .i64 (0))), none⟩]
def c_r07_has_r2 (F : String → Nat) : List LI := [⟨some 6, .mov (.t 5), none⟩,
  ⟨some 7, .mov (.t 0), none⟩,
  ⟨some 8, .len (.t 7), none⟩,
  ⟨some 9, .bin .lss (.t 6) (.t 8), none⟩]
def c_r07_has_r3 (F : String → Nat) : List LI := [⟨some 12, .mov (.t 0), none⟩,
  ⟨some 13, .mov (.t 5), none⟩,
  ⟨some 14, .iad 1 (.t 12) (.t 13), none⟩,
  ⟨some 15, .load false 1 (.t 14), none⟩,
  ⟨some 16, .mov (.t 1), none⟩,
  ⟨some 17, .bin .eql (.t 15) (.t 16), none⟩]
def c_r07_has_r4 (F : String → Nat) : List LI := [⟨some 4, .mov (.k (.bool true)), none⟩]
def c_r07_has_r5 (F : String → Nat) : List LI := [⟨some 10, .mov (.t 5), none⟩,
  ⟨some 11, .bin .add (.t 10) (.k (.int .i64 (1))), none⟩,
  ⟨some 5, .mov (.t 11), none⟩]
def c_r07_has_b6 (F : String → Nat) : LC := (.seq (.seq (.reg (c_r07_has_r2 F) [0, 1, 5, 9]) (.cond (.t 9) .skip (.exit 0))) (.seq (.block 1 (.seq (.reg (c_r07_has_r3 F) [0, 1, 5, 17]) (.cond (.t 17) (.seq (.reg (c_r07_has_r4 F) [4]) .ret) .skip))) (.reg (c_r07_has_r5 F) [0, 1, 5])))
def c_r07_has_r7 (F : String → Nat) : List LI := [⟨some 4, .mov (.k (.bool false)), none⟩]
def c_r07_has (F : String → Nat) : LC := (.seq (.reg (c_r07_has_r0 F) [0, 1]) (.seq (.seq (.reg (c_r07_has_r1 F) [0, 1, 5]) (.block 0 (.loop [0, 1, 5] (c_r07_has_b6 F)))) (.seq (.reg (c_r07_has_r7 F) [4]) .ret)))
def h_r07_has : Hints := ⟨[], fun _ => [], tab [(0, [0, 1]), (1, [0, 1, 5]), (2, [0, 1, 5, 9]), (3, [0, 1, 5]), (4, [0, 1, 5, 17]), (5, [4]), (6, [4])], tab [(2, [0, 1, 5])]⟩

/- r07.merged -/
def c_r07_merged_r0 (F : String → Nat) : List LI := [⟨some 8, .mov (.k (.nl 1)), none⟩]
def c_r07_merged_r1 (F : String → Nat) : List LI := [⟨some 9, .mov (.k (.nl 1)), none⟩]
def c_r07_merged_r2 (F : String → Nat) : List LI := [⟨some 10, .mov (.k (.int .i64 (0))), none⟩]
def c_r07_merged_r3 (F : String → Nat) : List LI := [⟨some 13, .mov (.t 10), none⟩,
  ⟨some 14, .mov (.t 0), none⟩,
  ⟨some 15, .bin .lss (.t 13) (.t 14), none⟩]
def c_r07_merged_r4 (F : String → Nat) : List LI := [⟨some 18, .mov (.t 1), none⟩,
  ⟨some 19, .mov (.t 10), none⟩,
  ⟨some 20, .call (F "r07.has") [.t 18, .t 19] [], none⟩,
  ⟨some 21, .mov (.t 2), none⟩,
  ⟨some 22, .mov (.t 10), none⟩,
  ⟨some 23, .call (F "r07.has") [.t 21, .t 22] [], none⟩,
  ⟨some 11, .mov (.t 20), none⟩,
  ⟨some 12, .mov (.t 23), none⟩]
def c_r07_merged_r5 (F : String → Nat) : List LI := [⟨some 24, .mov (.t 11), none⟩,
  ⟨some 25, .mov (.t 24), none⟩,
  ⟨some 26, .mov (.t 12), some (25, true)⟩,
  ⟨some 27, .pick (.t 25) (.t 26) (.k (.bool false)), none⟩,
  ⟨some 28, .mov (.t 27), none⟩,
  ⟨some 29, .mov (.t 3), some (28, false)⟩,
  ⟨some 30, .not (.t 29), some (28, false)⟩,
  ⟨some 31, .mov (.t 30), some (28, false)⟩,
  ⟨some 32, .mov (.t 11), some (31, true)⟩,
  ⟨some 33, .mov (.t 32), some (31, true)⟩,
  ⟨some 34, .mov (.t 12), some (33, false)⟩,
  ⟨some 35, .pick (.t 33) (.k (.bool true)) (.t 34), some (31, true)⟩,
  ⟨some 36, .pick (.t 31) (.t 35) (.k (.bool false)), some (28, false)⟩,
  ⟨some 37, .pick (.t 28) (.k (.bool true)) (.t 36), none⟩]
def c_r07_merged_r6 (F : String → Nat) : List LI := [⟨some 38, .mov (.t 9), none⟩,
  ⟨some 39, .mov (.t 10), none⟩,
  ⟨some 40, .buildSl 1 8 (.int .i64 (0)) 1 [(0, .t 39)], none⟩,
  ⟨some 41, .app 1 8 (.t 38) (.t 40), none⟩,
  ⟨some 9, .mov (.t 41), none⟩]
def c_r07_merged_r7 (F : String → Nat) : List LI := [⟨some 16, .mov (.t 10), none⟩,
  ⟨some 17, .bin .add (.t 16) (.k (.int .i64 (1))), none⟩,
  ⟨some 10, .mov (.t 17), none⟩]
def c_r07_merged_b8 (F : String → Nat) : LC := (.seq (.seq (.reg (c_r07_merged_r3 F) [0, 1, 2, 3, 9, 10, 15]) (.cond (.t 15) .skip (.exit 0))) (.seq (.block 1 (.seq (.reg (c_r07_merged_r4 F) [0, 1, 2, 3, 9, 10, 11, 12]) (.seq (.reg (c_r07_merged_r5 F) [0, 1, 2, 3, 9, 10, 37]) (.cond (.t 37) (.reg (c_r07_merged_r6 F) [0, 1, 2, 3, 9, 10]) .skip)))) (.reg (c_r07_merged_r7 F) [0, 1, 2, 3, 9, 10])))
def c_r07_merged_r9 (F : String → Nat) : List LI := [⟨some 42, .mov (.t 9), none⟩,
  ⟨some 8, .mov (.t 42), none⟩]
def c_r07_merged (F : String → Nat) : LC := (.seq (.reg (c_r07_merged_r0 F) [0, 1, 2, 3]) (.seq (.reg (c_r07_merged_r1 F) [0, 1, 2, 3, 9]) (.seq (.seq (.reg (c_r07_merged_r2 F) [0, 1, 2, 3, 9, 10]) (.block 0 (.loop [0, 1, 2, 3, 9, 10] (c_r07_merged_b8 F)))) (.seq (.reg (c_r07_merged_r9 F) [8]) .ret))))
def h_r07_merged : Hints := ⟨[], fun _ => [], tab [(0, [0, 1, 2, 3]), (1, [0, 1, 2, 3, 9]), (2, [0, 1, 2, 3, 9, 10]), (3, [0, 1, 2, 3, 9, 10, 15]), (4, [0, 1, 2, 3, 9, 10]), (5, [0, 1, 2, 3, 9, 10, 11, 12]), (6, [0, 1, 2, 3, 9, 10, 37]), (7, [0, 1, 2, 3, 9, 10]), (8, [8])], tab [(3, [0, 1, 2, 3, 9, 10])]⟩

/- r07.into -/
def c_r07_into_r0 (F : String → Nat) : List LI := [⟨some 4, .mov (.k (.nl 1)), none⟩]
def c_r07_into_r1 (F : String → Nat) : List LI := [⟨some 5, .mov (.k (.nl 1)), none⟩]
def c_r07_into_r2 (F : String → Nat) : List LI := [⟨some 6, .mov (.k (.int .i64 (0))), none⟩]
def c_r07_into_r3 (F : String → Nat) : List LI := [⟨some 7, .mov (.t 6), none⟩,
  ⟨some 8, .mov (.t 0), none⟩,
  ⟨some 9, .len (.t 8), none⟩,
  ⟨some 10, .bin .lss (.t 7) (.t 9), none⟩]
def c_r07_into_r4 (F : String → Nat) : List LI := [⟨some 13, .mov (.t 1), none⟩,
  ⟨some 14, .mov (.t 0), none⟩,
  ⟨some 15, .mov (.t 6), none⟩,
  ⟨some 16, .iad 1 (.t 14) (.t 15), none⟩,
  ⟨some 17, .load false 1 (.t 16), none⟩,
  ⟨some 18, .call (F "r07.has") [.t 13, .t 17] [], none⟩]
def c_r07_into_r5 (F : String → Nat) : List LI := [⟨some 19, .mov (.t 5), none⟩,
  ⟨some 20, .mov (.t 6), none⟩,
  ⟨some 21, .buildSl 1 8 (.int .i64 (0)) 1 [(0, .t 20)], none⟩,
  ⟨some 22, .app 1 8 (.t 19) (.t 21), none⟩,
  ⟨some 5, .mov (.t 22), none⟩]
def c_r07_into_r6 (F : String → Nat) : List LI := [⟨some 11, .mov (.t 6), none⟩,
  ⟨some 12, .bin .add (.t 11) (.k (.int .i64 (1))), none⟩,
  ⟨some 6, .mov (.t 12), none⟩]
def c_r07_into_b7 (F : String → Nat) : LC := (.seq (.seq (.reg (c_r07_into_r3 F) [0, 1, 5, 6, 10]) (.cond (.t 10) .skip (.exit 0))) (.seq (.block 1 (.seq (.reg (c_r07_into_r4 F) [0, 1, 5, 6, 18]) (.cond (.t 18) (.reg (c_r07_into_r5 F) [0, 1, 5, 6]) .skip))) (.reg (c_r07_into_r6 F) [0, 1, 5, 6])))
def c_r07_into_r8 (F : String → Nat) : List LI := [⟨some 23, .mov (.t 5), none⟩,
  ⟨some 4, .mov (.t 23), none⟩]
def c_r07_into (F : String → Nat) : LC := (.seq (.reg (c_r07_into_r0 F) [0, 1]) (.seq (.reg (c_r07_into_r1 F) [0, 1, 5]) (.seq (.seq (.reg (c_r07_into_r2 F) [0, 1, 5, 6]) (.block 0 (.loop [0, 1, 5, 6] (c_r07_into_b7 F)))) (.seq (.reg (c_r07_into_r8 F) [4]) .ret))))
def h_r07_into : Hints := ⟨[], fun _ => [], tab [(0, [0, 1]), (1, [0, 1, 5]), (2, [0, 1, 5, 6]), (3, [0, 1, 5, 6, 10]), (4, [0, 1, 5, 6]), (5, [0, 1, 5, 6, 18]), (6, [0, 1, 5, 6]), (7, [4])], tab [(3, [0, 1, 5, 6])]⟩

/- r07.ascending -/
def c_r07_ascending_r0 (F : String → Nat) : List LI := [⟨some 4, .mov (.k (.int .i64 (0))), none⟩]
def c_r07_ascending_r1 (F : String → Nat) : List LI := [⟨some 5, .mov (.k (.int .i64 (0))), none⟩]
def c_r07_ascending_r2 (F : String → Nat) : List LI := [⟨some 6, .mov (.t 5), none⟩,
  ⟨some 7, .mov (.t 0), none⟩,
  ⟨some 8, .len (.t 7), none⟩,
  ⟨some 9, .bin .lss (.t 6) (.t 8), none⟩]
def c_r07_ascending_r3 (F : String → Nat) : List LI := [⟨some 12, .mov (.t 0), none⟩,
  ⟨some 13, .mov (.t 5), none⟩,
  ⟨some 14, .iad 1 (.t 12) (.t 13), none⟩,
  ⟨some 15, .load false 1 (.t 14), none⟩,
  ⟨some 16, .bin .lss (.t 15) (.k (.int .i64 (0))), none⟩,
  ⟨some 17, .mov (.t 16), none⟩,
  ⟨some 18, .mov (.t 0), some (17, false)⟩,
  ⟨some 19, .mov (.t 5), some (17, false)⟩,
  ⟨some 20, .iad 1 (.t 18) (.t 19), some (17, false)⟩,
  ⟨some 21, .load false 1 (.t 20), some (17, false)⟩,
  ⟨some 22, .mov (.t 1), some (17, false)⟩,
  ⟨some 23, .bin .geq (.t 21) (.t 22), some (17, false)⟩,
  ⟨some 24, .pick (.t 17) (.k (.bool true)) (.t 23), none⟩]
def c_r07_ascending_r4 (F : String → Nat) : List LI := [⟨some 4, .mov (.k (.int .i64 (6))), none⟩]
def c_r07_ascending_r5 (F : String → Nat) : List LI := [⟨some 25, .mov (.t 5), none⟩,
  ⟨some 26, .bin .gtr (.t 25) (.k (.int .i64 (0))), none⟩,
  ⟨some 27, .mov (.t 26), none⟩,
  ⟨some 28, .mov (.t 0), some (27, true)⟩,
  ⟨some 29, .mov (.t 5), some (27, true)⟩,
  ⟨some 30, .iad 1 (.t 28) (.t 29), some (27, true)⟩,
  ⟨some 31, .load false 1 (.t 30), some (27, true)⟩,
  ⟨some 32, .mov (.t 0), some (27, true)⟩,
  ⟨some 33, .mov (.t 5), some (27, true)⟩,
  ⟨some 34, .bin .sub (.t 33) (.k (.int .i64 (1))), some (27, true)⟩,
  ⟨some 35, .iad 1 (.t 32) (.t 34), some (27, true)⟩,
  ⟨some 36, .load false 1 (.t 35), some (27, true)⟩,
  ⟨some 37, .bin .leq (.t 31) (.t 36), some (27, true)⟩,
  ⟨some 38, .pick (.t 27) (.t 37) (.k (.bool false)), none⟩]
def c_r07_ascending_r6 (F : String → Nat) : List LI := [⟨some 4, .mov (.k (.int .i64 (12))), none⟩]
def c_r07_ascending_r7 (F : String → Nat) : List LI := [⟨some 10, .mov (.t 5), none⟩,
  ⟨some 11, .bin .add (.t 10) (.k (.int .i64 (1))), none⟩,
  ⟨some 5, .mov (.t 11), none⟩]
def c_r07_ascending_b8 (F : String → Nat) : LC := (.seq (.seq (.reg (c_r07_ascending_r2 F) [0, 1, 5, 9]) (.cond (.t 9) .skip (.exit 0))) (.seq (.block 1 (.seq (.seq (.reg (c_r07_ascending_r3 F) [0, 1, 5, 24]) (.cond (.t 24) (.seq (.reg (c_r07_ascending_r4 F) [4]) .ret) .skip)) (.seq (.dreg [] (c_r07_ascending_r5 F) [0, 1, 5, 38]) (.cond (.t 38) (.seq (.reg (c_r07_ascending_r6 F) [4]) .ret) .skip)))) (.reg (c_r07_ascending_r7 F) [0, 1, 5])))
def c_r07_ascending_r9 (F : String → Nat) : List LI := [⟨some 4, .mov (.k (.int .i64 (0))), none⟩]
def c_r07_ascending (F : String → Nat) : LC := (.seq (.reg (c_r07_ascending_r0 F) [0, 1]) (.seq (.seq (.reg (c_r07_ascending_r1 F) [0, 1, 5]) (.block 0 (.loop [0, 1, 5] (c_r07_ascending_b8 F)))) (.seq (.reg (c_r07_ascending_r9 F) [4]) .ret)))
def h_r07_ascending : Hints := ⟨[], fun _ => [], tab [(0, [0, 1]), (1, [0, 1, 5]), (2, [0, 1, 5, 9]), (3, [0, 1, 5]), (4, [0, 1, 5, 24]), (5, [4]), (6, [0, 1, 5, 38]), (7, [4]), (8, [4])], tab [(2, [0, 1, 5])]⟩

/- r07.Right -/
def c_r07_Right_r0 (F : String → Nat) : List LI := [⟨some 2, .bx (.t 0), none⟩,
  ⟨some 3, .bx (.t 1), none⟩,
  ⟨some 4, .mov (.k (.int .i64 (0))), none⟩]
def c_r07_Right_r1 (F : String → Nat) : List LI := [⟨some 9, .fad 0 (.t 3), none⟩,
  ⟨some 10, .load false 1 (.t 9), none⟩,
  ⟨some 11, .fad 0 (.t 2), none⟩,
  ⟨some 12, .load false 1 (.t 11), none⟩,
  ⟨some 13, .len (.t 12), none⟩,
  ⟨some 14, .call (F "r07.ascending") [.t 10, .t 13] [], none⟩,
  ⟨some 5, .mov (.t 14), none⟩]
def c_r07_Right_r2 (F : String → Nat) : List LI := [⟨some 15, .mov (.t 5), none⟩,
  ⟨some 16, .bin .neq (.t 15) (.k (.int .i64 (0))), none⟩]
def c_r07_Right_r3 (F : String → Nat) : List LI := [⟨some 17, .mov (.t 5), none⟩,
  ⟨some 4, .mov (.t 17), none⟩]
def c_r07_Right_r4 (F : String → Nat) : List LI := [⟨some 18, .fad 1 (.t 3), none⟩,
  ⟨some 19, .load false 1 (.t 18), none⟩,
  ⟨some 20, .fad 1 (.t 2), none⟩,
  ⟨some 21, .load false 1 (.t 20), none⟩,
  ⟨some 22, .len (.t 21), none⟩,
  ⟨some 23, .call (F "r07.ascending") [.t 19, .t 22] [], none⟩,
  ⟨some 6, .mov (.t 23), none⟩]
def c_r07_Right_r5 (F : String → Nat) : List LI := [⟨some 24, .mov (.t 6), none⟩,
  ⟨some 25, .bin .neq (.t 24) (.k (.int .i64 (0))), none⟩]
def c_r07_Right_r6 (F : String → Nat) : List LI := [⟨some 26, .mov (.t 6), none⟩,
  ⟨some 4, .mov (.t 26), none⟩]
def c_r07_Right_r7 (F : String → Nat) : List LI := [⟨some 7, .mov (.k (.int .i64 (0))), none⟩]
def c_r07_Right_r8 (F : String → Nat) : List LI := [⟨some 27, .mov (.t 7), none⟩,
  ⟨some 28, .fad 1 (.t 3), none⟩,
  ⟨some 29, .load false 1 (.t 28), none⟩,
  ⟨some 30, .len (.t 29), none⟩,
  ⟨some 31, .bin .lss (.t 27) (.t 30), none⟩]
def c_r07_Right_r9 (F : String → Nat) : List LI := [⟨some 34, .fad 1 (.t 2), none⟩,
  ⟨some 35, .load false 1 (.t 34), none⟩,
  ⟨some 36, .fad 1 (.t 3), none⟩,
  ⟨some 37, .load false 1 (.t 36), none⟩,
  ⟨some 38, .mov (.t 7), none⟩,
  ⟨some 39, .iad 1 (.t 37) (.t 38), none⟩,
  ⟨some 40, .load false 1 (.t 39), none⟩,
  ⟨some 41, .iad 3 (.t 35) (.t 40), none⟩,
  ⟨some 42, .load true 3 (.t 41), none⟩,
  ⟨some 8, .alloc [.int .i64 (0), .int .i64 (0), .int .i64 (0)], none⟩,
  ⟨none, .store 3 (.t 8) (.t 42), none⟩]
def c_r07_Right_r10 (F : String → Nat) : List LI := [⟨some 43, .fad 0 (.t 3), none⟩,
  ⟨some 44, .load false 1 (.t 43), none⟩,
  ⟨some 45, .fad 1 (.t 8), none⟩,
  ⟨some 46, .load false 1 (.t 45), none⟩,
  ⟨some 47, .call (F "r07.has") [.t 44, .t 46] [], none⟩,
  ⟨some 48, .not (.t 47), none⟩,
  ⟨some 49, .mov (.t 48), none⟩,
  ⟨some 50, .fad 0 (.t 3), some (49, false)⟩,
  ⟨some 51, .load false 1 (.t 50), some (49, false)⟩,
  ⟨some 52, .fad 2 (.t 8), some (49, false)⟩,
  ⟨some 53, .load false 1 (.t 52), some (49, false)⟩,
  ⟨some 54, .call (F "r07.has") [.t 51, .t 53] [], some (49, false)⟩,
  ⟨some 55, .not (.t 54), some (49, false)⟩,
  ⟨some 56, .pick (.t 49) (.k (.bool true)) (.t 55), none⟩]
def c_r07_Right_r11 (F : String → Nat) : List LI := [⟨some 4, .mov (.k (.int .i64 (14))), none⟩]
def c_r07_Right_r12 (F : String → Nat) : List LI := [⟨some 32, .mov (.t 7), none⟩,
  ⟨some 33, .bin .add (.t 32) (.k (.int .i64 (1))), none⟩,
  ⟨some 7, .mov (.t 33), none⟩]
def c_r07_Right_b13 (F : String → Nat) : LC := (.seq (.seq (.reg (c_r07_Right_r8 F) [2, 3, 7, 31]) (.cond (.t 31) .skip (.exit 0))) (.seq (.block 1 (.seq (.dreg [] (c_r07_Right_r9 F) [2, 3, 7, 8]) (.seq (.reg (c_r07_Right_r10 F) [2, 3, 7, 56]) (.cond (.t 56) (.seq (.reg (c_r07_Right_r11 F) [4]) .ret) .skip)))) (.reg (c_r07_Right_r12 F) [2, 3, 7])))
def c_r07_Right_r14 (F : String → Nat) : List LI := [⟨some 4, .mov (.k (.int .i64 (0))), none⟩]
def c_r07_Right (F : String → Nat) : LC := (.seq (.reg (c_r07_Right_r0 F) [2, 3]) (.seq (.seq (.reg (c_r07_Right_r1 F) [2, 3, 5]) (.seq (.reg (c_r07_Right_r2 F) [2, 3, 5, 16]) (.cond (.t 16) (.seq (.reg (c_r07_Right_r3 F) [4]) .ret) .skip))) (.seq (.seq (.reg (c_r07_Right_r4 F) [2, 3, 6]) (.seq (.reg (c_r07_Right_r5 F) [2, 3, 6, 25]) (.cond (.t 25) (.seq (.reg (c_r07_Right_r6 F) [4]) .ret) .skip))) (.seq (.seq (.reg (c_r07_Right_r7 F) [2, 3, 7]) (.block 0 (.loop [2, 3, 7] (c_r07_Right_b13 F)))) (.seq (.reg (c_r07_Right_r14 F) [4]) .ret)))))
def h_r07_Right : Hints := ⟨[], fun _ => [], tab [(0, [2, 3]), (1, [2, 3, 5]), (2, [2, 3, 5, 16]), (3, [4]), (4, [2, 3, 6]), (5, [2, 3, 6, 25]), (6, [4]), (7, [2, 3, 7]), (8, [2, 3, 7, 31]), (9, [2, 3, 7]), (10, [2, 3, 7, 8]), (11, [2, 3, 7, 56]), (12, [4]), (13, [4])], tab [(8, [2, 3, 7])]⟩

/- r07.Image -/
def c_r07_Image_r0 (F : String → Nat) : List LI := [⟨some 3, .bx (.t 0), none⟩,
  ⟨some 4, .bx (.t 1), none⟩,
  ⟨some 5, .bx (.t 2), none⟩,
  ⟨some 6, .alloc [.nl 1, .nl 1], none⟩,
  ⟨some 7, .mov (.k (.int .i64 (0))), none⟩]
def c_r07_Image_r1 (F : String → Nat) : List LI := [⟨some 9, .load true 2 (.t 3), none⟩,
  ⟨some 10, .load true 2 (.t 4), none⟩,
  ⟨some 11, .load true 2 (.t 5), none⟩,
  ⟨some 12, .call (F "r06.Valid") [.t 9, .t 10, .t 11] [], none⟩,
  ⟨some 8, .mov (.t 12), none⟩]
def c_r07_Image_r2 (F : String → Nat) : List LI := [⟨some 13, .mov (.t 8), none⟩,
  ⟨some 14, .bin .neq (.t 13) (.k (.int .i64 (0))), none⟩]
def c_r07_Image_r3 (F : String → Nat) : List LI := [⟨some 15, .build [.nl 1, .nl 1] [], none⟩,
  ⟨some 16, .mov (.t 8), none⟩,
  ⟨none, .store 2 (.t 6) (.t 15), none⟩,
  ⟨some 7, .mov (.t 16), none⟩]
def c_r07_Image_r4 (F : String → Nat) : List LI := [⟨some 17, .fad 0 (.t 4), none⟩,
  ⟨some 18, .load false 1 (.t 17), none⟩,
  ⟨some 19, .len (.t 18), none⟩,
  ⟨some 20, .fad 0 (.t 5), none⟩,
  ⟨some 21, .load false 1 (.t 20), none⟩,
  ⟨some 22, .fad 0 (.t 5), none⟩,
  ⟨some 23, .load false 1 (.t 22), none⟩,
  ⟨some 24, .call (F "r07.merged") [.t 19, .t 21, .t 23, .k (.bool false)] [], none⟩,
  ⟨some 25, .fad 1 (.t 4), none⟩,
  ⟨some 26, .load false 1 (.t 25), none⟩,
  ⟨some 27, .len (.t 26), none⟩,
  ⟨some 28, .fad 1 (.t 5), none⟩,
  ⟨some 29, .load false 1 (.t 28), none⟩,
  ⟨some 30, .fad 1 (.t 5), none⟩,
  ⟨some 31, .load false 1 (.t 30), none⟩,
  ⟨some 32, .call (F "r07.merged") [.t 27, .t 29, .t 31, .k (.bool false)] [], none⟩,
  ⟨some 33, .build [.nl 1, .nl 1] [(0, 1, .t 24), (1, 1, .t 32)], none⟩,
  ⟨none, .store 2 (.t 6) (.t 33), none⟩,
  ⟨some 7, .mov (.k (.int .i64 (0))), none⟩]
def c_r07_Image (F : String → Nat) : LC := (.seq (.reg (c_r07_Image_r0 F) [3, 4, 5, 6]) (.seq (.seq (.reg (c_r07_Image_r1 F) [4, 5, 6, 8]) (.seq (.reg (c_r07_Image_r2 F) [4, 5, 6, 8, 14]) (.cond (.t 14) (.seq (.reg (c_r07_Image_r3 F) [6, 7]) .ret) .skip))) (.seq (.dreg [(7, none, [], true), (9, (some 256), [7], false), (12, (some 2048), [7], false), (14, (some 8192), [7], false)] (c_r07_Image_r4 F) [6, 7]) .ret)))
def h_r07_Image : Hints := ⟨[], fun _ => [], tab [(0, [3, 4, 5, 6]), (1, [4, 5, 6, 8]), (2, [4, 5, 6, 8, 14]), (3, [6, 7]), (4, [6, 7])], tab []⟩

/- r07.Preimage -/
def c_r07_Preimage_r0 (F : String → Nat) : List LI := [⟨some 4, .bx (.t 0), none⟩,
  ⟨some 5, .bx (.t 1), none⟩,
  ⟨some 6, .bx (.t 2), none⟩,
  ⟨some 7, .bx (.t 3), none⟩,
  ⟨some 8, .alloc [.nl 1, .nl 1], none⟩,
  ⟨some 9, .mov (.k (.int .i64 (0))), none⟩]
def c_r07_Preimage_r1 (F : String → Nat) : List LI := [⟨some 12, .load true 2 (.t 4), none⟩,
  ⟨some 13, .load true 2 (.t 5), none⟩,
  ⟨some 14, .load true 2 (.t 6), none⟩,
  ⟨some 15, .call (F "r06.Valid") [.t 12, .t 13, .t 14] [], none⟩,
  ⟨some 10, .mov (.t 15), none⟩]
def c_r07_Preimage_r2 (F : String → Nat) : List LI := [⟨some 16, .mov (.t 10), none⟩,
  ⟨some 17, .bin .neq (.t 16) (.k (.int .i64 (0))), none⟩]
def c_r07_Preimage_r3 (F : String → Nat) : List LI := [⟨some 18, .build [.nl 1, .nl 1] [], none⟩,
  ⟨some 19, .mov (.t 10), none⟩,
  ⟨none, .store 2 (.t 8) (.t 18), none⟩,
  ⟨some 9, .mov (.t 19), none⟩]
def c_r07_Preimage_r4 (F : String → Nat) : List LI := [⟨some 20, .load true 2 (.t 5), none⟩,
  ⟨some 21, .load true 2 (.t 7), none⟩,
  ⟨some 22, .call (F "r07.Right") [.t 20, .t 21] [], none⟩,
  ⟨some 11, .mov (.t 22), none⟩]
def c_r07_Preimage_r5 (F : String → Nat) : List LI := [⟨some 23, .mov (.t 11), none⟩,
  ⟨some 24, .bin .neq (.t 23) (.k (.int .i64 (0))), none⟩]
def c_r07_Preimage_r6 (F : String → Nat) : List LI := [⟨some 25, .build [.nl 1, .nl 1] [], none⟩,
  ⟨some 26, .mov (.t 11), none⟩,
  ⟨none, .store 2 (.t 8) (.t 25), none⟩,
  ⟨some 9, .mov (.t 26), none⟩]
def c_r07_Preimage_r7 (F : String → Nat) : List LI := [⟨some 27, .fad 0 (.t 6), none⟩,
  ⟨some 28, .load false 1 (.t 27), none⟩,
  ⟨some 29, .fad 0 (.t 7), none⟩,
  ⟨some 30, .load false 1 (.t 29), none⟩,
  ⟨some 31, .call (F "r07.into") [.t 28, .t 30] [], none⟩,
  ⟨some 32, .fad 1 (.t 6), none⟩,
  ⟨some 33, .load false 1 (.t 32), none⟩,
  ⟨some 34, .fad 1 (.t 7), none⟩,
  ⟨some 35, .load false 1 (.t 34), none⟩,
  ⟨some 36, .call (F "r07.into") [.t 33, .t 35] [], none⟩,
  ⟨some 37, .build [.nl 1, .nl 1] [(0, 1, .t 31), (1, 1, .t 36)], none⟩,
  ⟨none, .store 2 (.t 8) (.t 37), none⟩,
  ⟨some 9, .mov (.k (.int .i64 (0))), none⟩]
def c_r07_Preimage (F : String → Nat) : LC := (.seq (.reg (c_r07_Preimage_r0 F) [4, 5, 6, 7, 8]) (.seq (.seq (.reg (c_r07_Preimage_r1 F) [5, 6, 7, 8, 10]) (.seq (.reg (c_r07_Preimage_r2 F) [5, 6, 7, 8, 10, 17]) (.cond (.t 17) (.seq (.reg (c_r07_Preimage_r3 F) [8, 9]) .ret) .skip))) (.seq (.seq (.reg (c_r07_Preimage_r4 F) [6, 7, 8, 11]) (.seq (.reg (c_r07_Preimage_r5 F) [6, 7, 8, 11, 24]) (.cond (.t 24) (.seq (.reg (c_r07_Preimage_r6 F) [8, 9]) .ret) .skip))) (.seq (.dreg [(4, none, [], true), (6, (some 32), [4], false), (8, (some 128), [4], false)] (c_r07_Preimage_r7 F) [8, 9]) .ret))))
def h_r07_Preimage : Hints := ⟨[], fun _ => [], tab [(0, [4, 5, 6, 7, 8]), (1, [5, 6, 7, 8, 10]), (2, [5, 6, 7, 8, 10, 17]), (3, [8, 9]), (4, [6, 7, 8, 11]), (5, [6, 7, 8, 11, 24]), (6, [8, 9]), (7, [8, 9])], tab []⟩

/- l11.PullbackInjective -/
def c_l11_PullbackInjective_r0 (F : String → Nat) : List LI := [⟨some 1, .bx (.t 0), none⟩,
  ⟨some 2, .mov (.k (.bool false)), none⟩]
def c_l11_PullbackInjective_r1 (F : String → Nat) : List LI := [⟨some 14, .call (F "l11.awake") [] [], none⟩,
  ⟨some 15, .not (.t 14), none⟩,
  ⟨some 16, .mov (.t 15), none⟩,
  ⟨some 17, .load true 6 (.t 1), some (16, false)⟩,
  ⟨some 18, .call (F "l11.few") [.t 17] [], some (16, false)⟩,
  ⟨some 19, .not (.t 18), some (16, false)⟩,
  ⟨some 20, .pick (.t 16) (.k (.bool true)) (.t 19), none⟩]
def c_l11_PullbackInjective_r2 (F : String → Nat) : List LI := [⟨some 21, .call (F "l11.awake") [] [], none⟩,
  ⟨some 2, .mov (.t 21), none⟩]
def c_l11_PullbackInjective_r3 (F : String → Nat) : List LI := [⟨some 22, .load true 6 (.t 1), none⟩,
  ⟨some 23, .call (F "r11.Made") [.t 22] [], none⟩,
  ⟨some 3, .alloc [.nl 1, .nl 3, .nl 1, .nl 3, .nl 1, .nl 3, .nl 1, .nl 1, .nl 1, .nl 1], none⟩,
  ⟨none, .store 10 (.t 3) (.t 23), none⟩]
def c_l11_PullbackInjective_r4 (F : String → Nat) : List LI := [⟨some 25, .load true 10 (.t 3), none⟩,
  ⟨some 26, .call (F "pullback.Of") [.t 25] [], none⟩,
  ⟨some 24, .mov (.t 26), none⟩,
  ⟨some 27, .ext (.t 24) 0, none⟩,
  ⟨some 28, .ext (.t 24) 1, none⟩,
  ⟨some 29, .ext (.t 24) 2, none⟩,
  ⟨some 30, .ext (.t 24) 3, none⟩,
  ⟨some 4, .alloc [.nl 1, .nl 3], none⟩,
  ⟨some 5, .alloc [.nl 1, .nl 1], none⟩,
  ⟨some 6, .alloc [.nl 1, .nl 1], none⟩,
  ⟨none, .store 2 (.t 4) (.t 27), none⟩,
  ⟨none, .store 2 (.t 5) (.t 28), none⟩,
  ⟨none, .store 2 (.t 6) (.t 29), none⟩,
  ⟨some 7, .mov (.t 30), none⟩]
def c_l11_PullbackInjective_r5 (F : String → Nat) : List LI := [⟨some 31, .mov (.t 7), none⟩,
  ⟨some 32, .bin .neq (.t 31) (.k (.int .i64 (0))), none⟩,
  ⟨some 33, .mov (.t 32), none⟩,
  ⟨some 34, .fad 2 (.t 3), some (33, false)⟩,
  ⟨some 35, .load true 2 (.t 34), some (33, false)⟩,
  ⟨some 36, .fad 4 (.t 3), some (33, false)⟩,
  ⟨some 37, .load true 2 (.t 36), some (33, false)⟩,
  ⟨some 38, .fad 8 (.t 3), some (33, false)⟩,
  ⟨some 39, .load true 2 (.t 38), some (33, false)⟩,
  ⟨some 40, .call (F "r06.Injective") [.t 35, .t 37, .t 39] [], some (33, false)⟩,
  ⟨some 41, .not (.t 40), some (33, false)⟩,
  ⟨some 42, .pick (.t 33) (.k (.bool true)) (.t 41), none⟩]
def c_l11_PullbackInjective_r6 (F : String → Nat) : List LI := [⟨some 43, .mov (.t 7), none⟩,
  ⟨some 44, .bin .eql (.t 43) (.k (.int .i64 (0))), none⟩,
  ⟨some 2, .mov (.t 44), none⟩]
def c_l11_PullbackInjective_r7 (F : String → Nat) : List LI := [⟨some 46, .fad 2 (.t 3), none⟩,
  ⟨some 47, .load true 2 (.t 46), none⟩,
  ⟨some 48, .fad 4 (.t 3), none⟩,
  ⟨some 49, .load true 2 (.t 48), none⟩,
  ⟨some 50, .fad 8 (.t 3), none⟩,
  ⟨some 51, .load true 2 (.t 50), none⟩,
  ⟨some 52, .call (F "r07.Image") [.t 47, .t 49, .t 51] [], none⟩,
  ⟨some 45, .mov (.t 52), none⟩,
  ⟨some 53, .ext (.t 45) 0, none⟩,
  ⟨some 54, .ext (.t 45) 1, none⟩,
  ⟨some 8, .alloc [.nl 1, .nl 1], none⟩,
  ⟨none, .store 2 (.t 8) (.t 53), none⟩,
  ⟨some 9, .mov (.t 54), none⟩]
def c_l11_PullbackInjective_r8 (F : String → Nat) : List LI := [⟨some 56, .fad 0 (.t 3), none⟩,
  ⟨some 57, .load true 2 (.t 56), none⟩,
  ⟨some 58, .fad 4 (.t 3), none⟩,
  ⟨some 59, .load true 2 (.t 58), none⟩,
  ⟨some 60, .fad 6 (.t 3), none⟩,
  ⟨some 61, .load true 2 (.t 60), none⟩,
  ⟨some 62, .load true 2 (.t 8), none⟩,
  ⟨some 63, .call (F "r07.Preimage") [.t 57, .t 59, .t 61, .t 62] [], none⟩,
  ⟨some 55, .mov (.t 63), none⟩,
  ⟨some 64, .ext (.t 55) 0, none⟩,
  ⟨some 65, .ext (.t 55) 1, none⟩,
  ⟨some 10, .alloc [.nl 1, .nl 1], none⟩,
  ⟨none, .store 2 (.t 10) (.t 64), none⟩,
  ⟨some 11, .mov (.t 65), none⟩]
def c_l11_PullbackInjective_r9 (F : String → Nat) : List LI := [⟨some 67, .load true 2 (.t 4), none⟩,
  ⟨some 68, .fad 0 (.t 3), none⟩,
  ⟨some 69, .load true 2 (.t 68), none⟩,
  ⟨some 70, .load true 2 (.t 5), none⟩,
  ⟨some 71, .call (F "r07.Image") [.t 67, .t 69, .t 70] [], none⟩,
  ⟨some 66, .mov (.t 71), none⟩,
  ⟨some 72, .ext (.t 66) 0, none⟩,
  ⟨some 73, .ext (.t 66) 1, none⟩,
  ⟨some 12, .alloc [.nl 1, .nl 1], none⟩,
  ⟨none, .store 2 (.t 12) (.t 72), none⟩,
  ⟨some 13, .mov (.t 73), none⟩]
def c_l11_PullbackInjective_r10 (F : String → Nat) : List LI := [⟨some 74, .mov (.t 9), none⟩,
  ⟨some 75, .bin .eql (.t 74) (.k (.int .i64 (0))), none⟩,
  ⟨some 76, .mov (.t 75), none⟩,
  ⟨some 77, .mov (.t 11), some (76, true)⟩,
  ⟨some 78, .bin .eql (.t 77) (.k (.int .i64 (0))), some (76, true)⟩,
  ⟨some 79, .pick (.t 76) (.t 78) (.k (.bool false)), none⟩,
  ⟨some 80, .mov (.t 79), none⟩,
  ⟨some 81, .mov (.t 13), some (80, true)⟩,
  ⟨some 82, .bin .eql (.t 81) (.k (.int .i64 (0))), some (80, true)⟩,
  ⟨some 83, .pick (.t 80) (.t 82) (.k (.bool false)), none⟩,
  ⟨some 84, .mov (.t 83), none⟩,
  ⟨some 85, .load true 2 (.t 4), some (84, true)⟩,
  ⟨some 86, .fad 0 (.t 3), some (84, true)⟩,
  ⟨some 87, .load true 2 (.t 86), some (84, true)⟩,
  ⟨some 88, .load true 2 (.t 5), some (84, true)⟩,
  ⟨some 89, .call (F "r06.Injective") [.t 85, .t 87, .t 88] [], some (84, true)⟩,
  ⟨some 90, .pick (.t 84) (.t 89) (.k (.bool false)), none⟩,
  ⟨some 91, .mov (.t 90), none⟩,
  ⟨some 92, .load true 2 (.t 12), some (91, true)⟩,
  ⟨some 93, .load true 2 (.t 10), some (91, true)⟩,
  ⟨some 94, .call (F "r07.Same") [.t 92, .t 93] [], some (91, true)⟩,
  ⟨some 95, .pick (.t 91) (.t 94) (.k (.bool false)), none⟩,
  ⟨some 2, .mov (.t 95), none⟩]
def c_l11_PullbackInjective (F : String → Nat) : LC := (.seq (.reg (c_l11_PullbackInjective_r0 F) [1]) (.seq (.seq (.reg (c_l11_PullbackInjective_r1 F) [1, 20]) (.cond (.t 20) (.seq (.reg (c_l11_PullbackInjective_r2 F) [2]) .ret) .skip)) (.seq (.reg (c_l11_PullbackInjective_r3 F) [3]) (.seq (.reg (c_l11_PullbackInjective_r4 F) [3, 4, 5, 7]) (.seq (.seq (.reg (c_l11_PullbackInjective_r5 F) [3, 4, 5, 7, 42]) (.cond (.t 42) (.seq (.reg (c_l11_PullbackInjective_r6 F) [2]) .ret) .skip)) (.seq (.reg (c_l11_PullbackInjective_r7 F) [3, 4, 5, 8, 9]) (.seq (.reg (c_l11_PullbackInjective_r8 F) [3, 4, 5, 9, 10, 11]) (.seq (.reg (c_l11_PullbackInjective_r9 F) [3, 4, 5, 9, 10, 11, 12, 13]) (.seq (.reg (c_l11_PullbackInjective_r10 F) [2]) .ret)))))))))
def h_l11_PullbackInjective : Hints := ⟨[], fun _ => [], tab [(0, [1]), (1, [1, 20]), (2, [2]), (3, [3]), (4, [3, 4, 5, 7]), (5, [3, 4, 5, 7, 42]), (6, [2]), (7, [3, 4, 5, 8, 9]), (8, [3, 4, 5, 9, 10, 11]), (9, [3, 4, 5, 9, 10, 11, 12, 13]), (10, [2])], tab []⟩

attribute [go_sem] c_r07_has_r0 c_r07_has_r1 c_r07_has_r2 c_r07_has_r3 c_r07_has_r4 c_r07_has_r5 c_r07_has_r7 c_r07_has c_r07_merged_r0 c_r07_merged_r1 c_r07_merged_r2 c_r07_merged_r3 c_r07_merged_r4 c_r07_merged_r5 c_r07_merged_r6 c_r07_merged_r7 c_r07_merged_r9 c_r07_merged c_r07_into_r0 c_r07_into_r1 c_r07_into_r2 c_r07_into_r3 c_r07_into_r4 c_r07_into_r5 c_r07_into_r6 c_r07_into_r8 c_r07_into c_r07_ascending_r0 c_r07_ascending_r1 c_r07_ascending_r2 c_r07_ascending_r3 c_r07_ascending_r4 c_r07_ascending_r5 c_r07_ascending_r6 c_r07_ascending_r7 c_r07_ascending_r9 c_r07_ascending c_r07_Right_r0 c_r07_Right_r1 c_r07_Right_r2 c_r07_Right_r3 c_r07_Right_r4 c_r07_Right_r5 c_r07_Right_r6 c_r07_Right_r7 c_r07_Right_r8 c_r07_Right_r9 c_r07_Right_r10 c_r07_Right_r11 c_r07_Right_r12 c_r07_Right_r14 c_r07_Right c_r07_Image_r0 c_r07_Image_r1 c_r07_Image_r2 c_r07_Image_r3 c_r07_Image_r4 c_r07_Image c_r07_Preimage_r0 c_r07_Preimage_r1 c_r07_Preimage_r2 c_r07_Preimage_r3 c_r07_Preimage_r4 c_r07_Preimage_r5 c_r07_Preimage_r6 c_r07_Preimage_r7 c_r07_Preimage c_l11_PullbackInjective_r0 c_l11_PullbackInjective_r1 c_l11_PullbackInjective_r2 c_l11_PullbackInjective_r3 c_l11_PullbackInjective_r4 c_l11_PullbackInjective_r5 c_l11_PullbackInjective_r6 c_l11_PullbackInjective_r7 c_l11_PullbackInjective_r8 c_l11_PullbackInjective_r9 c_l11_PullbackInjective_r10 c_l11_PullbackInjective
def imgN (l : List Int) (n : Nat) : List Int := sel (fun i : Nat => decide ((i : Int) ∈ l)) n
def intoL (l p : List Int) : List Int := sel (fun i : Nat => decide (gt l i ∈ p)) l.length
def imM (b : G) (m : Mo) : Mo := ⟨imgN m.n b.n.length, imgN m.e b.e.length⟩
def preM (m p : Mo) : Mo := ⟨intoL m.n p.n, intoL m.e p.e⟩
def Asc (l : List Int) (n : Nat) : Prop := ∀ i : Nat, i < l.length → (0 ≤ gt l i ∧ gt l i < n) ∧ (0 < i → gt l ((i : Int) - 1) < gt l i)
structure POk (g : G) (p : Mo) : Prop where
  n : Asc p.n g.n.length
  e : Asc p.e g.e.length
  d : ∀ x ∈ p.e, (gt g.e x).f ∈ p.n ∧ (gt g.e x).o ∈ p.n
section
variable (P : Program) (F : String → Nat)
def K_r07_has : Prop := ∀ (l : List Int) (n : Int), l.length ≤ maxL → FC P (F "r07.has") [.lst 1 (ints l), .int .i64 n] (.bool (decide (n ∈ l))) []
def K_r07_merged : Prop := ∀ (n : Nat) (l : List Int), n ≤ 10000 → l.length ≤ maxL → FC P (F "r07.merged") [.int .i64 n, .lst 1 (ints l), .lst 1 (ints l), .bool false] (.arr 1 (ints (imgN l n))) []
def K_r07_into : Prop := ∀ (l p : List Int), l.length ≤ 10000 → p.length ≤ maxL → FC P (F "r07.into") [.lst 1 (ints l), .lst 1 (ints p)] (.arr 1 (ints (intoL l p))) []
def K_r07_ascending : Prop := ∀ (l : List Int) (n : Nat), l.length ≤ 10000 → Asc l n → FC P (F "r07.ascending") [.lst 1 (ints l), .int .i64 n] (.int .i64 0) []
def K_r07_Right : Prop := ∀ (g : G) (p : Mo), p.n.length ≤ 10000 → p.e.length ≤ 10000 → POk g p → FC P (F "r07.Right") [gD g, mD p] (.int .i64 0) []
def K_r07_Image : Prop := ∀ (a b : G) (m : Mo), validM a b m = 0 → FC P (F "r07.Image") [gD a, gD b, mD m] (.tup [mA (imM b m), .int .i64 0]) []
def K_r07_Preimage : Prop := ∀ (a b : G) (m p : Mo), validM a b m = 0 → p.n.length ≤ 10000 → p.e.length ≤ 10000 → POk b p → FC P (F "r07.Preimage") [gD a, gD b, mD m, mD p] (.tup [mA (preM m p), .int .i64 0]) []
def K_l11_PullbackInjective : Prop := ∀ x : Dt, x.ok → FC P (F "l11.PullbackInjective") [dtD x] (.bool true) []
end
section
variable {P : Program} {F : String → Nat} {α : Type}
theorem mem_take {l : List Int} {n : Int} {i : Nat} (h : i < l.length) : n ∈ l.take (i + 1) ↔ n ∈ l.take i ∨ gt l i = n := by
  rw [take_gt h]; simp [eq_comm]
theorem w_r07_has (l : List Int) (n : Int) (hl : l.length ≤ maxL) : W P (c_r07_has F) (Done [.t 4] [] (.bool (decide (n ∈ l))) []) (init [.lst 1 (ints l), .int .i64 n]) := by
  refine W_of ?_
  unfold maxL at hl
  simp (config := { maxSteps := 1000000 }) (disch := first | omega | (simp only [go_sem]; omega)) only [go_sem, ↓reduceIte]
  refine W_loop (fun i : Nat => ⟨[(0, .lst 1 (ints l)), (1, .int .i64 n), (5, .int .i64 i)], [], 0⟩) (fun i => i ≤ l.length ∧ n ∉ l.take i) (fun i => l.length - i) 0 ?_ ?_ ?_
  · simp (config := { maxSteps := 1000000 }) (disch := first | omega | (simp only [go_sem]; omega)) only [go_sem, ↓reduceIte]
    rfl
  · simp
  · rintro i ⟨hi, hn⟩
    simp (config := { maxSteps := 1000000 }) (disch := first | omega | (simp only [go_sem]; omega)) only [go_sem, ↓reduceIte, c_r07_has_b6]
    refine bran_dec (fun c => ?_) (fun c => ?_)
    · have hm := mem_take (n := n) (l := l) (i := i) (by omega)
      simp (config := { maxSteps := 1000000 }) (disch := first | omega | (simp only [go_sem]; omega)) only [go_sem, ↓reduceIte]
      refine bran_dec (fun d => ?_) (fun d => ?_)
      · have : n ∈ l := by rw [← d]; exact gt_mem (by omega) (by omega)
        simp (config := { maxSteps := 1000000 }) (disch := first | omega | (simp only [go_sem]; omega)) only [go_sem, ↓reduceIte]
        simp [this]
      · simp (config := { maxSteps := 1000000 }) (disch := first | omega | (simp only [go_sem]; omega)) only [go_sem, ↓reduceIte]
        exact ⟨i + 1, by simp, ⟨by omega, fun h => by rcases hm.1 h with h | h; exact hn h; exact d h⟩, by omega⟩
    · obtain rfl : i = l.length := by omega
      rw [List.take_length] at hn
      simp (config := { maxSteps := 1000000 }) (disch := first | omega | (simp only [go_sem]; omega)) only [go_sem, ↓reduceIte]
      simp [hn]
theorem w_r07_merged (hh : K_r07_has P F) (n : Nat) (l : List Int) (hn : n ≤ 10000) (hl : l.length ≤ maxL) : W P (c_r07_merged F) (Done [.t 8] [] (.arr 1 (ints (imgN l n))) []) (init [.int .i64 n, .lst 1 (ints l), .lst 1 (ints l), .bool false]) := by
  refine W_of ?_
  simp (config := { maxSteps := 1000000 }) (disch := first | omega | (simp only [go_sem]; omega)) only [go_sem, ↓reduceIte]
  refine W_loop (fun i : Nat => ⟨[(0, .int .i64 n), (1, .lst 1 (ints l)), (2, .lst 1 (ints l)), (3, .bool false), (9, .sl 0 0 (imgN l i).length), (10, .int .i64 i)], [(0, .arr 1 (ints (imgN l i)))], 1⟩) (fun i => i ≤ n) (fun i => n - i) 0 ?_ ?_ ?_
  · simp (config := { maxSteps := 1000000 }) (disch := first | omega | (simp only [go_sem]; omega)) only [go_sem, ↓reduceIte, imgN, sel_zero]
    rfl
  · simp
  · intro i hi
    have e1 : (imgN l i).length ≤ i := sel_len _ i
    have hs : imgN l (i + 1) = if decide ((i : Int) ∈ l) = true then imgN l i ++ [(i : Int)] else imgN l i := sel_succ _ i
    simp (config := { maxSteps := 1000000 }) (disch := first | omega | (simp only [go_sem]; omega)) only [go_sem, ↓reduceIte, c_r07_merged_b8]
    refine bran_dec (fun c => ?_) (fun c => ?_)
    · have r := hh l i hl
      generalize decide ((i : Int) ∈ l) = b at *
      simp (config := { maxSteps := 1000000 }) (disch := first | omega | (simp only [go_sem]; omega)) only [go_sem, ↓reduceIte]
      refine call_by r ?_
      simp (config := { maxSteps := 1000000 }) (disch := first | omega | (simp only [go_sem]; omega)) only [go_sem, ↓reduceIte]
      refine call_by r ?_
      cases b
      · simp (config := { maxSteps := 1000000 }) (disch := first | omega | (simp only [go_sem]; omega)) only [go_sem, ↓reduceIte]
        exact ⟨i + 1, by simp [hs], by omega, by omega⟩
      · simp (config := { maxSteps := 1000000 }) (disch := first | omega | (simp only [go_sem]; omega)) only [go_sem, ↓reduceIte]
        exact ⟨i + 1, by simp [hs], by omega, by omega⟩
    · obtain rfl : i = n := by omega
      simp (config := { maxSteps := 1000000 }) (disch := first | omega | (simp only [go_sem]; omega)) only [go_sem, ↓reduceIte]
      try rfl
theorem w_r07_into (hh : K_r07_has P F) (l p : List Int) (hl : l.length ≤ 10000) (hp : p.length ≤ maxL) : W P (c_r07_into F) (Done [.t 4] [] (.arr 1 (ints (intoL l p))) []) (init [.lst 1 (ints l), .lst 1 (ints p)]) := by
  refine W_of ?_
  simp (config := { maxSteps := 1000000 }) (disch := first | omega | (simp only [go_sem]; omega)) only [go_sem, ↓reduceIte]
  refine W_loop (fun i : Nat => ⟨[(0, .lst 1 (ints l)), (1, .lst 1 (ints p)), (5, .sl 0 0 (sel (fun i : Nat => decide (gt l i ∈ p)) i).length), (6, .int .i64 i)], [(0, .arr 1 (ints (sel (fun i : Nat => decide (gt l i ∈ p)) i)))], 1⟩) (fun i => i ≤ l.length) (fun i => l.length - i) 0 ?_ ?_ ?_
  · simp (config := { maxSteps := 1000000 }) (disch := first | omega | (simp only [go_sem]; omega)) only [go_sem, ↓reduceIte, sel_zero]
    rfl
  · simp
  · intro i hi
    have e1 := sel_len (fun i : Nat => decide (gt l i ∈ p)) i
    have hs := sel_succ (fun i : Nat => decide (gt l i ∈ p)) i
    simp (config := { maxSteps := 1000000 }) (disch := first | omega | (simp only [go_sem]; omega)) only [go_sem, ↓reduceIte, c_r07_into_b7]
    refine bran_dec (fun c => ?_) (fun c => ?_)
    · have r := hh p (gt l i) hp
      generalize decide (gt l i ∈ p) = b at *
      simp (config := { maxSteps := 1000000 }) (disch := first | omega | (simp only [go_sem]; omega)) only [go_sem, ↓reduceIte]
      refine call_by r ?_
      cases b
      · simp (config := { maxSteps := 1000000 }) (disch := first | omega | (simp only [go_sem]; omega)) only [go_sem, ↓reduceIte]
        exact ⟨i + 1, by simp [hs], by omega, by omega⟩
      · simp (config := { maxSteps := 1000000 }) (disch := first | omega | (simp only [go_sem]; omega)) only [go_sem, ↓reduceIte]
        exact ⟨i + 1, by simp [hs], by omega, by omega⟩
    · obtain rfl : i = l.length := by omega
      simp (config := { maxSteps := 1000000 }) (disch := first | omega | (simp only [go_sem]; omega)) only [go_sem, ↓reduceIte]
      try rfl
theorem w_r07_ascending (l : List Int) (n : Nat) (hl : l.length ≤ 10000) (ha : Asc l n) : W P (c_r07_ascending F) (Done [.t 4] [] (.int .i64 0) []) (init [.lst 1 (ints l), .int .i64 n]) := by
  refine W_of ?_
  simp (config := { maxSteps := 1000000 }) (disch := first | omega | (simp only [go_sem]; omega)) only [go_sem, ↓reduceIte]
  refine W_loop (fun i : Nat => ⟨[(0, .lst 1 (ints l)), (1, .int .i64 n), (5, .int .i64 i)], [], 0⟩) (fun i => i ≤ l.length) (fun i => l.length - i) 0 ?_ ?_ ?_
  · simp (config := { maxSteps := 1000000 }) (disch := first | omega | (simp only [go_sem]; omega)) only [go_sem, ↓reduceIte]
    rfl
  · simp
  · intro i hi
    by_cases c : i < l.length
    · obtain ⟨⟨h1, h2⟩, h3⟩ := ha i c
      have g0 : decide ((i : Int) < l.length) = true := decide_eq_true (by omega)
      have g1 : decide (gt l i < 0) = false := decide_eq_false (by omega)
      have g2 : decide ((n : Int) ≤ gt l i) = false := decide_eq_false (by omega)
      by_cases d : 0 < i
      · have h3 := h3 d
        have g3 : decide ((0 : Int) < i) = true := decide_eq_true (by omega)
        have g4 : decide (gt l i ≤ gt l ((i : Int) - 1)) = false := decide_eq_false (by omega)
        simp (config := { maxSteps := 1000000 }) (disch := first | omega | (simp only [go_sem]; omega)) only [go_sem, ↓reduceIte, c_r07_ascending_b8, g0, g1, g2, g3, g4]
        exact ⟨i + 1, by simp, by omega, by omega⟩
      · have g3 : decide ((0 : Int) < i) = false := decide_eq_false (by omega)
        simp (config := { maxSteps := 1000000 }) (disch := first | omega | (simp only [go_sem]; omega)) only [go_sem, ↓reduceIte, c_r07_ascending_b8, g0, g1, g2, g3]
        exact ⟨i + 1, by simp, by omega, by omega⟩
    · have g0 : decide ((i : Int) < l.length) = false := decide_eq_false (by omega)
      simp (config := { maxSteps := 1000000 }) (disch := first | omega | (simp only [go_sem]; omega)) only [go_sem, ↓reduceIte, c_r07_ascending_b8, g0]
theorem w_r07_Right (ha : K_r07_ascending P F) (hh : K_r07_has P F) (g : G) (p : Mo) (l1 : p.n.length ≤ 10000) (l2 : p.e.length ≤ 10000) (hp : POk g p) : W P (c_r07_Right F) (Done [.t 4] [] (.int .i64 0) []) (init [gD g, mD p]) := by
  refine W_of ?_
  have r1 := ha p.n g.n.length l1 hp.n
  have r2 := ha p.e g.e.length l2 hp.e
  have hb := hp.e
  have hd : ∀ i : Nat, i < p.e.length → (gt g.e (gt p.e i)).f ∈ p.n ∧ (gt g.e (gt p.e i)).o ∈ p.n := fun i hi => hp.d _ (gt_mem (by omega) (by omega))
  have hr := fun n => hh p.n n (by unfold maxL; omega)
  obtain ⟨gn, ge⟩ := g
  obtain ⟨pn, pe⟩ := p
  simp only [gD, mD] at *
  simp (config := { maxSteps := 1000000 }) (disch := first | omega | (simp only [go_sem]; omega)) only [go_sem, ↓reduceIte]
  refine call_by r1 ?_
  simp (config := { maxSteps := 1000000 }) (disch := first | omega | (simp only [go_sem]; omega)) only [go_sem, ↓reduceIte]
  refine call_by r2 ?_
  simp (config := { maxSteps := 1000000 }) (disch := first | omega | (simp only [go_sem]; omega)) only [go_sem, ↓reduceIte]
  refine W_loop (fun i : Nat => ⟨[(2, .pt 0 0), (3, .pt 1 0), (7, .int .i64 i)], [(0, .box [.lst 1 (ints gn), .lst 3 (eds ge)]), (1, .box [.lst 1 (ints pn), .lst 1 (ints pe)])], 2⟩) (fun i => i ≤ pe.length) (fun i => pe.length - i) 0 ?_ ?_ ?_
  · simp (config := { maxSteps := 1000000 }) (disch := first | omega | (simp only [go_sem]; omega)) only [go_sem, ↓reduceIte]
    rfl
  · simp
  · intro i hi
    simp (config := { maxSteps := 1000000 }) (disch := first | omega | (simp only [go_sem]; omega)) only [go_sem, ↓reduceIte, c_r07_Right_b13]
    refine bran_dec (fun c => ?_) (fun c => ?_)
    · have hx := (hb i (by omega)).1
      obtain ⟨d1, d2⟩ := hd i (by omega)
      have q1 := hr (gt ge (gt pe i)).f
      have q2 := hr (gt ge (gt pe i)).o
      rw [decide_eq_true d1] at q1
      rw [decide_eq_true d2] at q2
      simp (config := { maxSteps := 1000000 }) (disch := first | omega | (simp only [go_sem]; omega)) only [go_sem, ↓reduceIte]
      refine call_by q1 ?_
      simp (config := { maxSteps := 1000000 }) (disch := first | omega | (simp only [go_sem]; omega)) only [go_sem, ↓reduceIte]
      refine call_by q2 ?_
      simp (config := { maxSteps := 1000000 }) (disch := first | omega | (simp only [go_sem]; omega)) only [go_sem, ↓reduceIte]
      exact ⟨i + 1, by simp, by omega, by omega⟩
    · simp (config := { maxSteps := 1000000 }) (disch := first | omega | (simp only [go_sem]; omega)) only [go_sem, ↓reduceIte]
theorem w_r07_Image (hv : K_r06_Valid P F) (hm : K_r07_merged P F) (a b : G) (m : Mo) (h : validM a b m = 0) : W P (c_r07_Image F) (Done [.c 6 true 2, .t 7] [] (.tup [mA (imM b m), .int .i64 0]) []) (init [gD a, gD b, mD m]) := by
  refine W_of ?_
  have r0 := hv a b m
  rw [h] at r0
  obtain ⟨a1, a2, a3, a4, _⟩ := validM_spec h
  have va := valid_spec a1
  have vb := valid_spec a2
  have r1 := hm b.n.length m.n (by omega) (by unfold maxL; omega)
  have r2 := hm b.e.length m.e (by omega) (by unfold maxL; omega)
  unfold imM
  generalize imgN m.n b.n.length = q1 at *
  generalize imgN m.e b.e.length = q2 at *
  simp only [gD, mD, mA] at *
  simp (config := { maxSteps := 1000000 }) (disch := first | omega | (simp only [go_sem]; omega)) only [go_sem, ↓reduceIte]
  refine call_by r0 ?_
  simp (config := { maxSteps := 1000000 }) (disch := first | omega | (simp only [go_sem]; omega)) only [go_sem, ↓reduceIte]
  refine call_by r1 ?_
  simp (config := { maxSteps := 1000000 }) (disch := first | omega | (simp only [go_sem]; omega)) only [go_sem, ↓reduceIte]
  refine call_by r2 ?_
  simp (config := { maxSteps := 1000000 }) (disch := first | omega | (simp only [go_sem]; omega)) only [go_sem, ↓reduceIte]
  try rfl
theorem w_r07_Preimage (hv : K_r06_Valid P F) (hr : K_r07_Right P F) (hm : K_r07_into P F) (a b : G) (m p : Mo) (h : validM a b m = 0) (l1 : p.n.length ≤ 10000) (l2 : p.e.length ≤ 10000) (hp : POk b p) : W P (c_r07_Preimage F) (Done [.c 8 true 2, .t 9] [] (.tup [mA (preM m p), .int .i64 0]) []) (init [gD a, gD b, mD m, mD p]) := by
  refine W_of ?_
  have r0 := hv a b m
  rw [h] at r0
  obtain ⟨a1, a2, a3, a4, _⟩ := validM_spec h
  have va := valid_spec a1
  have vb := valid_spec a2
  have r3 := hr b p l1 l2 hp
  have r1 := hm m.n p.n (by omega) (by unfold maxL; omega)
  have r2 := hm m.e p.e (by omega) (by unfold maxL; omega)
  unfold preM
  generalize intoL m.n p.n = q1 at *
  generalize intoL m.e p.e = q2 at *
  simp only [gD, mD, mA] at *
  simp (config := { maxSteps := 1000000 }) (disch := first | omega | (simp only [go_sem]; omega)) only [go_sem, ↓reduceIte]
  refine call_by r0 ?_
  simp (config := { maxSteps := 1000000 }) (disch := first | omega | (simp only [go_sem]; omega)) only [go_sem, ↓reduceIte]
  refine call_by r3 ?_
  simp (config := { maxSteps := 1000000 }) (disch := first | omega | (simp only [go_sem]; omega)) only [go_sem, ↓reduceIte]
  refine call_by r1 ?_
  simp (config := { maxSteps := 1000000 }) (disch := first | omega | (simp only [go_sem]; omega)) only [go_sem, ↓reduceIte]
  refine call_by r2 ?_
  simp (config := { maxSteps := 1000000 }) (disch := first | omega | (simp only [go_sem]; omega)) only [go_sem, ↓reduceIte]
  try rfl
theorem sel_mem {p : Nat → Bool} {n : Nat} {y : Int} : y ∈ sel p n ↔ ∃ k : Nat, k < n ∧ p k = true ∧ y = k := by
  unfold sel
  simp only [List.mem_map, List.mem_filter, List.mem_range]
  constructor
  · rintro ⟨k, ⟨h1, h2⟩, rfl⟩; exact ⟨k, h1, h2, rfl⟩
  · rintro ⟨k, h1, h2, rfl⟩; exact ⟨k, ⟨h1, h2⟩, rfl⟩
theorem sel_lt (p : Nat → Bool) (n : Nat) : (sel p n).Pairwise (· < ·) := by
  unfold sel
  rw [List.pairwise_map]
  exact ((List.pairwise_lt_range (n := n)).filter _).imp fun h => by omega
theorem sel_asc (p : Nat → Bool) (n : Nat) : Asc (sel p n) n := fun i hi => by
  obtain ⟨k, h1, _, h2⟩ := sel_mem.1 (gt_mem (l := sel p n) (j := i) (by omega) (by omega))
  refine ⟨by omega, fun h0 => ?_⟩
  obtain ⟨j, rfl⟩ : ∃ j, i = j + 1 := ⟨i - 1, by omega⟩
  have := (List.pairwise_iff_getElem.1 (sel_lt p n)) j (j + 1) (by omega) hi (by omega)
  rw [show ((j + 1 : Nat) : Int) - 1 = (j : Int) by omega, gt_nat (show j < (sel p n).length by omega), gt_nat hi]
  exact this
theorem img_mem {l : List Int} {n : Nat} {y : Int} : y ∈ imgN l n ↔ (0 ≤ y ∧ y < n) ∧ y ∈ l := by
  unfold imgN
  rw [sel_mem]
  constructor
  · rintro ⟨k, h1, h2, rfl⟩; exact ⟨by omega, by simpa using h2⟩
  · rintro ⟨h, h2⟩
    obtain ⟨k, rfl⟩ : ∃ k : Nat, y = k := ⟨y.toNat, by omega⟩
    exact ⟨k, by omega, by simpa using h2, rfl⟩
theorem img_len (l : List Int) (n : Nat) : (imgN l n).length ≤ n := sel_len _ _
theorem img_ok {a b : G} {m : Mo} (h : MOk a b m) : POk b (imM b m) := by
  refine ⟨sel_asc _ _, sel_asc _ _, fun x hx => ?_⟩
  have hx := (img_mem.1 hx).2
  obtain ⟨j, hj, rfl⟩ := mem_gt hx
  have l1 := h.ln
  have l2 := h.le
  obtain ⟨_, _, h3, h4⟩ := h.ed j (by omega)
  obtain ⟨_, f1, f2⟩ := edge_fits h.va (i := j) (by omega)
  obtain ⟨p, hp, hp2⟩ := gtI f1
  obtain ⟨q, hq, hq2⟩ := gtI f2
  rw [← h3, ← h4, hp2, hq2]
  exact ⟨img_mem.2 ⟨(h.nd p hp).1, gt_mem (by omega) (by omega)⟩, img_mem.2 ⟨(h.nd q hq).1, gt_mem (by omega) (by omega)⟩⟩
theorem pairs_pre {f g : List Int} {n : Nat} (hf : ∀ x ∈ f, 0 ≤ x ∧ x < n) : imgN (asA (pairsL f g)) f.length = intoL f (imgN g n) := by
  unfold intoL
  rw [imgN]
  unfold sel
  congr 1
  refine List.filter_congr fun i hi => ?_
  simp only [List.mem_range] at hi
  rw [decide_eq_decide, img_mem]
  have hb := hf _ (gt_mem (l := f) (j := i) (by omega) (by omega))
  constructor
  · intro h
    simp only [asA, List.mem_map] at h
    obtain ⟨q, hq, hq2⟩ := h
    obtain ⟨b1, b2⟩ := pairsL_bd hq
    have := (pairsL_in b1 b2).1 hq
    rw [hq2] at this
    exact ⟨hb, by rw [this]; exact gt_mem b2.1 b2.2⟩
  · rintro ⟨_, h⟩
    obtain ⟨k, hk, hk2⟩ := mem_gt h
    have := (pairsL_in (f := f) (g := g) (a := i) (b := k) (by omega) (by omega)).2 hk2.symm
    simp only [asA, List.mem_map]
    exact ⟨_, this, rfl⟩
theorem pairs_inj {f g : List Int} (hg : g.Nodup) : (asA (pairsL f g)).Nodup := by
  refine nodup_mk fun i j hi hj e => ?_
  have hl : (asA (pairsL f g)).length = (pairsL f g).length := by simp [asA]
  have hA : ∀ (l : List Pr) (i : Nat), i < l.length → gt (asA l) i = (gt l i).a := fun l i hi => gt_map hi
  rw [hl] at hi hj
  rw [hA _ i hi, hA _ j hj] at e
  have m1 := gt_mem (l := pairsL f g) (j := i) (by omega) (by omega)
  have m2 := gt_mem (l := pairsL f g) (j := j) (by omega) (by omega)
  obtain ⟨b1, b2⟩ := pairsL_bd m1
  obtain ⟨b3, b4⟩ := pairsL_bd m2
  have q1 := (pairsL_in b1 b2).1 m1
  have q2 := (pairsL_in b3 b4).1 m2
  rw [e, q2] at q1
  obtain ⟨k, hk, hk2⟩ := gtI b2
  obtain ⟨k', hk', hk2'⟩ := gtI b4
  rw [hk2, hk2'] at q1
  have := gt_inj hg hk' hk q1
  exact gt_inj (pairsL_nodup f g) hi hj ((eqPr _ _).2 ⟨e, by rw [hk2, hk2', this]⟩)
theorem inj_pb {s : Cs} (e : pbErr s = 0) (hi : injM s.c s.d s.g = true) : injM (pbG0 s) s.b ⟨asA (pbN s), asA (pbE s)⟩ = true ∧ imM s.b ⟨asA (pbN s), asA (pbE s)⟩ = preM s.f (imM s.d s.g) := by
  have pb := pb_of e
  unfold injM at hi
  simp only [Bool.and_eq_true, distinct, decide_eq_true_eq] at hi
  have b := validM_bd (mok.2 pb.f)
  constructor
  · unfold injM
    rw [mok.2 pb.p]
    simp only [distinct, Bool.and_eq_true, decide_eq_true_eq]
    exact ⟨trivial, pairs_inj hi.2.1, pairs_inj hi.2.2⟩
  · unfold imM preM
    simp only [Mo.mk.injEq]
    rw [← pb.f.ln, ← pb.f.le]
    exact ⟨pairs_pre b.1, pairs_pre b.2⟩
set_option maxHeartbeats 2000000 in
theorem w_l11_PullbackInjective (hw : K_l11_awake P F) (hf : K_l11_few P F) (hm : K_r11_Made P F) (ho : K_pullback_Of P F) (hi : K_r06_Injective P F) (him : K_r07_Image P F) (hpr : K_r07_Preimage P F) (hs : K_r07_Same P F) (x : Dt) (hx : x.ok) : W P (c_l11_PullbackInjective F) (Done [.t 2] [] (.bool true) []) (init [dtD x]) := by
  refine W_of ?_
  have f1 := hf x hx
  have r1 := hm x hx
  have hmad := @made_ok x hx
  generalize fewD x = fw at *
  generalize madeC x = s at *
  cases fw with
  | false =>
    obtain ⟨⟨xn, xe⟩, ⟨zn, ze⟩, ⟨vn, ve⟩⟩ := x
    simp only [dtD] at *
    simp (config := { maxSteps := 1000000 }) (disch := first | omega | (simp only [go_sem]; omega)) only [go_sem, ↓reduceIte]
    refine call_by hw ?_
    simp (config := { maxSteps := 1000000 }) (disch := first | omega | (simp only [go_sem]; omega)) only [go_sem, ↓reduceIte]
    refine call_by f1 ?_
    simp (config := { maxSteps := 1000000 }) (disch := first | omega | (simp only [go_sem]; omega)) only [go_sem, ↓reduceIte]
    refine call_by hw ?_
    simp (config := { maxSteps := 1000000 }) (disch := first | omega | (simp only [go_sem]; omega)) only [go_sem, ↓reduceIte]
  | true =>
    have hmad := hmad rfl
    have e0 := hmad.err
    have pb := pb_of e0
    have r2 := ho s
    have e1 : pbG s = pbG0 s := by simp [pbG, e0]
    have e2 : pbP s = ⟨asA (pbN s), asA (pbE s)⟩ := by simp [pbP, e0]
    have e3 : pbQ s = ⟨asB (pbN s), asB (pbE s)⟩ := by simp [pbQ, e0]
    rw [e1, e2, e3, e0] at r2
    have gl := validM_len (mok.2 pb.g)
    have fl := validM_len (mok.2 pb.f)
    have pl := validM_len (mok.2 pb.p)
    have r3 := hi s.c s.d s.g (by unfold maxL; omega) (by unfold maxL; omega)
    have hin := @inj_pb s e0
    have r4 := him s.c s.d s.g (mok.2 pb.g)
    have vd := valid_spec pb.f.vb
    have vb := valid_spec pb.f.va
    have n1 : (imM s.d s.g).n.length ≤ 40 ∧ (imM s.d s.g).e.length ≤ 80 := ⟨Nat.le_trans (img_len _ _) (by omega), Nat.le_trans (img_len _ _) (by omega)⟩
    have r5 := hpr s.b s.d s.f (imM s.d s.g) (mok.2 pb.f) (by omega) (by omega) (img_ok pb.g)
    have r6 := him (pbG0 s) s.b ⟨asA (pbN s), asA (pbE s)⟩ (mok.2 pb.p)
    have r7 := hi (pbG0 s) s.b ⟨asA (pbN s), asA (pbE s)⟩ (by unfold maxL; omega) (by unfold maxL; omega)
    have n2 : (imM s.b ⟨asA (pbN s), asA (pbE s)⟩).n.length ≤ 40 ∧ (imM s.b ⟨asA (pbN s), asA (pbE s)⟩).e.length ≤ 80 := ⟨Nat.le_trans (img_len _ _) (by omega), Nat.le_trans (img_len _ _) (by omega)⟩
    have r8 := hs (imM s.b ⟨asA (pbN s), asA (pbE s)⟩) (preM s.f (imM s.d s.g)) (by unfold maxL; omega) (by unfold maxL; omega)
    clear e1 e2 e3 hmad gl fl pl pb
    generalize (⟨asA (pbN s), asA (pbE s)⟩ : Mo) = pm at *
    generalize (⟨asB (pbN s), asB (pbE s)⟩ : Mo) = qm at *
    generalize preM s.f (imM s.d s.g) = pr at *
    generalize imM s.d s.g = im at *
    generalize imM s.b pm = ip at *
    generalize injM (pbG0 s) s.b pm = b1 at *
    generalize injM s.c s.d s.g = b2 at *
    generalize pbG0 s = ag at *
    obtain ⟨⟨bn, be⟩, ⟨cn, ce⟩, ⟨dn, de⟩, ⟨fn, fe⟩, ⟨gn, ge⟩⟩ := s
    obtain ⟨⟨xn, xe⟩, ⟨zn, ze⟩, ⟨vn, ve⟩⟩ := x
    obtain ⟨agn, age⟩ := ag
    obtain ⟨pn, pe⟩ := pm
    obtain ⟨qn, qe⟩ := qm
    obtain ⟨imn, ime⟩ := im
    obtain ⟨ipn, ipe⟩ := ip
    obtain ⟨prn, pre⟩ := pr
    cases b2 with
    | false =>
      simp only [csA, csD, gD, gA, mD, mA, dtD, drD] at *
      simp (config := { maxSteps := 1000000 }) (disch := first | omega | (simp only [go_sem]; omega)) only [go_sem, ↓reduceIte]
      refine call_by hw ?_
      simp (config := { maxSteps := 1000000 }) (disch := first | omega | (simp only [go_sem]; omega)) only [go_sem, ↓reduceIte]
      refine call_by f1 ?_
      simp (config := { maxSteps := 1000000 }) (disch := first | omega | (simp only [go_sem]; omega)) only [go_sem, ↓reduceIte]
      refine call_by r1 ?_
      simp (config := { maxSteps := 1000000 }) (disch := first | omega | (simp only [go_sem]; omega)) only [go_sem, ↓reduceIte]
      refine call_by r2 ?_
      simp (config := { maxSteps := 1000000 }) (disch := first | omega | (simp only [go_sem]; omega)) only [go_sem, ↓reduceIte]
      refine call_by r3 ?_
      simp (config := { maxSteps := 1000000 }) (disch := first | omega | (simp only [go_sem]; omega)) only [go_sem, ↓reduceIte]
      try simp
    | true =>
      obtain ⟨i1, i2⟩ := hin rfl
      subst i1
      rw [decide_eq_true i2] at r8
      simp only [csA, csD, gD, gA, mD, mA, dtD, drD] at *
      simp (config := { maxSteps := 1000000 }) (disch := first | omega | (simp only [go_sem]; omega)) only [go_sem, ↓reduceIte]
      refine call_by hw ?_
      simp (config := { maxSteps := 1000000 }) (disch := first | omega | (simp only [go_sem]; omega)) only [go_sem, ↓reduceIte]
      refine call_by f1 ?_
      simp (config := { maxSteps := 1000000 }) (disch := first | omega | (simp only [go_sem]; omega)) only [go_sem, ↓reduceIte]
      refine call_by r1 ?_
      simp (config := { maxSteps := 1000000 }) (disch := first | omega | (simp only [go_sem]; omega)) only [go_sem, ↓reduceIte]
      refine call_by r2 ?_
      simp (config := { maxSteps := 1000000 }) (disch := first | omega | (simp only [go_sem]; omega)) only [go_sem, ↓reduceIte]
      refine call_by r3 ?_
      simp (config := { maxSteps := 1000000 }) (disch := first | omega | (simp only [go_sem]; omega)) only [go_sem, ↓reduceIte]
      refine call_by r4 ?_
      simp (config := { maxSteps := 1000000 }) (disch := first | omega | (simp only [go_sem]; omega)) only [go_sem, ↓reduceIte]
      refine call_by r5 ?_
      simp (config := { maxSteps := 1000000 }) (disch := first | omega | (simp only [go_sem]; omega)) only [go_sem, ↓reduceIte]
      refine call_by r6 ?_
      simp (config := { maxSteps := 1000000 }) (disch := first | omega | (simp only [go_sem]; omega)) only [go_sem, ↓reduceIte]
      refine call_by r7 ?_
      simp (config := { maxSteps := 1000000 }) (disch := first | omega | (simp only [go_sem]; omega)) only [go_sem, ↓reduceIte]
      refine call_by r8 ?_
      simp (config := { maxSteps := 1000000 }) (disch := first | omega | (simp only [go_sem]; omega)) only [go_sem, ↓reduceIte]
      try simp
theorem x_l11_PullbackInjective (h : K_l11_PullbackInjective P F) (args : List D) (ha : HasEls [shDt] args) : FC P (F "l11.PullbackInjective") args (.bool true) [] := by
  simp only [HasEls] at ha
  obtain ⟨_, _, rfl, h1, rfl⟩ := ha
  obtain ⟨s, rfl, k1⟩ := rd_dt h1
  exact h s k1
end
end Go.Am
