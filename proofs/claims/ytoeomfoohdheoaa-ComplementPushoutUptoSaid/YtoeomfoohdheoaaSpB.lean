/- Parts of graphs: whether they are right; membership. -/
import Derived.Test.YtoeomfoohdheoaaSpA
import Derived.Test.YtoeomfoohdheoaaSoPa
namespace Go.Am
open Go
set_option linter.unusedVariables false
set_option linter.unusedSimpArgs false
attribute [local irreducible] W
/- cmp.isNaN.I -/
def c_cmp_isNaN_I_r0 (F : String → Nat) : List LI := [⟨some 2, .mov (.k (.bool false)), none⟩]
def c_cmp_isNaN_I_r1 (F : String → Nat) : List LI := [⟨some 3, .mov (.t 0), none⟩,
  ⟨some 4, .mov (.t 0), none⟩,
  ⟨some 5, .bin .neq (.t 3) (.t 4), none⟩,
  ⟨some 2, .mov (.t 5), none⟩]
def c_cmp_isNaN_I (F : String → Nat) : LC := (.seq (.reg (c_cmp_isNaN_I_r0 F) [0]) (.seq (.reg (c_cmp_isNaN_I_r1 F) [2]) .ret))
def h_cmp_isNaN_I : Hints := ⟨[], fun _ => [], tab [(0, [0]), (1, [2])], tab []⟩

/- cmp.Less.I -/
def c_cmp_Less_I_r0 (F : String → Nat) : List LI := [⟨some 4, .mov (.k (.bool false)), none⟩]
def c_cmp_Less_I_r1 (F : String → Nat) : List LI := [⟨some 5, .mov (.t 0), none⟩,
  ⟨some 6, .call (F "cmp.isNaN.I") [.t 5] [], none⟩,
  ⟨some 7, .mov (.t 6), none⟩,
  ⟨some 8, .mov (.t 1), some (7, true)⟩,
  ⟨some 9, .call (F "cmp.isNaN.I") [.t 8] [], some (7, true)⟩,
  ⟨some 10, .not (.t 9), some (7, true)⟩,
  ⟨some 11, .pick (.t 7) (.t 10) (.k (.bool false)), none⟩,
  ⟨some 12, .mov (.t 11), none⟩,
  ⟨some 13, .mov (.t 0), some (12, false)⟩,
  ⟨some 14, .mov (.t 1), some (12, false)⟩,
  ⟨some 15, .bin .lss (.t 13) (.t 14), some (12, false)⟩,
  ⟨some 16, .pick (.t 12) (.k (.bool true)) (.t 15), none⟩,
  ⟨some 4, .mov (.t 16), none⟩]
def c_cmp_Less_I (F : String → Nat) : LC := (.seq (.reg (c_cmp_Less_I_r0 F) [0, 1]) (.seq (.reg (c_cmp_Less_I_r1 F) [4]) .ret))
def h_cmp_Less_I : Hints := ⟨[], fun _ => [], tab [(0, [0, 1]), (1, [4])], tab []⟩

/- slices.isNaN.I -/
def c_slices_isNaN_I_r0 (F : String → Nat) : List LI := [⟨some 2, .mov (.k (.bool false)), none⟩]
def c_slices_isNaN_I_r1 (F : String → Nat) : List LI := [⟨some 3, .mov (.t 0), none⟩,
  ⟨some 4, .mov (.t 0), none⟩,
  ⟨some 5, .bin .neq (.t 3) (.t 4), none⟩,
  ⟨some 2, .mov (.t 5), none⟩]
def c_slices_isNaN_I (F : String → Nat) : LC := (.seq (.reg (c_slices_isNaN_I_r0 F) [0]) (.seq (.reg (c_slices_isNaN_I_r1 F) [2]) .ret))
def h_slices_isNaN_I : Hints := ⟨[], fun _ => [], tab [(0, [0]), (1, [2])], tab []⟩

/- slices.BinarySearch.I -/
def c_slices_BinarySearch_I_r0 (F : String → Nat) : List LI := [⟨some 4, .mov (.k (.int .i64 (0))), none⟩,
  ⟨some 5, .mov (.k (.bool false)), none⟩]
def c_slices_BinarySearch_I_r1 (F : String → Nat) : List LI := [⟨some 10, .mov (.t 0), none⟩,
  ⟨some 11, .len (.t 10), none⟩,
  ⟨some 6, .mov (.t 11), none⟩]
def c_slices_BinarySearch_I_r2 (F : String → Nat) : List LI := [⟨some 12, .mov (.t 6), none⟩,
  ⟨some 7, .mov (.k (.int .i64 (0))), none⟩,
  ⟨some 8, .mov (.t 12), none⟩]
def c_slices_BinarySearch_I_r3 (F : String → Nat) : List LI := [⟨some 13, .mov (.t 7), none⟩,
  ⟨some 14, .mov (.t 8), none⟩,
  ⟨some 15, .bin .lss (.t 13) (.t 14), none⟩]
def c_slices_BinarySearch_I_r4 (F : String → Nat) : List LI := [⟨some 16, .mov (.t 7), none⟩,
  ⟨some 17, .mov (.t 8), none⟩,
  ⟨some 18, .bin .add (.t 16) (.t 17), none⟩,
  ⟨some 19, .conv .u64 (.t 18), none⟩,
  ⟨some 20, .bin .shr (.t 19) (.k (.int .u64 (1))), none⟩,
  ⟨some 21, .conv .i64 (.t 20), none⟩,
  ⟨some 9, .mov (.t 21), none⟩]
def c_slices_BinarySearch_I_r5 (F : String → Nat) : List LI := [⟨some 22, .mov (.t 0), none⟩,
  ⟨some 23, .mov (.t 9), none⟩,
  ⟨some 24, .iad 1 (.t 22) (.t 23), none⟩,
  ⟨some 25, .load false 1 (.t 24), none⟩,
  ⟨some 26, .mov (.t 1), none⟩,
  ⟨some 27, .call (F "cmp.Less.I") [.t 25, .t 26] [], none⟩]
def c_slices_BinarySearch_I_r6 (F : String → Nat) : List LI := [⟨some 28, .mov (.t 9), none⟩,
  ⟨some 29, .bin .add (.t 28) (.k (.int .i64 (1))), none⟩,
  ⟨some 7, .mov (.t 29), none⟩]
def c_slices_BinarySearch_I_r7 (F : String → Nat) : List LI := [⟨some 30, .mov (.t 9), none⟩,
  ⟨some 8, .mov (.t 30), none⟩]
def c_slices_BinarySearch_I_b8 (F : String → Nat) : LC := (.seq (.seq (.reg (c_slices_BinarySearch_I_r3 F) [0, 1, 6, 7, 8, 15]) (.cond (.t 15) .skip (.exit 0))) (.block 1 (.seq (.reg (c_slices_BinarySearch_I_r4 F) [0, 1, 6, 7, 8, 9]) (.seq (.reg (c_slices_BinarySearch_I_r5 F) [0, 1, 6, 7, 8, 9, 27]) (.cond (.t 27) (.reg (c_slices_BinarySearch_I_r6 F) [0, 1, 6, 7, 8]) (.reg (c_slices_BinarySearch_I_r7 F) [0, 1, 6, 7, 8]))))))
def c_slices_BinarySearch_I_r9 (F : String → Nat) : List LI := [⟨some 31, .mov (.t 7), none⟩,
  ⟨some 32, .mov (.t 7), none⟩,
  ⟨some 33, .mov (.t 6), none⟩,
  ⟨some 34, .bin .lss (.t 32) (.t 33), none⟩,
  ⟨some 35, .mov (.t 34), none⟩,
  ⟨some 36, .mov (.t 0), some (35, true)⟩,
  ⟨some 37, .mov (.t 7), some (35, true)⟩,
  ⟨some 38, .iad 1 (.t 36) (.t 37), some (35, true)⟩,
  ⟨some 39, .load false 1 (.t 38), some (35, true)⟩,
  ⟨some 40, .mov (.t 1), some (35, true)⟩,
  ⟨some 41, .bin .eql (.t 39) (.t 40), some (35, true)⟩,
  ⟨some 42, .mov (.t 41), some (35, true)⟩,
  ⟨some 43, .mov (.t 0), some (42, false)⟩,
  ⟨some 44, .mov (.t 7), some (42, false)⟩,
  ⟨some 45, .iad 1 (.t 43) (.t 44), some (42, false)⟩,
  ⟨some 46, .load false 1 (.t 45), some (42, false)⟩,
  ⟨some 47, .call (F "slices.isNaN.I") [.t 46] [], some (42, false)⟩,
  ⟨some 48, .mov (.t 47), some (42, false)⟩,
  ⟨some 49, .mov (.t 1), some (48, true)⟩,
  ⟨some 50, .call (F "slices.isNaN.I") [.t 49] [], some (48, true)⟩,
  ⟨some 51, .pick (.t 48) (.t 50) (.k (.bool false)), some (42, false)⟩,
  ⟨some 52, .pick (.t 42) (.k (.bool true)) (.t 51), some (35, true)⟩,
  ⟨some 53, .pick (.t 35) (.t 52) (.k (.bool false)), none⟩,
  ⟨some 4, .mov (.t 31), none⟩,
  ⟨some 5, .mov (.t 53), none⟩]
def c_slices_BinarySearch_I (F : String → Nat) : LC := (.seq (.reg (c_slices_BinarySearch_I_r0 F) [0, 1]) (.seq (.reg (c_slices_BinarySearch_I_r1 F) [0, 1, 6]) (.seq (.reg (c_slices_BinarySearch_I_r2 F) [0, 1, 6, 7, 8]) (.seq (.block 0 (.loop [0, 1, 6, 7, 8] (c_slices_BinarySearch_I_b8 F))) (.seq (.reg (c_slices_BinarySearch_I_r9 F) [4, 5]) .ret)))))
def h_slices_BinarySearch_I : Hints := ⟨[], fun _ => [], tab [(0, [0, 1]), (1, [0, 1, 6]), (2, [0, 1, 6, 7, 8]), (3, [0, 1, 6, 7, 8, 15]), (4, [0, 1, 6, 7, 8, 9]), (5, [0, 1, 6, 7, 8, 9, 27]), (6, [0, 1, 6, 7, 8]), (7, [0, 1, 6, 7, 8]), (8, [4, 5])], tab [(3, [0, 1, 6, 7, 8])]⟩

/- subgraph.list -/
def c_subgraph_list_r0 (F : String → Nat) : List LI := [⟨some 4, .mov (.k (.int .i64 (0))), none⟩]
def c_subgraph_list_r1 (F : String → Nat) : List LI := [⟨some 7, .mov (.t 0), none⟩,
  ⟨some 8, .len (.t 7), none⟩,
  ⟨some 9, .mov (.k (.int .i64 (0))), none⟩]
def c_subgraph_list_r2 (F : String → Nat) : List LI := [⟨some 10, .bin .lss (.t 9) (.t 8), none⟩]
def c_subgraph_list_r3 (F : String → Nat) : List LI := [⟨some 11, .mov (.t 9), none⟩,
  ⟨some 12, .iad 1 (.t 7) (.t 9), none⟩,
  ⟨some 13, .load false 1 (.t 12), none⟩,
  ⟨some 5, .mov (.t 11), none⟩,
  ⟨some 6, .mov (.t 13), none⟩]
def c_subgraph_list_r4 (F : String → Nat) : List LI := [⟨some 14, .mov (.t 6), none⟩,
  ⟨some 15, .bin .lss (.t 14) (.k (.int .i64 (0))), none⟩,
  ⟨some 16, .mov (.t 15), none⟩,
  ⟨some 17, .mov (.t 6), some (16, false)⟩,
  ⟨some 18, .mov (.t 1), some (16, false)⟩,
  ⟨some 19, .bin .geq (.t 17) (.t 18), some (16, false)⟩,
  ⟨some 20, .pick (.t 16) (.k (.bool true)) (.t 19), none⟩]
def c_subgraph_list_r5 (F : String → Nat) : List LI := [⟨some 4, .mov (.k (.int .i64 (6))), none⟩]
def c_subgraph_list_r6 (F : String → Nat) : List LI := [⟨some 21, .mov (.t 5), none⟩,
  ⟨some 22, .bin .gtr (.t 21) (.k (.int .i64 (0))), none⟩,
  ⟨some 23, .mov (.t 22), none⟩,
  ⟨some 24, .mov (.t 6), some (23, true)⟩,
  ⟨some 25, .mov (.t 0), some (23, true)⟩,
  ⟨some 26, .mov (.t 5), some (23, true)⟩,
  ⟨some 27, .bin .sub (.t 26) (.k (.int .i64 (1))), some (23, true)⟩,
  ⟨some 28, .iad 1 (.t 25) (.t 27), some (23, true)⟩,
  ⟨some 29, .load false 1 (.t 28), some (23, true)⟩,
  ⟨some 30, .bin .leq (.t 24) (.t 29), some (23, true)⟩,
  ⟨some 31, .pick (.t 23) (.t 30) (.k (.bool false)), none⟩]
def c_subgraph_list_r7 (F : String → Nat) : List LI := [⟨some 4, .mov (.k (.int .i64 (12))), none⟩]
def c_subgraph_list_r8 (F : String → Nat) : List LI := [⟨some 32, .bin .add (.t 9) (.k (.int .i64 (1))), none⟩,
  ⟨some 9, .mov (.t 32), none⟩]
def c_subgraph_list_b9 (F : String → Nat) : LC := (.seq (.reg (c_subgraph_list_r2 F) [0, 1, 7, 8, 9, 10]) (.seq (.cond (.t 10) .skip (.exit 0)) (.seq (.block 1 (.seq (.reg (c_subgraph_list_r3 F) [0, 1, 5, 6, 7, 8, 9]) (.seq (.seq (.reg (c_subgraph_list_r4 F) [0, 1, 5, 6, 7, 8, 9, 20]) (.cond (.t 20) (.seq (.reg (c_subgraph_list_r5 F) [4]) .ret) .skip)) (.seq (.reg (c_subgraph_list_r6 F) [0, 1, 7, 8, 9, 31]) (.cond (.t 31) (.seq (.reg (c_subgraph_list_r7 F) [4]) .ret) .skip))))) (.reg (c_subgraph_list_r8 F) [0, 1, 7, 8, 9]))))
def c_subgraph_list_r10 (F : String → Nat) : List LI := [⟨some 4, .mov (.k (.int .i64 (0))), none⟩]
def c_subgraph_list (F : String → Nat) : LC := (.seq (.reg (c_subgraph_list_r0 F) [0, 1]) (.seq (.seq (.reg (c_subgraph_list_r1 F) [0, 1, 7, 8, 9]) (.block 0 (.loop [0, 1, 7, 8, 9] (c_subgraph_list_b9 F)))) (.seq (.reg (c_subgraph_list_r10 F) [4]) .ret)))
def h_subgraph_list : Hints := ⟨[], fun _ => [], tab [(0, [0, 1]), (1, [0, 1, 7, 8, 9]), (2, [0, 1, 7, 8, 9, 10]), (3, [0, 1, 5, 6, 7, 8, 9]), (4, [0, 1, 5, 6, 7, 8, 9, 20]), (5, [4]), (6, [0, 1, 7, 8, 9, 31]), (7, [4]), (8, [0, 1, 7, 8, 9]), (9, [4])], tab [(2, [0, 1, 7, 8, 9])]⟩

/- subgraph.has -/
def c_subgraph_has_r0 (F : String → Nat) : List LI := [⟨some 4, .mov (.k (.bool false)), none⟩]
def c_subgraph_has_r1 (F : String → Nat) : List LI := [⟨some 8, .mov (.t 0), none⟩,
  ⟨some 9, .mov (.t 1), none⟩,
  ⟨some 10, .call (F "slices.BinarySearch.I") [.t 8, .t 9] [], none⟩,
  ⟨some 7, .mov (.t 10), none⟩,
  ⟨some 11, .ext (.t 7) 0, none⟩,
  ⟨some 12, .ext (.t 7) 1, none⟩,
  ⟨some 5, .mov (.t 11), none⟩,
  ⟨some 6, .mov (.t 12), none⟩]
def c_subgraph_has_r2 (F : String → Nat) : List LI := [⟨some 13, .mov (.t 6), none⟩,
  ⟨some 4, .mov (.t 13), none⟩]
def c_subgraph_has (F : String → Nat) : LC := (.seq (.reg (c_subgraph_has_r0 F) [0, 1]) (.seq (.reg (c_subgraph_has_r1 F) [6]) (.seq (.reg (c_subgraph_has_r2 F) [4]) .ret)))
def h_subgraph_has : Hints := ⟨[], fun _ => [], tab [(0, [0, 1]), (1, [6]), (2, [4])], tab []⟩

/- subgraph.part -/
def c_subgraph_part_r0 (F : String → Nat) : List LI := [⟨some 2, .bx (.t 0), none⟩,
  ⟨some 3, .bx (.t 1), none⟩,
  ⟨some 4, .mov (.k (.int .i64 (0))), none⟩]
def c_subgraph_part_r1 (F : String → Nat) : List LI := [⟨some 9, .fad 0 (.t 3), none⟩,
  ⟨some 10, .load false 1 (.t 9), none⟩,
  ⟨some 11, .fad 0 (.t 2), none⟩,
  ⟨some 12, .load false 1 (.t 11), none⟩,
  ⟨some 13, .len (.t 12), none⟩,
  ⟨some 14, .call (F "subgraph.list") [.t 10, .t 13] [], none⟩,
  ⟨some 5, .mov (.t 14), none⟩]
def c_subgraph_part_r2 (F : String → Nat) : List LI := [⟨some 15, .mov (.t 5), none⟩,
  ⟨some 16, .bin .neq (.t 15) (.k (.int .i64 (0))), none⟩]
def c_subgraph_part_r3 (F : String → Nat) : List LI := [⟨some 17, .mov (.t 5), none⟩,
  ⟨some 4, .mov (.t 17), none⟩]
def c_subgraph_part_r4 (F : String → Nat) : List LI := [⟨some 18, .fad 1 (.t 3), none⟩,
  ⟨some 19, .load false 1 (.t 18), none⟩,
  ⟨some 20, .fad 1 (.t 2), none⟩,
  ⟨some 21, .load false 1 (.t 20), none⟩,
  ⟨some 22, .len (.t 21), none⟩,
  ⟨some 23, .call (F "subgraph.list") [.t 19, .t 22] [], none⟩,
  ⟨some 6, .mov (.t 23), none⟩]
def c_subgraph_part_r5 (F : String → Nat) : List LI := [⟨some 24, .mov (.t 6), none⟩,
  ⟨some 25, .bin .neq (.t 24) (.k (.int .i64 (0))), none⟩]
def c_subgraph_part_r6 (F : String → Nat) : List LI := [⟨some 26, .mov (.t 6), none⟩,
  ⟨some 4, .mov (.t 26), none⟩]
def c_subgraph_part_r7 (F : String → Nat) : List LI := [⟨some 27, .fad 1 (.t 3), none⟩,
  ⟨some 28, .load false 1 (.t 27), none⟩,
  ⟨some 29, .len (.t 28), none⟩,
  ⟨some 30, .mov (.k (.int .i64 (0))), none⟩]
def c_subgraph_part_r8 (F : String → Nat) : List LI := [⟨some 31, .bin .lss (.t 30) (.t 29), none⟩]
def c_subgraph_part_r9 (F : String → Nat) : List LI := [⟨some 32, .iad 1 (.t 28) (.t 30), none⟩,
  ⟨some 33, .load false 1 (.t 32), none⟩,
  ⟨some 8, .mov (.t 33), none⟩]
def c_subgraph_part_r10 (F : String → Nat) : List LI := [⟨some 34, .fad 0 (.t 3), none⟩,
  ⟨some 35, .load false 1 (.t 34), none⟩,
  ⟨some 36, .fad 1 (.t 2), none⟩,
  ⟨some 37, .load false 1 (.t 36), none⟩,
  ⟨some 38, .mov (.t 8), none⟩,
  ⟨some 39, .iad 3 (.t 37) (.t 38), none⟩,
  ⟨some 40, .fad 1 (.t 39), none⟩,
  ⟨some 41, .load false 1 (.t 40), none⟩,
  ⟨some 42, .call (F "subgraph.has") [.t 35, .t 41] [], none⟩,
  ⟨some 43, .not (.t 42), none⟩,
  ⟨some 44, .mov (.t 43), none⟩,
  ⟨some 45, .fad 0 (.t 3), some (44, false)⟩,
  ⟨some 46, .load false 1 (.t 45), some (44, false)⟩,
  ⟨some 47, .fad 1 (.t 2), some (44, false)⟩,
  ⟨some 48, .load false 1 (.t 47), some (44, false)⟩,
  ⟨some 49, .mov (.t 8), some (44, false)⟩,
  ⟨some 50, .iad 3 (.t 48) (.t 49), some (44, false)⟩,
  ⟨some 51, .fad 2 (.t 50), some (44, false)⟩,
  ⟨some 52, .load false 1 (.t 51), some (44, false)⟩,
  ⟨some 53, .call (F "subgraph.has") [.t 46, .t 52] [], some (44, false)⟩,
  ⟨some 54, .not (.t 53), some (44, false)⟩,
  ⟨some 55, .pick (.t 44) (.k (.bool true)) (.t 54), none⟩]
def c_subgraph_part_r11 (F : String → Nat) : List LI := [⟨some 4, .mov (.k (.int .i64 (14))), none⟩]
def c_subgraph_part_r12 (F : String → Nat) : List LI := [⟨some 56, .bin .add (.t 30) (.k (.int .i64 (1))), none⟩,
  ⟨some 30, .mov (.t 56), none⟩]
def c_subgraph_part_b13 (F : String → Nat) : LC := (.seq (.reg (c_subgraph_part_r8 F) [2, 3, 28, 29, 30, 31]) (.seq (.cond (.t 31) .skip (.exit 0)) (.seq (.block 1 (.seq (.reg (c_subgraph_part_r9 F) [2, 3, 8, 28, 29, 30]) (.seq (.dreg [] (c_subgraph_part_r10 F) [2, 3, 28, 29, 30, 55]) (.cond (.t 55) (.seq (.reg (c_subgraph_part_r11 F) [4]) .ret) .skip)))) (.reg (c_subgraph_part_r12 F) [2, 3, 28, 29, 30]))))
def c_subgraph_part_r14 (F : String → Nat) : List LI := [⟨some 4, .mov (.k (.int .i64 (0))), none⟩]
def c_subgraph_part (F : String → Nat) : LC := (.seq (.reg (c_subgraph_part_r0 F) [2, 3]) (.seq (.seq (.reg (c_subgraph_part_r1 F) [2, 3, 5]) (.seq (.reg (c_subgraph_part_r2 F) [2, 3, 5, 16]) (.cond (.t 16) (.seq (.reg (c_subgraph_part_r3 F) [4]) .ret) .skip))) (.seq (.seq (.reg (c_subgraph_part_r4 F) [2, 3, 6]) (.seq (.reg (c_subgraph_part_r5 F) [2, 3, 6, 25]) (.cond (.t 25) (.seq (.reg (c_subgraph_part_r6 F) [4]) .ret) .skip))) (.seq (.seq (.reg (c_subgraph_part_r7 F) [2, 3, 28, 29, 30]) (.block 0 (.loop [2, 3, 28, 29, 30] (c_subgraph_part_b13 F)))) (.seq (.reg (c_subgraph_part_r14 F) [4]) .ret)))))
def h_subgraph_part : Hints := ⟨[], fun _ => [], tab [(0, [2, 3]), (1, [2, 3, 5]), (2, [2, 3, 5, 16]), (3, [4]), (4, [2, 3, 6]), (5, [2, 3, 6, 25]), (6, [4]), (7, [2, 3, 28, 29, 30]), (8, [2, 3, 28, 29, 30, 31]), (9, [2, 3, 8, 28, 29, 30]), (10, [2, 3, 28, 29, 30, 55]), (11, [4]), (12, [2, 3, 28, 29, 30]), (13, [4])], tab [(8, [2, 3, 28, 29, 30])]⟩

/- subgraph.Valid -/
def c_subgraph_Valid_r0 (F : String → Nat) : List LI := [⟨some 2, .bx (.t 0), none⟩,
  ⟨some 3, .bx (.t 1), none⟩,
  ⟨some 4, .mov (.k (.int .i64 (0))), none⟩]
def c_subgraph_Valid_r1 (F : String → Nat) : List LI := [⟨some 6, .load true 2 (.t 2), none⟩,
  ⟨some 7, .call (F "graph.Valid") [.t 6] [], none⟩,
  ⟨some 5, .mov (.t 7), none⟩]
def c_subgraph_Valid_r2 (F : String → Nat) : List LI := [⟨some 8, .mov (.t 5), none⟩,
  ⟨some 9, .bin .neq (.t 8) (.k (.int .i64 (0))), none⟩]
def c_subgraph_Valid_r3 (F : String → Nat) : List LI := [⟨some 10, .mov (.t 5), none⟩,
  ⟨some 4, .mov (.t 10), none⟩]
def c_subgraph_Valid_r4 (F : String → Nat) : List LI := [⟨some 11, .load true 2 (.t 2), none⟩,
  ⟨some 12, .load true 2 (.t 3), none⟩,
  ⟨some 13, .call (F "subgraph.part") [.t 11, .t 12] [], none⟩,
  ⟨some 4, .mov (.t 13), none⟩]
def c_subgraph_Valid (F : String → Nat) : LC := (.seq (.reg (c_subgraph_Valid_r0 F) [2, 3]) (.seq (.seq (.reg (c_subgraph_Valid_r1 F) [2, 3, 5]) (.seq (.reg (c_subgraph_Valid_r2 F) [2, 3, 5, 9]) (.cond (.t 9) (.seq (.reg (c_subgraph_Valid_r3 F) [4]) .ret) .skip))) (.seq (.reg (c_subgraph_Valid_r4 F) [4]) .ret)))
def h_subgraph_Valid : Hints := ⟨[], fun _ => [], tab [(0, [2, 3]), (1, [2, 3, 5]), (2, [2, 3, 5, 9]), (3, [4]), (4, [4])], tab []⟩

/- r07.Same -/
def c_r07_Same_r0 (F : String → Nat) : List LI := [⟨some 2, .bx (.t 0), none⟩,
  ⟨some 3, .bx (.t 1), none⟩,
  ⟨some 4, .mov (.k (.bool false)), none⟩]
def c_r07_Same_r1 (F : String → Nat) : List LI := [⟨some 5, .fad 0 (.t 2), none⟩,
  ⟨some 6, .load false 1 (.t 5), none⟩,
  ⟨some 7, .fad 0 (.t 3), none⟩,
  ⟨some 8, .load false 1 (.t 7), none⟩,
  ⟨some 9, .call (F "r05.SameInts") [.t 6, .t 8] [], none⟩,
  ⟨some 10, .mov (.t 9), none⟩,
  ⟨some 11, .fad 1 (.t 2), some (10, true)⟩,
  ⟨some 12, .load false 1 (.t 11), some (10, true)⟩,
  ⟨some 13, .fad 1 (.t 3), some (10, true)⟩,
  ⟨some 14, .load false 1 (.t 13), some (10, true)⟩,
  ⟨some 15, .call (F "r05.SameInts") [.t 12, .t 14] [], some (10, true)⟩,
  ⟨some 16, .pick (.t 10) (.t 15) (.k (.bool false)), none⟩,
  ⟨some 4, .mov (.t 16), none⟩]
def c_r07_Same (F : String → Nat) : LC := (.seq (.reg (c_r07_Same_r0 F) [2, 3]) (.seq (.reg (c_r07_Same_r1 F) [4]) .ret))
def h_r07_Same : Hints := ⟨[], fun _ => [], tab [(0, [2, 3]), (1, [4])], tab []⟩

attribute [go_sem] c_cmp_isNaN_I_r0 c_cmp_isNaN_I_r1 c_cmp_isNaN_I c_cmp_Less_I_r0 c_cmp_Less_I_r1 c_cmp_Less_I c_slices_isNaN_I_r0 c_slices_isNaN_I_r1 c_slices_isNaN_I c_slices_BinarySearch_I_r0 c_slices_BinarySearch_I_r1 c_slices_BinarySearch_I_r2 c_slices_BinarySearch_I_r3 c_slices_BinarySearch_I_r4 c_slices_BinarySearch_I_r5 c_slices_BinarySearch_I_r6 c_slices_BinarySearch_I_r7 c_slices_BinarySearch_I_r9 c_slices_BinarySearch_I c_subgraph_list_r0 c_subgraph_list_r1 c_subgraph_list_r2 c_subgraph_list_r3 c_subgraph_list_r4 c_subgraph_list_r5 c_subgraph_list_r6 c_subgraph_list_r7 c_subgraph_list_r8 c_subgraph_list_r10 c_subgraph_list c_subgraph_has_r0 c_subgraph_has_r1 c_subgraph_has_r2 c_subgraph_has c_subgraph_part_r0 c_subgraph_part_r1 c_subgraph_part_r2 c_subgraph_part_r3 c_subgraph_part_r4 c_subgraph_part_r5 c_subgraph_part_r6 c_subgraph_part_r7 c_subgraph_part_r8 c_subgraph_part_r9 c_subgraph_part_r10 c_subgraph_part_r11 c_subgraph_part_r12 c_subgraph_part_r14 c_subgraph_part c_subgraph_Valid_r0 c_subgraph_Valid_r1 c_subgraph_Valid_r2 c_subgraph_Valid_r3 c_subgraph_Valid_r4 c_subgraph_Valid c_r07_Same_r0 c_r07_Same_r1 c_r07_Same
def cntB (l : List Int) (x : Int) : Nat := (l.filter fun y => decide (y < x)).length
section
variable (P : Program) (F : String → Nat)
def K_cmp_isNaN_I : Prop := ∀ x : Int, FC P (F "cmp.isNaN.I") [.int .i64 x] (.bool false) []
def K_slices_isNaN_I : Prop := ∀ x : Int, FC P (F "slices.isNaN.I") [.int .i64 x] (.bool false) []
def K_cmp_Less_I : Prop := ∀ x y : Int, FC P (F "cmp.Less.I") [.int .i64 x, .int .i64 y] (.bool (decide (x < y))) []
def K_slices_BinarySearch_I : Prop := ∀ (l : List Int) (x : Int), l.Pairwise (· < ·) → l.length ≤ 1000000 → FC P (F "slices.BinarySearch.I") [.lst 1 (ints l), .int .i64 x] (.tup [.int .i64 (cntB l x), .bool (decide (x ∈ l))]) []
def K_subgraph_has : Prop := ∀ (l : List Int) (x : Int), l.Pairwise (· < ·) → l.length ≤ 1000000 → FC P (F "subgraph.has") [.lst 1 (ints l), .int .i64 x] (.bool (decide (x ∈ l))) []
def K_subgraph_list : Prop := ∀ (l : List Int) (n : Int), l.length ≤ maxL → 0 ≤ n → n ≤ 1000000 → FC P (F "subgraph.list") [.lst 1 (ints l), .int .i64 n] (.int .i64 (ascG n none l)) []
def K_subgraph_part : Prop := ∀ (g : G) (p : Mo), validG g = 0 → p.n.length ≤ maxL → p.e.length ≤ maxL → FC P (F "subgraph.part") [gD g, mD p] (.int .i64 (rightP g p)) []
def K_subgraph_Valid : Prop := ∀ (g : G) (p : Mo), p.n.length ≤ maxL → p.e.length ≤ maxL → FC P (F "subgraph.Valid") [gD g, mD p] (.int .i64 (validP g p)) []
def K_r07_Same : Prop := ∀ a b : Mo, a.n.length ≤ maxL → a.e.length ≤ maxL → FC P (F "r07.Same") [mD a, mD b] (.bool (decide (a = b))) []
end
section
variable {P : Program} {F : String → Nat} {α : Type}
theorem w_r07_Same (hs : K_r05_SameInts P F) (a b : Mo) (h1 : a.n.length ≤ maxL) (h2 : a.e.length ≤ maxL) : W P (c_r07_Same F) (Done [.t 4] [] (.bool (decide (a = b))) []) (init [mD a, mD b]) := by
  refine W_of ?_
  obtain ⟨an, ae⟩ := a
  obtain ⟨bn, be⟩ := b
  simp only at h1 h2
  simp (config := { maxSteps := 1000000 }) (disch := first | omega | (simp only [go_sem]; omega)) only [go_sem, ↓reduceIte, mD]
  refine call_by (hs _ _ h1) ?_
  simp (config := { maxSteps := 1000000 }) (disch := first | omega | (simp only [go_sem]; omega)) only [go_sem, ↓reduceIte]
  refine bran_dec (fun c => ?_) (fun c => ?_)
  · subst c
    simp (config := { maxSteps := 1000000 }) (disch := first | omega | (simp only [go_sem]; omega)) only [go_sem, ↓reduceIte]
    refine call_by (hs _ _ h2) ?_
    simp (config := { maxSteps := 1000000 }) (disch := first | omega | (simp only [go_sem]; omega)) only [go_sem, ↓reduceIte]
    simp
  · simp (config := { maxSteps := 1000000 }) (disch := first | omega | (simp only [go_sem]; omega)) only [go_sem, ↓reduceIte, c]
    simp [c]
theorem pair_gt {l : List Int} (h : l.Pairwise (· < ·)) {i j : Nat} (hij : i < j) (hj : j < l.length) : gt l i < gt l j := by
  rw [gt_nat (by omega), gt_nat hj]
  exact List.pairwise_iff_getElem.1 h i j (by omega) hj hij
theorem cntB_eq {l : List Int} {x : Int} (hp : l.Pairwise (· < ·)) {i : Nat} (hi : i ≤ l.length) (h1 : ∀ k : Nat, k < i → gt l k < x) (h2 : ∀ k : Nat, i ≤ k → k < l.length → x ≤ gt l k) : cntB l x = i ∧ (x ∈ l ↔ i < l.length ∧ gt l i = x) := by
  constructor
  · unfold cntB
    conv => lhs; rw [← List.take_append_drop i l]
    rw [List.filter_append, List.length_append]
    have e1 : (l.take i).filter (fun y => decide (y < x)) = l.take i := List.filter_eq_self.2 fun y hy => by
      obtain ⟨k, hk, rfl⟩ := List.mem_take_iff_getElem.1 hy
      have := h1 k (by omega)
      rw [gt_nat (by omega)] at this
      simpa using this
    have e2 : (l.drop i).filter (fun y => decide (y < x)) = [] := List.filter_eq_nil_iff.2 fun y hy => by
      obtain ⟨k, hk, rfl⟩ := List.mem_drop_iff_getElem.1 hy
      have := h2 (i + k) (by omega) (by omega)
      rw [gt_nat (by omega)] at this
      simpa using this
    rw [e1, e2]; simp; omega
  · constructor
    · intro hx
      obtain ⟨k, hk, hk2⟩ := mem_gt hx
      by_cases c : k < i
      · have := h1 k c; omega
      · by_cases d : k = i
        · subst d; exact ⟨hk, hk2⟩
        · have := pair_gt hp (i := i) (j := k) (by omega) hk
          have := h2 i (by omega) (by omega)
          omega
    · rintro ⟨h, e⟩
      rw [← e]; exact gt_mem (by omega) (by omega)
theorem w_cmp_isNaN_I (x : Int) : W P (c_cmp_isNaN_I F) (Done [.t 2] [] (.bool false) []) (init [.int .i64 x]) := by
  refine W_of ?_
  simp (config := { maxSteps := 1000000 }) (disch := first | omega | (simp only [go_sem]; omega)) only [go_sem, ↓reduceIte]
  try simp
theorem w_slices_isNaN_I (x : Int) : W P (c_slices_isNaN_I F) (Done [.t 2] [] (.bool false) []) (init [.int .i64 x]) := by
  refine W_of ?_
  simp (config := { maxSteps := 1000000 }) (disch := first | omega | (simp only [go_sem]; omega)) only [go_sem, ↓reduceIte]
  try simp
theorem w_cmp_Less_I (hn : K_cmp_isNaN_I P F) (x y : Int) : W P (c_cmp_Less_I F) (Done [.t 4] [] (.bool (decide (x < y))) []) (init [.int .i64 x, .int .i64 y]) := by
  refine W_of ?_
  simp (config := { maxSteps := 1000000 }) (disch := first | omega | (simp only [go_sem]; omega)) only [go_sem, ↓reduceIte]
  refine call_by (hn x) ?_
  simp (config := { maxSteps := 1000000 }) (disch := first | omega | (simp only [go_sem]; omega)) only [go_sem, ↓reduceIte]
theorem w_slices_BinarySearch_I (hc : K_cmp_Less_I P F) (hn : K_slices_isNaN_I P F) (l : List Int) (x : Int) (hp : l.Pairwise (· < ·)) (hl : l.length ≤ 1000000) : W P (c_slices_BinarySearch_I F) (Done [.t 4, .t 5] [] (.tup [.int .i64 (cntB l x), .bool (decide (x ∈ l))]) []) (init [.lst 1 (ints l), .int .i64 x]) := by
  refine W_of ?_
  simp (config := { maxSteps := 1000000 }) (disch := first | omega | (simp only [go_sem]; omega)) only [go_sem, ↓reduceIte]
  refine W_loop (fun s : Nat × Nat => ⟨[(0, .lst 1 (ints l)), (1, .int .i64 x), (6, .int .i64 l.length), (7, .int .i64 s.1), (8, .int .i64 s.2)], [], 0⟩) (fun s => (s.1 ≤ s.2 ∧ s.2 ≤ l.length) ∧ (∀ k : Nat, k < s.1 → gt l k < x) ∧ ∀ k : Nat, s.2 ≤ k → k < l.length → x ≤ gt l k) (fun s => s.2 - s.1) (0, l.length) ?_ ?_ ?_
  · simp (config := { maxSteps := 1000000 }) (disch := first | omega | (simp only [go_sem]; omega)) only [go_sem, ↓reduceIte]
    rfl
  · exact ⟨by simp, fun k hk => by simp only at hk; omega, fun k h1 h2 => by simp only at h1; omega⟩
  · rintro ⟨i, j⟩ ⟨⟨i1, i2⟩, i3, i4⟩
    simp only at i1 i2 i3 i4
    by_cases c : i < j
    · have g1 : decide ((i : Int) < j) = true := decide_eq_true (by omega)
      have hh : ((i : Int) + j).fdiv (2 ^ min (1 : Int).toNat 64) = (((i + j) / 2 : Nat) : Int) := by
        rw [Int.fdiv_eq_ediv_of_nonneg _ (by decide)]
        simp
      have w1 : IntKind.u64.wrap ((i : Int) + j) = (i : Int) + j := by
        unfold IntKind.wrap
        simp [IntKind.bits, IntKind.signed]
        omega
      have r := hc (gt l (((i + j) / 2 : Nat) : Int)) x
      have z1 : ¬ ((1 : Int) < 0) := by omega
      have lt : (i + j) / 2 < j := by omega
      have le : i ≤ (i + j) / 2 := by omega
      rw [show (1 : Int).toNat = 1 from rfl] at hh
      generalize (i + j) / 2 = h at *
      by_cases d : gt l h < x
      · rw [decide_eq_true d] at r
        simp (config := { maxSteps := 1000000 }) (disch := first | omega | (simp only [go_sem]; omega)) only [go_sem, ↓reduceIte, c_slices_BinarySearch_I_b8, g1, w1, z1, hh]
        refine call_by r ?_
        simp (config := { maxSteps := 1000000 }) (disch := first | omega | (simp only [go_sem]; omega)) only [go_sem, ↓reduceIte]
        refine ⟨(h + 1, j), by simp, ⟨⟨by simp only; omega, i2⟩, fun k hk => ?_, i4⟩, by simp only; omega⟩
        simp only at hk
        by_cases e : k = h
        · subst e; exact d
        · have := pair_gt hp (i := k) (j := h) (by omega) (by omega)
          omega
      · rw [decide_eq_false d] at r
        simp (config := { maxSteps := 1000000 }) (disch := first | omega | (simp only [go_sem]; omega)) only [go_sem, ↓reduceIte, c_slices_BinarySearch_I_b8, g1, w1, z1, hh]
        refine call_by r ?_
        simp (config := { maxSteps := 1000000 }) (disch := first | omega | (simp only [go_sem]; omega)) only [go_sem, ↓reduceIte]
        refine ⟨(i, h), by simp, ⟨⟨by simp only; omega, by simp only; omega⟩, i3, fun k h1 h2 => ?_⟩, by simp only; omega⟩
        simp only at h1
        by_cases e : k = h
        · subst e; omega
        · have := pair_gt hp (i := h) (j := k) (by omega) (by omega)
          omega
    · have g1 : decide ((i : Int) < j) = false := decide_eq_false (by omega)
      obtain rfl : i = j := by omega
      obtain ⟨e1, e2⟩ := cntB_eq hp i2 i3 i4
      rw [e1]
      by_cases c2 : i < l.length
      · have g2 : decide ((i : Int) < l.length) = true := decide_eq_true (by omega)
        by_cases c3 : gt l i = x
        · have g3 : decide (gt l i = x) = true := decide_eq_true c3
          have hx : x ∈ l := e2.2 ⟨c2, c3⟩
          rw [decide_eq_true hx]
          simp (config := { maxSteps := 1000000 }) (disch := first | omega | (simp only [go_sem]; omega)) only [go_sem, ↓reduceIte, c_slices_BinarySearch_I_b8, g1, g2, g3]
        · have g3 : decide (gt l i = x) = false := decide_eq_false c3
          have hx : ¬ x ∈ l := fun h => c3 (e2.1 h).2
          rw [decide_eq_false hx]
          simp (config := { maxSteps := 1000000 }) (disch := first | omega | (simp only [go_sem]; omega)) only [go_sem, ↓reduceIte, c_slices_BinarySearch_I_b8, g1, g2, g3]
          refine call_by (hn _) ?_
          simp (config := { maxSteps := 1000000 }) (disch := first | omega | (simp only [go_sem]; omega)) only [go_sem, ↓reduceIte]
      · have g2 : decide ((i : Int) < l.length) = false := decide_eq_false (by omega)
        have hx : ¬ x ∈ l := fun h => c2 (e2.1 h).1
        rw [decide_eq_false hx]
        simp (config := { maxSteps := 1000000 }) (disch := first | omega | (simp only [go_sem]; omega)) only [go_sem, ↓reduceIte, c_slices_BinarySearch_I_b8, g1, g2]
theorem w_subgraph_has (hb : K_slices_BinarySearch_I P F) (l : List Int) (x : Int) (hp : l.Pairwise (· < ·)) (hl : l.length ≤ 1000000) : W P (c_subgraph_has F) (Done [.t 4] [] (.bool (decide (x ∈ l))) []) (init [.lst 1 (ints l), .int .i64 x]) := by
  refine W_of ?_
  have r := hb l x hp hl
  simp (config := { maxSteps := 1000000 }) (disch := first | omega | (simp only [go_sem]; omega)) only [go_sem, ↓reduceIte]
  refine call_by r ?_
  simp (config := { maxSteps := 1000000 }) (disch := first | omega | (simp only [go_sem]; omega)) only [go_sem, ↓reduceIte]
theorem w_subgraph_list (l : List Int) (n : Int) (hl : l.length ≤ maxL) (h0 : 0 ≤ n) (h1 : n ≤ 1000000) : W P (c_subgraph_list F) (Done [.t 4] [] (.int .i64 (ascG n none l)) []) (init [.lst 1 (ints l), .int .i64 n]) := by
  refine W_of ?_
  unfold maxL at hl
  simp (config := { maxSteps := 1000000 }) (disch := first | omega | (simp only [go_sem]; omega)) only [go_sem, ↓reduceIte]
  refine W_loop (fun i : Nat => ⟨[(0, .lst 1 (ints l)), (1, .int .i64 n), (7, .lst 1 (ints l)), (8, .int .i64 l.length), (9, .int .i64 i)], [], 0⟩) (fun i => i ≤ l.length ∧ ascG n none l = ascG n (prevO l i) (l.drop i)) (fun i => l.length - i) 0 ?_ ?_ ?_
  · simp (config := { maxSteps := 1000000 }) (disch := first | omega | (simp only [go_sem]; omega)) only [go_sem, ↓reduceIte]
    rfl
  · simp [prevO]
  · intro i hi
    simp (config := { maxSteps := 1000000 }) (disch := first | omega | (simp only [go_sem]; omega)) only [go_sem, ↓reduceIte, c_subgraph_list_b9]
    refine bran_dec (fun a => ?_) (fun a => ?_)
    · have hs := asc_step n l i (by omega)
      simp (config := { maxSteps := 1000000 }) (disch := first | omega | (simp only [go_sem]; omega)) only [go_sem, ↓reduceIte]
      refine bran_dec (fun b => ?_) (fun b => ?_)
      · simp (config := { maxSteps := 1000000 }) (disch := first | omega | (simp only [go_sem]; omega)) only [go_sem, ↓reduceIte, b]
        rw [hi.2, hs, if_neg (by omega)]
      · simp (config := { maxSteps := 1000000 }) (disch := first | omega | (simp only [go_sem]; omega)) only [go_sem, ↓reduceIte, b]
        refine bran_dec (fun b2 => ?_) (fun b2 => ?_)
        · simp (config := { maxSteps := 1000000 }) (disch := first | omega | (simp only [go_sem]; omega)) only [go_sem, ↓reduceIte]
          rw [hi.2, hs, if_neg (by omega)]
        · rw [if_pos (by omega)] at hs
          simp (config := { maxSteps := 1000000 }) (disch := first | omega | (simp only [go_sem]; omega)) only [go_sem, ↓reduceIte]
          refine bran_dec (fun c => ?_) (fun c => ?_)
          · simp (config := { maxSteps := 1000000 }) (disch := first | omega | (simp only [go_sem]; omega)) only [go_sem, ↓reduceIte, c]
            refine bran_dec (fun d => ?_) (fun d => ?_)
            · simp (config := { maxSteps := 1000000 }) (disch := first | omega | (simp only [go_sem]; omega)) only [go_sem, ↓reduceIte]
              rw [hi.2, hs, if_pos ⟨by omega, d⟩]
            · simp (config := { maxSteps := 1000000 }) (disch := first | omega | (simp only [go_sem]; omega)) only [go_sem, ↓reduceIte]
              exact ⟨i + 1, by simp, ⟨by omega, by rw [hi.2, hs, if_neg (fun e => d e.2)]⟩, by omega⟩
          · simp (config := { maxSteps := 1000000 }) (disch := first | omega | (simp only [go_sem]; omega)) only [go_sem, ↓reduceIte, c]
            exact ⟨i + 1, by simp, ⟨by omega, by rw [hi.2, hs, if_neg (fun e => by omega)]⟩, by omega⟩
    · simp (config := { maxSteps := 1000000 }) (disch := first | omega | (simp only [go_sem]; omega)) only [go_sem, ↓reduceIte]
      rw [hi.2, List.drop_of_length_le (by omega)]
      rfl
theorem w_subgraph_part (hl : K_subgraph_list P F) (hh : K_subgraph_has P F) (g : G) (p : Mo) (hv : validG g = 0) (h1 : p.n.length ≤ maxL) (h2 : p.e.length ≤ maxL) : W P (c_subgraph_part F) (Done [.t 4] [] (.int .i64 (rightP g p)) []) (init [gD g, mD p]) := by
  refine W_of ?_
  have vs := valid_spec hv
  have r1 := hl p.n g.n.length h1 (by omega) (by omega)
  have r2 := hl p.e g.e.length h2 (by omega) (by omega)
  have hR : rightP g p = if ascG g.n.length none p.n ≠ 0 then ascG g.n.length none p.n else if ascG g.e.length none p.e ≠ 0 then ascG g.e.length none p.e else if dangP g p = true then 14 else 0 := rfl
  rw [hR]
  by_cases c1 : ascG g.n.length none p.n = 0
  case neg =>
    rw [if_pos c1]
    generalize ascG g.n.length none p.n = v at *
    simp only [gD, mD] at *
    simp (config := { maxSteps := 1000000 }) (disch := first | omega | (simp only [go_sem]; omega)) only [go_sem, ↓reduceIte]
    refine call_by r1 ?_
    simp (config := { maxSteps := 1000000 }) (disch := first | omega | (simp only [go_sem]; omega)) only [go_sem, ↓reduceIte, c1]
  rw [if_neg (by simp [c1])]
  by_cases c2 : ascG g.e.length none p.e = 0
  case neg =>
    rw [if_pos c2]
    rw [c1] at r1
    generalize ascG g.e.length none p.e = v at *
    simp only [gD, mD] at *
    simp (config := { maxSteps := 1000000 }) (disch := first | omega | (simp only [go_sem]; omega)) only [go_sem, ↓reduceIte]
    refine call_by r1 ?_
    simp (config := { maxSteps := 1000000 }) (disch := first | omega | (simp only [go_sem]; omega)) only [go_sem, ↓reduceIte]
    refine call_by r2 ?_
    simp (config := { maxSteps := 1000000 }) (disch := first | omega | (simp only [go_sem]; omega)) only [go_sem, ↓reduceIte, c2]
  rw [if_neg (by simp [c2])]
  have a1 := ascG_iff.1 c1
  have a2 := ascG_iff.1 c2
  have q1 := asc_len a1
  have q2 := asc_len a2
  rw [c1] at r1
  rw [c2] at r2
  have hD : dangP g p = p.e.any fun x => !(decide ((gt g.e x).f ∈ p.n) && decide ((gt g.e x).o ∈ p.n)) := rfl
  have hx := fun x => hh p.n x a1.p (by omega)
  clear hR c1 c2
  obtain ⟨gn, ge⟩ := g
  obtain ⟨pn, pe⟩ := p
  simp only [gD, mD] at *
  simp (config := { maxSteps := 1000000 }) (disch := first | omega | (simp only [go_sem]; omega)) only [go_sem, ↓reduceIte]
  refine call_by r1 ?_
  simp (config := { maxSteps := 1000000 }) (disch := first | omega | (simp only [go_sem]; omega)) only [go_sem, ↓reduceIte]
  refine call_by r2 ?_
  simp (config := { maxSteps := 1000000 }) (disch := first | omega | (simp only [go_sem]; omega)) only [go_sem, ↓reduceIte]
  refine W_loop (fun i : Nat => ⟨[(2, .pt 0 0), (3, .pt 1 0), (28, .lst 1 (ints pe)), (29, .int .i64 pe.length), (30, .int .i64 i)], [(0, .box [.lst 1 (ints gn), .lst 3 (eds ge)]), (1, .box [.lst 1 (ints pn), .lst 1 (ints pe)])], 2⟩) (fun i => i ≤ pe.length ∧ ∀ k : Nat, k < i → (gt ge (gt pe k)).f ∈ pn ∧ (gt ge (gt pe k)).o ∈ pn) (fun i => pe.length - i) 0 ?_ ?_ ?_
  · simp (config := { maxSteps := 1000000 }) (disch := first | omega | (simp only [go_sem]; omega)) only [go_sem, ↓reduceIte]
    rfl
  · exact ⟨by omega, fun k hk => by omega⟩
  · rintro i ⟨hi, hk⟩
    by_cases c : i < pe.length
    · have g1 : decide ((i : Int) < pe.length) = true := decide_eq_true (by omega)
      have hb := a2.b _ (gt_mem (l := pe) (j := i) (by omega) (by omega))
      have x1 := hx (gt ge (gt pe i)).f
      have x2 := hx (gt ge (gt pe i)).o
      by_cases d1 : (gt ge (gt pe i)).f ∈ pn
      · rw [decide_eq_true d1] at x1
        by_cases d2 : (gt ge (gt pe i)).o ∈ pn
        · rw [decide_eq_true d2] at x2
          simp (config := { maxSteps := 1000000 }) (disch := first | omega | (simp only [go_sem]; omega)) only [go_sem, ↓reduceIte, c_subgraph_part_b13, g1]
          refine call_by x1 ?_
          simp (config := { maxSteps := 1000000 }) (disch := first | omega | (simp only [go_sem]; omega)) only [go_sem, ↓reduceIte]
          refine call_by x2 ?_
          simp (config := { maxSteps := 1000000 }) (disch := first | omega | (simp only [go_sem]; omega)) only [go_sem, ↓reduceIte]
          refine ⟨i + 1, by simp, ⟨by omega, fun k h => ?_⟩, by omega⟩
          by_cases e : k = i
          · subst e; exact ⟨d1, d2⟩
          · exact hk k (by omega)
        · rw [decide_eq_false d2] at x2
          have hdt : dangP ⟨gn, ge⟩ ⟨pn, pe⟩ = true := by
            rw [hD, List.any_eq_true]
            exact ⟨_, gt_mem (l := pe) (j := i) (by omega) (by omega), by simp [d2]⟩
          rw [hdt]
          simp (config := { maxSteps := 1000000 }) (disch := first | omega | (simp only [go_sem]; omega)) only [go_sem, ↓reduceIte, c_subgraph_part_b13, g1]
          refine call_by x1 ?_
          simp (config := { maxSteps := 1000000 }) (disch := first | omega | (simp only [go_sem]; omega)) only [go_sem, ↓reduceIte]
          refine call_by x2 ?_
          simp (config := { maxSteps := 1000000 }) (disch := first | omega | (simp only [go_sem]; omega)) only [go_sem, ↓reduceIte]
          try rfl
      · rw [decide_eq_false d1] at x1
        have hdt : dangP ⟨gn, ge⟩ ⟨pn, pe⟩ = true := by
          rw [hD, List.any_eq_true]
          exact ⟨_, gt_mem (l := pe) (j := i) (by omega) (by omega), by simp [d1]⟩
        rw [hdt]
        simp (config := { maxSteps := 1000000 }) (disch := first | omega | (simp only [go_sem]; omega)) only [go_sem, ↓reduceIte, c_subgraph_part_b13, g1]
        refine call_by x1 ?_
        simp (config := { maxSteps := 1000000 }) (disch := first | omega | (simp only [go_sem]; omega)) only [go_sem, ↓reduceIte]
        try rfl
    · have g1 : decide ((i : Int) < pe.length) = false := decide_eq_false (by omega)
      obtain rfl : i = pe.length := by omega
      have hdt : dangP ⟨gn, ge⟩ ⟨pn, pe⟩ = false := by
        rw [hD, List.any_eq_false]
        intro x hx
        obtain ⟨k, k1, k2⟩ := mem_gt hx
        have := hk k k1
        rw [k2] at this
        simp [this]
      rw [hdt]
      simp (config := { maxSteps := 1000000 }) (disch := first | omega | (simp only [go_sem]; omega)) only [go_sem, ↓reduceIte, c_subgraph_part_b13, g1]
      try rfl
theorem w_subgraph_Valid (hv : K_graph_Valid P F) (hp : K_subgraph_part P F) (g : G) (p : Mo) (h1 : p.n.length ≤ maxL) (h2 : p.e.length ≤ maxL) : W P (c_subgraph_Valid F) (Done [.t 4] [] (.int .i64 (validP g p)) []) (init [gD g, mD p]) := by
  refine W_of ?_
  have r1 := hv g
  have hR : validP g p = if validG g ≠ 0 then validG g else rightP g p := rfl
  rw [hR]
  by_cases c : validG g = 0
  · have r2 := hp g p c h1 h2
    rw [if_neg (by simp [c])]
    rw [c] at r1
    generalize rightP g p = v at *
    simp only [gD, mD] at *
    simp (config := { maxSteps := 1000000 }) (disch := first | omega | (simp only [go_sem]; omega)) only [go_sem, ↓reduceIte]
    refine call_by r1 ?_
    simp (config := { maxSteps := 1000000 }) (disch := first | omega | (simp only [go_sem]; omega)) only [go_sem, ↓reduceIte]
    refine call_by r2 ?_
    simp (config := { maxSteps := 1000000 }) (disch := first | omega | (simp only [go_sem]; omega)) only [go_sem, ↓reduceIte]
  · rw [if_pos c]
    generalize validG g = v at *
    simp only [gD, mD] at *
    simp (config := { maxSteps := 1000000 }) (disch := first | omega | (simp only [go_sem]; omega)) only [go_sem, ↓reduceIte]
    refine call_by r1 ?_
    simp (config := { maxSteps := 1000000 }) (disch := first | omega | (simp only [go_sem]; omega)) only [go_sem, ↓reduceIte, c]
end
end Go.Am
