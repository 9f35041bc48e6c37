/- Parts of graphs: whether they are right; membership. -/
/- Complements: what is deleted, dangles, is identified. -/
/- Repair of parts: the program's and the reference's functions. -/
/- Unions of parts; the law ComplementLeast. -/
/- Pushouts: what is injective, exchanged, in another order; plain facts. -/
/- Graphs of parts. -/
/- Parts: deletion of numbers, intersections, images and preimages: the walks. -/
/- Squares: validity, composition, comparison. -/
import Derived.Test.YtelmgaflhmcihaaGreatSpPa
import Derived.Test.YtelmgaflhmcihaaGreatSpPb
import Derived.Test.YtelmgaflhmcihaaGreatSpPc
import Derived.Test.YtelmgaflhmcihaaGreatSpPd
import Derived.Test.YtelmgaflhmcihaaGreatSpPe
namespace Go.Am
open Go
set_option linter.unusedVariables false
set_option linter.unusedSimpArgs false
attribute [local irreducible] W
/- cmp.isNaN.I -/
def c_cmp_isNaN_I_r0 (F : String → Nat) : List LI := [⟨some 2, .mov (.k (.bool false)), none⟩]
def c_cmp_isNaN_I_r1 (F : String → Nat) : List LI := [⟨some 3, .mov (.t 0), none⟩,
  ⟨some 4, .mov (.t 0), none⟩,
  ⟨some 5, .bin .neq (.t 3) (.t 4), none⟩,
  ⟨some 2, .mov (.t 5), none⟩]
def c_cmp_isNaN_I (F : String → Nat) : LC := (.seq (.reg (c_cmp_isNaN_I_r0 F) [0]) (.seq (.reg (c_cmp_isNaN_I_r1 F) [2]) .ret))
def h_cmp_isNaN_I : Hints := ⟨[], fun _ => [], tab [(0, [0]), (1, [2])], tab []⟩

/- cmp.Less.I -/
def c_cmp_Less_I_r0 (F : String → Nat) : List LI := [⟨some 4, .mov (.k (.bool false)), none⟩]
def c_cmp_Less_I_r1 (F : String → Nat) : List LI := [⟨some 5, .mov (.t 0), none⟩,
  ⟨some 6, .call (F "cmp.isNaN.I") [.t 5] [], none⟩,
  ⟨some 7, .mov (.t 6), none⟩,
  ⟨some 8, .mov (.t 1), some (7, true)⟩,
  ⟨some 9, .call (F "cmp.isNaN.I") [.t 8] [], some (7, true)⟩,
  ⟨some 10, .not (.t 9), some (7, true)⟩,
  ⟨some 11, .pick (.t 7) (.t 10) (.k (.bool false)), none⟩,
  ⟨some 12, .mov (.t 11), none⟩,
  ⟨some 13, .mov (.t 0), some (12, false)⟩,
  ⟨some 14, .mov (.t 1), some (12, false)⟩,
  ⟨some 15, .bin .lss (.t 13) (.t 14), some (12, false)⟩,
  ⟨some 16, .pick (.t 12) (.k (.bool true)) (.t 15), none⟩,
  ⟨some 4, .mov (.t 16), none⟩]
def c_cmp_Less_I (F : String → Nat) : LC := (.seq (.reg (c_cmp_Less_I_r0 F) [0, 1]) (.seq (.reg (c_cmp_Less_I_r1 F) [4]) .ret))
def h_cmp_Less_I : Hints := ⟨[], fun _ => [], tab [(0, [0, 1]), (1, [4])], tab []⟩

/- slices.isNaN.I -/
def c_slices_isNaN_I_r0 (F : String → Nat) : List LI := [⟨some 2, .mov (.k (.bool false)), none⟩]
def c_slices_isNaN_I_r1 (F : String → Nat) : List LI := [⟨some 3, .mov (.t 0), none⟩,
  ⟨some 4, .mov (.t 0), none⟩,
  ⟨some 5, .bin .neq (.t 3) (.t 4), none⟩,
  ⟨some 2, .mov (.t 5), none⟩]
def c_slices_isNaN_I (F : String → Nat) : LC := (.seq (.reg (c_slices_isNaN_I_r0 F) [0]) (.seq (.reg (c_slices_isNaN_I_r1 F) [2]) .ret))
def h_slices_isNaN_I : Hints := ⟨[], fun _ => [], tab [(0, [0]), (1, [2])], tab []⟩

/- slices.BinarySearch.I -/
def c_slices_BinarySearch_I_r0 (F : String → Nat) : List LI := [⟨some 4, .mov (.k (.int .i64 (0))), none⟩,
  ⟨some 5, .mov (.k (.bool false)), none⟩]
def c_slices_BinarySearch_I_r1 (F : String → Nat) : List LI := [⟨some 10, .mov (.t 0), none⟩,
  ⟨some 11, .len (.t 10), none⟩,
  ⟨some 6, .mov (.t 11), none⟩]
def c_slices_BinarySearch_I_r2 (F : String → Nat) : List LI := [⟨some 12, .mov (.t 6), none⟩,
  ⟨some 7, .mov (.k (.int .i64 (0))), none⟩,
  ⟨some 8, .mov (.t 12), none⟩]
def c_slices_BinarySearch_I_r3 (F : String → Nat) : List LI := [⟨some 13, .mov (.t 7), none⟩,
  ⟨some 14, .mov (.t 8), none⟩,
  ⟨some 15, .bin .lss (.t 13) (.t 14), none⟩]
def c_slices_BinarySearch_I_r4 (F : String → Nat) : List LI := [⟨some 16, .mov (.t 7), none⟩,
  ⟨some 17, .mov (.t 8), none⟩,
  ⟨some 18, .bin .add (.t 16) (.t 17), none⟩,
  ⟨some 19, .conv .u64 (.t 18), none⟩,
  ⟨some 20, .bin .shr (.t 19) (.k (.int .u64 (1))), none⟩,
  ⟨some 21, .conv .i64 (.t 20), none⟩,
  ⟨some 9, .mov (.t 21), none⟩]
def c_slices_BinarySearch_I_r5 (F : String → Nat) : List LI := [⟨some 22, .mov (.t 0), none⟩,
  ⟨some 23, .mov (.t 9), none⟩,
  ⟨some 24, .iad 1 (.t 22) (.t 23), none⟩,
  ⟨some 25, .load false 1 (.t 24), none⟩,
  ⟨some 26, .mov (.t 1), none⟩,
  ⟨some 27, .call (F "cmp.Less.I") [.t 25, .t 26] [], none⟩]
def c_slices_BinarySearch_I_r6 (F : String → Nat) : List LI := [⟨some 28, .mov (.t 9), none⟩,
  ⟨some 29, .bin .add (.t 28) (.k (.int .i64 (1))), none⟩,
  ⟨some 7, .mov (.t 29), none⟩]
def c_slices_BinarySearch_I_r7 (F : String → Nat) : List LI := [⟨some 30, .mov (.t 9), none⟩,
  ⟨some 8, .mov (.t 30), none⟩]
def c_slices_BinarySearch_I_b8 (F : String → Nat) : LC := (.seq (.seq (.reg (c_slices_BinarySearch_I_r3 F) [0, 1, 6, 7, 8, 15]) (.cond (.t 15) .skip (.exit 0))) (.block 1 (.seq (.reg (c_slices_BinarySearch_I_r4 F) [0, 1, 6, 7, 8, 9]) (.seq (.reg (c_slices_BinarySearch_I_r5 F) [0, 1, 6, 7, 8, 9, 27]) (.cond (.t 27) (.reg (c_slices_BinarySearch_I_r6 F) [0, 1, 6, 7, 8]) (.reg (c_slices_BinarySearch_I_r7 F) [0, 1, 6, 7, 8]))))))
def c_slices_BinarySearch_I_r9 (F : String → Nat) : List LI := [⟨some 31, .mov (.t 7), none⟩,
  ⟨some 32, .mov (.t 7), none⟩,
  ⟨some 33, .mov (.t 6), none⟩,
  ⟨some 34, .bin .lss (.t 32) (.t 33), none⟩,
  ⟨some 35, .mov (.t 34), none⟩,
  ⟨some 36, .mov (.t 0), some (35, true)⟩,
  ⟨some 37, .mov (.t 7), some (35, true)⟩,
  ⟨some 38, .iad 1 (.t 36) (.t 37), some (35, true)⟩,
  ⟨some 39, .load false 1 (.t 38), some (35, true)⟩,
  ⟨some 40, .mov (.t 1), some (35, true)⟩,
  ⟨some 41, .bin .eql (.t 39) (.t 40), some (35, true)⟩,
  ⟨some 42, .mov (.t 41), some (35, true)⟩,
  ⟨some 43, .mov (.t 0), some (42, false)⟩,
  ⟨some 44, .mov (.t 7), some (42, false)⟩,
  ⟨some 45, .iad 1 (.t 43) (.t 44), some (42, false)⟩,
  ⟨some 46, .load false 1 (.t 45), some (42, false)⟩,
  ⟨some 47, .call (F "slices.isNaN.I") [.t 46] [], some (42, false)⟩,
  ⟨some 48, .mov (.t 47), some (42, false)⟩,
  ⟨some 49, .mov (.t 1), some (48, true)⟩,
  ⟨some 50, .call (F "slices.isNaN.I") [.t 49] [], some (48, true)⟩,
  ⟨some 51, .pick (.t 48) (.t 50) (.k (.bool false)), some (42, false)⟩,
  ⟨some 52, .pick (.t 42) (.k (.bool true)) (.t 51), some (35, true)⟩,
  ⟨some 53, .pick (.t 35) (.t 52) (.k (.bool false)), none⟩,
  ⟨some 4, .mov (.t 31), none⟩,
  ⟨some 5, .mov (.t 53), none⟩]
def c_slices_BinarySearch_I (F : String → Nat) : LC := (.seq (.reg (c_slices_BinarySearch_I_r0 F) [0, 1]) (.seq (.reg (c_slices_BinarySearch_I_r1 F) [0, 1, 6]) (.seq (.reg (c_slices_BinarySearch_I_r2 F) [0, 1, 6, 7, 8]) (.seq (.block 0 (.loop [0, 1, 6, 7, 8] (c_slices_BinarySearch_I_b8 F))) (.seq (.reg (c_slices_BinarySearch_I_r9 F) [4, 5]) .ret)))))
def h_slices_BinarySearch_I : Hints := ⟨[], fun _ => [], tab [(0, [0, 1]), (1, [0, 1, 6]), (2, [0, 1, 6, 7, 8]), (3, [0, 1, 6, 7, 8, 15]), (4, [0, 1, 6, 7, 8, 9]), (5, [0, 1, 6, 7, 8, 9, 27]), (6, [0, 1, 6, 7, 8]), (7, [0, 1, 6, 7, 8]), (8, [4, 5])], tab [(3, [0, 1, 6, 7, 8])]⟩

/- subgraph.list -/
def c_subgraph_list_r0 (F : String → Nat) : List LI := [⟨some 4, .mov (.k (.int .i64 (0))), none⟩]
def c_subgraph_list_r1 (F : String → Nat) : List LI := [⟨some 7, .mov (.t 0), none⟩,
  ⟨some 8, .len (.t 7), none⟩,
  ⟨some 9, .mov (.k (.int .i64 (0))), none⟩]
def c_subgraph_list_r2 (F : String → Nat) : List LI := [⟨some 10, .bin .lss (.t 9) (.t 8), none⟩]
def c_subgraph_list_r3 (F : String → Nat) : List LI := [⟨some 11, .mov (.t 9), none⟩,
  ⟨some 12, .iad 1 (.t 7) (.t 9), none⟩,
  ⟨some 13, .load false 1 (.t 12), none⟩,
  ⟨some 5, .mov (.t 11), none⟩,
  ⟨some 6, .mov (.t 13), none⟩]
def c_subgraph_list_r4 (F : String → Nat) : List LI := [⟨some 14, .mov (.t 6), none⟩,
  ⟨some 15, .bin .lss (.t 14) (.k (.int .i64 (0))), none⟩,
  ⟨some 16, .mov (.t 15), none⟩,
  ⟨some 17, .mov (.t 6), some (16, false)⟩,
  ⟨some 18, .mov (.t 1), some (16, false)⟩,
  ⟨some 19, .bin .geq (.t 17) (.t 18), some (16, false)⟩,
  ⟨some 20, .pick (.t 16) (.k (.bool true)) (.t 19), none⟩]
def c_subgraph_list_r5 (F : String → Nat) : List LI := [⟨some 4, .mov (.k (.int .i64 (6))), none⟩]
def c_subgraph_list_r6 (F : String → Nat) : List LI := [⟨some 21, .mov (.t 5), none⟩,
  ⟨some 22, .bin .gtr (.t 21) (.k (.int .i64 (0))), none⟩,
  ⟨some 23, .mov (.t 22), none⟩,
  ⟨some 24, .mov (.t 6), some (23, true)⟩,
  ⟨some 25, .mov (.t 0), some (23, true)⟩,
  ⟨some 26, .mov (.t 5), some (23, true)⟩,
  ⟨some 27, .bin .sub (.t 26) (.k (.int .i64 (1))), some (23, true)⟩,
  ⟨some 28, .iad 1 (.t 25) (.t 27), some (23, true)⟩,
  ⟨some 29, .load false 1 (.t 28), some (23, true)⟩,
  ⟨some 30, .bin .leq (.t 24) (.t 29), some (23, true)⟩,
  ⟨some 31, .pick (.t 23) (.t 30) (.k (.bool false)), none⟩]
def c_subgraph_list_r7 (F : String → Nat) : List LI := [⟨some 4, .mov (.k (.int .i64 (12))), none⟩]
def c_subgraph_list_r8 (F : String → Nat) : List LI := [⟨some 32, .bin .add (.t 9) (.k (.int .i64 (1))), none⟩,
  ⟨some 9, .mov (.t 32), none⟩]
def c_subgraph_list_b9 (F : String → Nat) : LC := (.seq (.reg (c_subgraph_list_r2 F) [0, 1, 7, 8, 9, 10]) (.seq (.cond (.t 10) .skip (.exit 0)) (.seq (.block 1 (.seq (.reg (c_subgraph_list_r3 F) [0, 1, 5, 6, 7, 8, 9]) (.seq (.seq (.reg (c_subgraph_list_r4 F) [0, 1, 5, 6, 7, 8, 9, 20]) (.cond (.t 20) (.seq (.reg (c_subgraph_list_r5 F) [4]) .ret) .skip)) (.seq (.reg (c_subgraph_list_r6 F) [0, 1, 7, 8, 9, 31]) (.cond (.t 31) (.seq (.reg (c_subgraph_list_r7 F) [4]) .ret) .skip))))) (.reg (c_subgraph_list_r8 F) [0, 1, 7, 8, 9]))))
def c_subgraph_list_r10 (F : String → Nat) : List LI := [⟨some 4, .mov (.k (.int .i64 (0))), none⟩]
def c_subgraph_list (F : String → Nat) : LC := (.seq (.reg (c_subgraph_list_r0 F) [0, 1]) (.seq (.seq (.reg (c_subgraph_list_r1 F) [0, 1, 7, 8, 9]) (.block 0 (.loop [0, 1, 7, 8, 9] (c_subgraph_list_b9 F)))) (.seq (.reg (c_subgraph_list_r10 F) [4]) .ret)))
def h_subgraph_list : Hints := ⟨[], fun _ => [], tab [(0, [0, 1]), (1, [0, 1, 7, 8, 9]), (2, [0, 1, 7, 8, 9, 10]), (3, [0, 1, 5, 6, 7, 8, 9]), (4, [0, 1, 5, 6, 7, 8, 9, 20]), (5, [4]), (6, [0, 1, 7, 8, 9, 31]), (7, [4]), (8, [0, 1, 7, 8, 9]), (9, [4])], tab [(2, [0, 1, 7, 8, 9])]⟩

/- subgraph.has -/
def c_subgraph_has_r0 (F : String → Nat) : List LI := [⟨some 4, .mov (.k (.bool false)), none⟩]
def c_subgraph_has_r1 (F : String → Nat) : List LI := [⟨some 8, .mov (.t 0), none⟩,
  ⟨some 9, .mov (.t 1), none⟩,
  ⟨some 10, .call (F "slices.BinarySearch.I") [.t 8, .t 9] [], none⟩,
  ⟨some 7, .mov (.t 10), none⟩,
  ⟨some 11, .ext (.t 7) 0, none⟩,
  ⟨some 12, .ext (.t 7) 1, none⟩,
  ⟨some 5, .mov (.t 11), none⟩,
  ⟨some 6, .mov (.t 12), none⟩]
def c_subgraph_has_r2 (F : String → Nat) : List LI := [⟨some 13, .mov (.t 6), none⟩,
  ⟨some 4, .mov (.t 13), none⟩]
def c_subgraph_has (F : String → Nat) : LC := (.seq (.reg (c_subgraph_has_r0 F) [0, 1]) (.seq (.reg (c_subgraph_has_r1 F) [6]) (.seq (.reg (c_subgraph_has_r2 F) [4]) .ret)))
def h_subgraph_has : Hints := ⟨[], fun _ => [], tab [(0, [0, 1]), (1, [6]), (2, [4])], tab []⟩

/- subgraph.part -/
def c_subgraph_part_r0 (F : String → Nat) : List LI := [⟨some 2, .bx (.t 0), none⟩,
  ⟨some 3, .bx (.t 1), none⟩,
  ⟨some 4, .mov (.k (.int .i64 (0))), none⟩]
def c_subgraph_part_r1 (F : String → Nat) : List LI := [⟨some 9, .fad 0 (.t 3), none⟩,
  ⟨some 10, .load false 1 (.t 9), none⟩,
  ⟨some 11, .fad 0 (.t 2), none⟩,
  ⟨some 12, .load false 1 (.t 11), none⟩,
  ⟨some 13, .len (.t 12), none⟩,
  ⟨some 14, .call (F "subgraph.list") [.t 10, .t 13] [], none⟩,
  ⟨some 5, .mov (.t 14), none⟩]
def c_subgraph_part_r2 (F : String → Nat) : List LI := [⟨some 15, .mov (.t 5), none⟩,
  ⟨some 16, .bin .neq (.t 15) (.k (.int .i64 (0))), none⟩]
def c_subgraph_part_r3 (F : String → Nat) : List LI := [⟨some 17, .mov (.t 5), none⟩,
  ⟨some 4, .mov (.t 17), none⟩]
def c_subgraph_part_r4 (F : String → Nat) : List LI := [⟨some 18, .fad 1 (.t 3), none⟩,
  ⟨some 19, .load false 1 (.t 18), none⟩,
  ⟨some 20, .fad 1 (.t 2), none⟩,
  ⟨some 21, .load false 1 (.t 20), none⟩,
  ⟨some 22, .len (.t 21), none⟩,
  ⟨some 23, .call (F "subgraph.list") [.t 19, .t 22] [], none⟩,
  ⟨some 6, .mov (.t 23), none⟩]
def c_subgraph_part_r5 (F : String → Nat) : List LI := [⟨some 24, .mov (.t 6), none⟩,
  ⟨some 25, .bin .neq (.t 24) (.k (.int .i64 (0))), none⟩]
def c_subgraph_part_r6 (F : String → Nat) : List LI := [⟨some 26, .mov (.t 6), none⟩,
  ⟨some 4, .mov (.t 26), none⟩]
def c_subgraph_part_r7 (F : String → Nat) : List LI := [⟨some 27, .fad 1 (.t 3), none⟩,
  ⟨some 28, .load false 1 (.t 27), none⟩,
  ⟨some 29, .len (.t 28), none⟩,
  ⟨some 30, .mov (.k (.int .i64 (0))), none⟩]
def c_subgraph_part_r8 (F : String → Nat) : List LI := [⟨some 31, .bin .lss (.t 30) (.t 29), none⟩]
def c_subgraph_part_r9 (F : String → Nat) : List LI := [⟨some 32, .iad 1 (.t 28) (.t 30), none⟩,
  ⟨some 33, .load false 1 (.t 32), none⟩,
  ⟨some 8, .mov (.t 33), none⟩]
def c_subgraph_part_r10 (F : String → Nat) : List LI := [⟨some 34, .fad 0 (.t 3), none⟩,
  ⟨some 35, .load false 1 (.t 34), none⟩,
  ⟨some 36, .fad 1 (.t 2), none⟩,
  ⟨some 37, .load false 1 (.t 36), none⟩,
  ⟨some 38, .mov (.t 8), none⟩,
  ⟨some 39, .iad 3 (.t 37) (.t 38), none⟩,
  ⟨some 40, .fad 1 (.t 39), none⟩,
  ⟨some 41, .load false 1 (.t 40), none⟩,
  ⟨some 42, .call (F "subgraph.has") [.t 35, .t 41] [], none⟩,
  ⟨some 43, .not (.t 42), none⟩,
  ⟨some 44, .mov (.t 43), none⟩,
  ⟨some 45, .fad 0 (.t 3), some (44, false)⟩,
  ⟨some 46, .load false 1 (.t 45), some (44, false)⟩,
  ⟨some 47, .fad 1 (.t 2), some (44, false)⟩,
  ⟨some 48, .load false 1 (.t 47), some (44, false)⟩,
  ⟨some 49, .mov (.t 8), some (44, false)⟩,
  ⟨some 50, .iad 3 (.t 48) (.t 49), some (44, false)⟩,
  ⟨some 51, .fad 2 (.t 50), some (44, false)⟩,
  ⟨some 52, .load false 1 (.t 51), some (44, false)⟩,
  ⟨some 53, .call (F "subgraph.has") [.t 46, .t 52] [], some (44, false)⟩,
  ⟨some 54, .not (.t 53), some (44, false)⟩,
  ⟨some 55, .pick (.t 44) (.k (.bool true)) (.t 54), none⟩]
def c_subgraph_part_r11 (F : String → Nat) : List LI := [⟨some 4, .mov (.k (.int .i64 (14))), none⟩]
def c_subgraph_part_r12 (F : String → Nat) : List LI := [⟨some 56, .bin .add (.t 30) (.k (.int .i64 (1))), none⟩,
  ⟨some 30, .mov (.t 56), none⟩]
def c_subgraph_part_b13 (F : String → Nat) : LC := (.seq (.reg (c_subgraph_part_r8 F) [2, 3, 28, 29, 30, 31]) (.seq (.cond (.t 31) .skip (.exit 0)) (.seq (.block 1 (.seq (.reg (c_subgraph_part_r9 F) [2, 3, 8, 28, 29, 30]) (.seq (.dreg [] (c_subgraph_part_r10 F) [2, 3, 28, 29, 30, 55]) (.cond (.t 55) (.seq (.reg (c_subgraph_part_r11 F) [4]) .ret) .skip)))) (.reg (c_subgraph_part_r12 F) [2, 3, 28, 29, 30]))))
def c_subgraph_part_r14 (F : String → Nat) : List LI := [⟨some 4, .mov (.k (.int .i64 (0))), none⟩]
def c_subgraph_part (F : String → Nat) : LC := (.seq (.reg (c_subgraph_part_r0 F) [2, 3]) (.seq (.seq (.reg (c_subgraph_part_r1 F) [2, 3, 5]) (.seq (.reg (c_subgraph_part_r2 F) [2, 3, 5, 16]) (.cond (.t 16) (.seq (.reg (c_subgraph_part_r3 F) [4]) .ret) .skip))) (.seq (.seq (.reg (c_subgraph_part_r4 F) [2, 3, 6]) (.seq (.reg (c_subgraph_part_r5 F) [2, 3, 6, 25]) (.cond (.t 25) (.seq (.reg (c_subgraph_part_r6 F) [4]) .ret) .skip))) (.seq (.seq (.reg (c_subgraph_part_r7 F) [2, 3, 28, 29, 30]) (.block 0 (.loop [2, 3, 28, 29, 30] (c_subgraph_part_b13 F)))) (.seq (.reg (c_subgraph_part_r14 F) [4]) .ret)))))
def h_subgraph_part : Hints := ⟨[], fun _ => [], tab [(0, [2, 3]), (1, [2, 3, 5]), (2, [2, 3, 5, 16]), (3, [4]), (4, [2, 3, 6]), (5, [2, 3, 6, 25]), (6, [4]), (7, [2, 3, 28, 29, 30]), (8, [2, 3, 28, 29, 30, 31]), (9, [2, 3, 8, 28, 29, 30]), (10, [2, 3, 28, 29, 30, 55]), (11, [4]), (12, [2, 3, 28, 29, 30]), (13, [4])], tab [(8, [2, 3, 28, 29, 30])]⟩

/- subgraph.Valid -/
def c_subgraph_Valid_r0 (F : String → Nat) : List LI := [⟨some 2, .bx (.t 0), none⟩,
  ⟨some 3, .bx (.t 1), none⟩,
  ⟨some 4, .mov (.k (.int .i64 (0))), none⟩]
def c_subgraph_Valid_r1 (F : String → Nat) : List LI := [⟨some 6, .load true 2 (.t 2), none⟩,
  ⟨some 7, .call (F "graph.Valid") [.t 6] [], none⟩,
  ⟨some 5, .mov (.t 7), none⟩]
def c_subgraph_Valid_r2 (F : String → Nat) : List LI := [⟨some 8, .mov (.t 5), none⟩,
  ⟨some 9, .bin .neq (.t 8) (.k (.int .i64 (0))), none⟩]
def c_subgraph_Valid_r3 (F : String → Nat) : List LI := [⟨some 10, .mov (.t 5), none⟩,
  ⟨some 4, .mov (.t 10), none⟩]
def c_subgraph_Valid_r4 (F : String → Nat) : List LI := [⟨some 11, .load true 2 (.t 2), none⟩,
  ⟨some 12, .load true 2 (.t 3), none⟩,
  ⟨some 13, .call (F "subgraph.part") [.t 11, .t 12] [], none⟩,
  ⟨some 4, .mov (.t 13), none⟩]
def c_subgraph_Valid (F : String → Nat) : LC := (.seq (.reg (c_subgraph_Valid_r0 F) [2, 3]) (.seq (.seq (.reg (c_subgraph_Valid_r1 F) [2, 3, 5]) (.seq (.reg (c_subgraph_Valid_r2 F) [2, 3, 5, 9]) (.cond (.t 9) (.seq (.reg (c_subgraph_Valid_r3 F) [4]) .ret) .skip))) (.seq (.reg (c_subgraph_Valid_r4 F) [4]) .ret)))
def h_subgraph_Valid : Hints := ⟨[], fun _ => [], tab [(0, [2, 3]), (1, [2, 3, 5]), (2, [2, 3, 5, 9]), (3, [4]), (4, [4])], tab []⟩

attribute [go_sem] c_cmp_isNaN_I_r0 c_cmp_isNaN_I_r1 c_cmp_isNaN_I c_cmp_Less_I_r0 c_cmp_Less_I_r1 c_cmp_Less_I c_slices_isNaN_I_r0 c_slices_isNaN_I_r1 c_slices_isNaN_I c_slices_BinarySearch_I_r0 c_slices_BinarySearch_I_r1 c_slices_BinarySearch_I_r2 c_slices_BinarySearch_I_r3 c_slices_BinarySearch_I_r4 c_slices_BinarySearch_I_r5 c_slices_BinarySearch_I_r6 c_slices_BinarySearch_I_r7 c_slices_BinarySearch_I_r9 c_slices_BinarySearch_I c_subgraph_list_r0 c_subgraph_list_r1 c_subgraph_list_r2 c_subgraph_list_r3 c_subgraph_list_r4 c_subgraph_list_r5 c_subgraph_list_r6 c_subgraph_list_r7 c_subgraph_list_r8 c_subgraph_list_r10 c_subgraph_list c_subgraph_has_r0 c_subgraph_has_r1 c_subgraph_has_r2 c_subgraph_has c_subgraph_part_r0 c_subgraph_part_r1 c_subgraph_part_r2 c_subgraph_part_r3 c_subgraph_part_r4 c_subgraph_part_r5 c_subgraph_part_r6 c_subgraph_part_r7 c_subgraph_part_r8 c_subgraph_part_r9 c_subgraph_part_r10 c_subgraph_part_r11 c_subgraph_part_r12 c_subgraph_part_r14 c_subgraph_part c_subgraph_Valid_r0 c_subgraph_Valid_r1 c_subgraph_Valid_r2 c_subgraph_Valid_r3 c_subgraph_Valid_r4 c_subgraph_Valid
def cntB (l : List Int) (x : Int) : Nat := (l.filter fun y => decide (y < x)).length
section
variable (P : Program) (F : String → Nat)
def K_cmp_isNaN_I : Prop := ∀ x : Int, FC P (F "cmp.isNaN.I") [.int .i64 x] (.bool false) []
def K_slices_isNaN_I : Prop := ∀ x : Int, FC P (F "slices.isNaN.I") [.int .i64 x] (.bool false) []
def K_cmp_Less_I : Prop := ∀ x y : Int, FC P (F "cmp.Less.I") [.int .i64 x, .int .i64 y] (.bool (decide (x < y))) []
def K_slices_BinarySearch_I : Prop := ∀ (l : List Int) (x : Int), l.Pairwise (· < ·) → l.length ≤ 1000000 → FC P (F "slices.BinarySearch.I") [.lst 1 (ints l), .int .i64 x] (.tup [.int .i64 (cntB l x), .bool (decide (x ∈ l))]) []
def K_subgraph_has : Prop := ∀ (l : List Int) (x : Int), l.Pairwise (· < ·) → l.length ≤ 1000000 → FC P (F "subgraph.has") [.lst 1 (ints l), .int .i64 x] (.bool (decide (x ∈ l))) []
def K_subgraph_list : Prop := ∀ (l : List Int) (n : Int), l.length ≤ maxL → 0 ≤ n → n ≤ 1000000 → FC P (F "subgraph.list") [.lst 1 (ints l), .int .i64 n] (.int .i64 (ascG n none l)) []
def K_subgraph_part : Prop := ∀ (g : G) (p : Mo), validG g = 0 → p.n.length ≤ maxL → p.e.length ≤ maxL → FC P (F "subgraph.part") [gD g, mD p] (.int .i64 (rightP g p)) []
def K_subgraph_Valid : Prop := ∀ (g : G) (p : Mo), p.n.length ≤ maxL → p.e.length ≤ maxL → FC P (F "subgraph.Valid") [gD g, mD p] (.int .i64 (validP g p)) []
end
section
variable {P : Program} {F : String → Nat} {α : Type}
theorem pair_gt {l : List Int} (h : l.Pairwise (· < ·)) {i j : Nat} (hij : i < j) (hj : j < l.length) : gt l i < gt l j := by
  rw [gt_nat (by omega), gt_nat hj]
  exact List.pairwise_iff_getElem.1 h i j (by omega) hj hij
theorem cntB_eq {l : List Int} {x : Int} (hp : l.Pairwise (· < ·)) {i : Nat} (hi : i ≤ l.length) (h1 : ∀ k : Nat, k < i → gt l k < x) (h2 : ∀ k : Nat, i ≤ k → k < l.length → x ≤ gt l k) : cntB l x = i ∧ (x ∈ l ↔ i < l.length ∧ gt l i = x) := by
  constructor
  · unfold cntB
    conv => lhs; rw [← List.take_append_drop i l]
    rw [List.filter_append, List.length_append]
    have e1 : (l.take i).filter (fun y => decide (y < x)) = l.take i := List.filter_eq_self.2 fun y hy => by
      obtain ⟨k, hk, rfl⟩ := List.mem_take_iff_getElem.1 hy
      have := h1 k (by omega)
      rw [gt_nat (by omega)] at this
      simpa using this
    have e2 : (l.drop i).filter (fun y => decide (y < x)) = [] := List.filter_eq_nil_iff.2 fun y hy => by
      obtain ⟨k, hk, rfl⟩ := List.mem_drop_iff_getElem.1 hy
      have := h2 (i + k) (by omega) (by omega)
      rw [gt_nat (by omega)] at this
      simpa using this
    rw [e1, e2]; simp; omega
  · constructor
    · intro hx
      obtain ⟨k, hk, hk2⟩ := mem_gt hx
      by_cases c : k < i
      · have := h1 k c; omega
      · by_cases d : k = i
        · subst d; exact ⟨hk, hk2⟩
        · have := pair_gt hp (i := i) (j := k) (by omega) hk
          have := h2 i (by omega) (by omega)
          omega
    · rintro ⟨h, e⟩
      rw [← e]; exact gt_mem (by omega) (by omega)
theorem w_cmp_isNaN_I (x : Int) : W P (c_cmp_isNaN_I F) (Done [.t 2] [] (.bool false) []) (init [.int .i64 x]) := by
  refine W_of ?_
  simp (config := { maxSteps := 1000000 }) (disch := first | omega | (simp only [go_sem]; omega)) only [go_sem, ↓reduceIte]
  try simp
theorem w_slices_isNaN_I (x : Int) : W P (c_slices_isNaN_I F) (Done [.t 2] [] (.bool false) []) (init [.int .i64 x]) := by
  refine W_of ?_
  simp (config := { maxSteps := 1000000 }) (disch := first | omega | (simp only [go_sem]; omega)) only [go_sem, ↓reduceIte]
  try simp
theorem w_cmp_Less_I (hn : K_cmp_isNaN_I P F) (x y : Int) : W P (c_cmp_Less_I F) (Done [.t 4] [] (.bool (decide (x < y))) []) (init [.int .i64 x, .int .i64 y]) := by
  refine W_of ?_
  simp (config := { maxSteps := 1000000 }) (disch := first | omega | (simp only [go_sem]; omega)) only [go_sem, ↓reduceIte]
  refine call_by (hn x) ?_
  simp (config := { maxSteps := 1000000 }) (disch := first | omega | (simp only [go_sem]; omega)) only [go_sem, ↓reduceIte]
theorem w_slices_BinarySearch_I (hc : K_cmp_Less_I P F) (hn : K_slices_isNaN_I P F) (l : List Int) (x : Int) (hp : l.Pairwise (· < ·)) (hl : l.length ≤ 1000000) : W P (c_slices_BinarySearch_I F) (Done [.t 4, .t 5] [] (.tup [.int .i64 (cntB l x), .bool (decide (x ∈ l))]) []) (init [.lst 1 (ints l), .int .i64 x]) := by
  refine W_of ?_
  simp (config := { maxSteps := 1000000 }) (disch := first | omega | (simp only [go_sem]; omega)) only [go_sem, ↓reduceIte]
  refine W_loop (fun s : Nat × Nat => ⟨[(0, .lst 1 (ints l)), (1, .int .i64 x), (6, .int .i64 l.length), (7, .int .i64 s.1), (8, .int .i64 s.2)], [], 0⟩) (fun s => (s.1 ≤ s.2 ∧ s.2 ≤ l.length) ∧ (∀ k : Nat, k < s.1 → gt l k < x) ∧ ∀ k : Nat, s.2 ≤ k → k < l.length → x ≤ gt l k) (fun s => s.2 - s.1) (0, l.length) ?_ ?_ ?_
  · simp (config := { maxSteps := 1000000 }) (disch := first | omega | (simp only [go_sem]; omega)) only [go_sem, ↓reduceIte]
    rfl
  · exact ⟨by simp, fun k hk => by simp only at hk; omega, fun k h1 h2 => by simp only at h1; omega⟩
  · rintro ⟨i, j⟩ ⟨⟨i1, i2⟩, i3, i4⟩
    simp only at i1 i2 i3 i4
    by_cases c : i < j
    · have g1 : decide ((i : Int) < j) = true := decide_eq_true (by omega)
      have hh : ((i : Int) + j).fdiv (2 ^ min (1 : Int).toNat 64) = (((i + j) / 2 : Nat) : Int) := by
        rw [Int.fdiv_eq_ediv_of_nonneg _ (by decide)]
        simp
      have w1 : IntKind.u64.wrap ((i : Int) + j) = (i : Int) + j := by
        unfold IntKind.wrap
        simp [IntKind.bits, IntKind.signed]
        omega
      have r := hc (gt l (((i + j) / 2 : Nat) : Int)) x
      have z1 : ¬ ((1 : Int) < 0) := by omega
      have lt : (i + j) / 2 < j := by omega
      have le : i ≤ (i + j) / 2 := by omega
      rw [show (1 : Int).toNat = 1 from rfl] at hh
      generalize (i + j) / 2 = h at *
      by_cases d : gt l h < x
      · rw [decide_eq_true d] at r
        simp (config := { maxSteps := 1000000 }) (disch := first | omega | (simp only [go_sem]; omega)) only [go_sem, ↓reduceIte, c_slices_BinarySearch_I_b8, g1, w1, z1, hh]
        refine call_by r ?_
        simp (config := { maxSteps := 1000000 }) (disch := first | omega | (simp only [go_sem]; omega)) only [go_sem, ↓reduceIte]
        refine ⟨(h + 1, j), by simp, ⟨⟨by simp only; omega, i2⟩, fun k hk => ?_, i4⟩, by simp only; omega⟩
        simp only at hk
        by_cases e : k = h
        · subst e; exact d
        · have := pair_gt hp (i := k) (j := h) (by omega) (by omega)
          omega
      · rw [decide_eq_false d] at r
        simp (config := { maxSteps := 1000000 }) (disch := first | omega | (simp only [go_sem]; omega)) only [go_sem, ↓reduceIte, c_slices_BinarySearch_I_b8, g1, w1, z1, hh]
        refine call_by r ?_
        simp (config := { maxSteps := 1000000 }) (disch := first | omega | (simp only [go_sem]; omega)) only [go_sem, ↓reduceIte]
        refine ⟨(i, h), by simp, ⟨⟨by simp only; omega, by simp only; omega⟩, i3, fun k h1 h2 => ?_⟩, by simp only; omega⟩
        simp only at h1
        by_cases e : k = h
        · subst e; omega
        · have := pair_gt hp (i := h) (j := k) (by omega) (by omega)
          omega
    · have g1 : decide ((i : Int) < j) = false := decide_eq_false (by omega)
      obtain rfl : i = j := by omega
      obtain ⟨e1, e2⟩ := cntB_eq hp i2 i3 i4
      rw [e1]
      by_cases c2 : i < l.length
      · have g2 : decide ((i : Int) < l.length) = true := decide_eq_true (by omega)
        by_cases c3 : gt l i = x
        · have g3 : decide (gt l i = x) = true := decide_eq_true c3
          have hx : x ∈ l := e2.2 ⟨c2, c3⟩
          rw [decide_eq_true hx]
          simp (config := { maxSteps := 1000000 }) (disch := first | omega | (simp only [go_sem]; omega)) only [go_sem, ↓reduceIte, c_slices_BinarySearch_I_b8, g1, g2, g3]
        · have g3 : decide (gt l i = x) = false := decide_eq_false c3
          have hx : ¬ x ∈ l := fun h => c3 (e2.1 h).2
          rw [decide_eq_false hx]
          simp (config := { maxSteps := 1000000 }) (disch := first | omega | (simp only [go_sem]; omega)) only [go_sem, ↓reduceIte, c_slices_BinarySearch_I_b8, g1, g2, g3]
          refine call_by (hn _) ?_
          simp (config := { maxSteps := 1000000 }) (disch := first | omega | (simp only [go_sem]; omega)) only [go_sem, ↓reduceIte]
      · have g2 : decide ((i : Int) < l.length) = false := decide_eq_false (by omega)
        have hx : ¬ x ∈ l := fun h => c2 (e2.1 h).1
        rw [decide_eq_false hx]
        simp (config := { maxSteps := 1000000 }) (disch := first | omega | (simp only [go_sem]; omega)) only [go_sem, ↓reduceIte, c_slices_BinarySearch_I_b8, g1, g2]
theorem w_subgraph_has (hb : K_slices_BinarySearch_I P F) (l : List Int) (x : Int) (hp : l.Pairwise (· < ·)) (hl : l.length ≤ 1000000) : W P (c_subgraph_has F) (Done [.t 4] [] (.bool (decide (x ∈ l))) []) (init [.lst 1 (ints l), .int .i64 x]) := by
  refine W_of ?_
  have r := hb l x hp hl
  simp (config := { maxSteps := 1000000 }) (disch := first | omega | (simp only [go_sem]; omega)) only [go_sem, ↓reduceIte]
  refine call_by r ?_
  simp (config := { maxSteps := 1000000 }) (disch := first | omega | (simp only [go_sem]; omega)) only [go_sem, ↓reduceIte]
theorem w_subgraph_list (l : List Int) (n : Int) (hl : l.length ≤ maxL) (h0 : 0 ≤ n) (h1 : n ≤ 1000000) : W P (c_subgraph_list F) (Done [.t 4] [] (.int .i64 (ascG n none l)) []) (init [.lst 1 (ints l), .int .i64 n]) := by
  refine W_of ?_
  unfold maxL at hl
  simp (config := { maxSteps := 1000000 }) (disch := first | omega | (simp only [go_sem]; omega)) only [go_sem, ↓reduceIte]
  refine W_loop (fun i : Nat => ⟨[(0, .lst 1 (ints l)), (1, .int .i64 n), (7, .lst 1 (ints l)), (8, .int .i64 l.length), (9, .int .i64 i)], [], 0⟩) (fun i => i ≤ l.length ∧ ascG n none l = ascG n (prevO l i) (l.drop i)) (fun i => l.length - i) 0 ?_ ?_ ?_
  · simp (config := { maxSteps := 1000000 }) (disch := first | omega | (simp only [go_sem]; omega)) only [go_sem, ↓reduceIte]
    rfl
  · simp [prevO]
  · intro i hi
    simp (config := { maxSteps := 1000000 }) (disch := first | omega | (simp only [go_sem]; omega)) only [go_sem, ↓reduceIte, c_subgraph_list_b9]
    refine bran_dec (fun a => ?_) (fun a => ?_)
    · have hs := asc_step n l i (by omega)
      simp (config := { maxSteps := 1000000 }) (disch := first | omega | (simp only [go_sem]; omega)) only [go_sem, ↓reduceIte]
      refine bran_dec (fun b => ?_) (fun b => ?_)
      · simp (config := { maxSteps := 1000000 }) (disch := first | omega | (simp only [go_sem]; omega)) only [go_sem, ↓reduceIte, b]
        rw [hi.2, hs, if_neg (by omega)]
      · simp (config := { maxSteps := 1000000 }) (disch := first | omega | (simp only [go_sem]; omega)) only [go_sem, ↓reduceIte, b]
        refine bran_dec (fun b2 => ?_) (fun b2 => ?_)
        · simp (config := { maxSteps := 1000000 }) (disch := first | omega | (simp only [go_sem]; omega)) only [go_sem, ↓reduceIte]
          rw [hi.2, hs, if_neg (by omega)]
        · rw [if_pos (by omega)] at hs
          simp (config := { maxSteps := 1000000 }) (disch := first | omega | (simp only [go_sem]; omega)) only [go_sem, ↓reduceIte]
          refine bran_dec (fun c => ?_) (fun c => ?_)
          · simp (config := { maxSteps := 1000000 }) (disch := first | omega | (simp only [go_sem]; omega)) only [go_sem, ↓reduceIte, c]
            refine bran_dec (fun d => ?_) (fun d => ?_)
            · simp (config := { maxSteps := 1000000 }) (disch := first | omega | (simp only [go_sem]; omega)) only [go_sem, ↓reduceIte]
              rw [hi.2, hs, if_pos ⟨by omega, d⟩]
            · simp (config := { maxSteps := 1000000 }) (disch := first | omega | (simp only [go_sem]; omega)) only [go_sem, ↓reduceIte]
              exact ⟨i + 1, by simp, ⟨by omega, by rw [hi.2, hs, if_neg (fun e => d e.2)]⟩, by omega⟩
          · simp (config := { maxSteps := 1000000 }) (disch := first | omega | (simp only [go_sem]; omega)) only [go_sem, ↓reduceIte, c]
            exact ⟨i + 1, by simp, ⟨by omega, by rw [hi.2, hs, if_neg (fun e => by omega)]⟩, by omega⟩
    · simp (config := { maxSteps := 1000000 }) (disch := first | omega | (simp only [go_sem]; omega)) only [go_sem, ↓reduceIte]
      rw [hi.2, List.drop_of_length_le (by omega)]
      rfl
theorem w_subgraph_part (hl : K_subgraph_list P F) (hh : K_subgraph_has P F) (g : G) (p : Mo) (hv : validG g = 0) (h1 : p.n.length ≤ maxL) (h2 : p.e.length ≤ maxL) : W P (c_subgraph_part F) (Done [.t 4] [] (.int .i64 (rightP g p)) []) (init [gD g, mD p]) := by
  refine W_of ?_
  have vs := valid_spec hv
  have r1 := hl p.n g.n.length h1 (by omega) (by omega)
  have r2 := hl p.e g.e.length h2 (by omega) (by omega)
  have hR : rightP g p = if ascG g.n.length none p.n ≠ 0 then ascG g.n.length none p.n else if ascG g.e.length none p.e ≠ 0 then ascG g.e.length none p.e else if dangP g p = true then 14 else 0 := rfl
  rw [hR]
  by_cases c1 : ascG g.n.length none p.n = 0
  case neg =>
    rw [if_pos c1]
    generalize ascG g.n.length none p.n = v at *
    simp only [gD, mD] at *
    simp (config := { maxSteps := 1000000 }) (disch := first | omega | (simp only [go_sem]; omega)) only [go_sem, ↓reduceIte]
    refine call_by r1 ?_
    simp (config := { maxSteps := 1000000 }) (disch := first | omega | (simp only [go_sem]; omega)) only [go_sem, ↓reduceIte, c1]
  rw [if_neg (by simp [c1])]
  by_cases c2 : ascG g.e.length none p.e = 0
  case neg =>
    rw [if_pos c2]
    rw [c1] at r1
    generalize ascG g.e.length none p.e = v at *
    simp only [gD, mD] at *
    simp (config := { maxSteps := 1000000 }) (disch := first | omega | (simp only [go_sem]; omega)) only [go_sem, ↓reduceIte]
    refine call_by r1 ?_
    simp (config := { maxSteps := 1000000 }) (disch := first | omega | (simp only [go_sem]; omega)) only [go_sem, ↓reduceIte]
    refine call_by r2 ?_
    simp (config := { maxSteps := 1000000 }) (disch := first | omega | (simp only [go_sem]; omega)) only [go_sem, ↓reduceIte, c2]
  rw [if_neg (by simp [c2])]
  have a1 := ascG_iff.1 c1
  have a2 := ascG_iff.1 c2
  have q1 := asc_len a1
  have q2 := asc_len a2
  rw [c1] at r1
  rw [c2] at r2
  have hD : dangP g p = p.e.any fun x => !(decide ((gt g.e x).f ∈ p.n) && decide ((gt g.e x).o ∈ p.n)) := rfl
  have hx := fun x => hh p.n x a1.p (by omega)
  clear hR c1 c2
  obtain ⟨gn, ge⟩ := g
  obtain ⟨pn, pe⟩ := p
  simp only [gD, mD] at *
  simp (config := { maxSteps := 1000000 }) (disch := first | omega | (simp only [go_sem]; omega)) only [go_sem, ↓reduceIte]
  refine call_by r1 ?_
  simp (config := { maxSteps := 1000000 }) (disch := first | omega | (simp only [go_sem]; omega)) only [go_sem, ↓reduceIte]
  refine call_by r2 ?_
  simp (config := { maxSteps := 1000000 }) (disch := first | omega | (simp only [go_sem]; omega)) only [go_sem, ↓reduceIte]
  refine W_loop (fun i : Nat => ⟨[(2, .pt 0 0), (3, .pt 1 0), (28, .lst 1 (ints pe)), (29, .int .i64 pe.length), (30, .int .i64 i)], [(0, .box [.lst 1 (ints gn), .lst 3 (eds ge)]), (1, .box [.lst 1 (ints pn), .lst 1 (ints pe)])], 2⟩) (fun i => i ≤ pe.length ∧ ∀ k : Nat, k < i → (gt ge (gt pe k)).f ∈ pn ∧ (gt ge (gt pe k)).o ∈ pn) (fun i => pe.length - i) 0 ?_ ?_ ?_
  · simp (config := { maxSteps := 1000000 }) (disch := first | omega | (simp only [go_sem]; omega)) only [go_sem, ↓reduceIte]
    rfl
  · exact ⟨by omega, fun k hk => by omega⟩
  · rintro i ⟨hi, hk⟩
    by_cases c : i < pe.length
    · have g1 : decide ((i : Int) < pe.length) = true := decide_eq_true (by omega)
      have hb := a2.b _ (gt_mem (l := pe) (j := i) (by omega) (by omega))
      have x1 := hx (gt ge (gt pe i)).f
      have x2 := hx (gt ge (gt pe i)).o
      by_cases d1 : (gt ge (gt pe i)).f ∈ pn
      · rw [decide_eq_true d1] at x1
        by_cases d2 : (gt ge (gt pe i)).o ∈ pn
        · rw [decide_eq_true d2] at x2
          simp (config := { maxSteps := 1000000 }) (disch := first | omega | (simp only [go_sem]; omega)) only [go_sem, ↓reduceIte, c_subgraph_part_b13, g1]
          refine call_by x1 ?_
          simp (config := { maxSteps := 1000000 }) (disch := first | omega | (simp only [go_sem]; omega)) only [go_sem, ↓reduceIte]
          refine call_by x2 ?_
          simp (config := { maxSteps := 1000000 }) (disch := first | omega | (simp only [go_sem]; omega)) only [go_sem, ↓reduceIte]
          refine ⟨i + 1, by simp, ⟨by omega, fun k h => ?_⟩, by omega⟩
          by_cases e : k = i
          · subst e; exact ⟨d1, d2⟩
          · exact hk k (by omega)
        · rw [decide_eq_false d2] at x2
          have hdt : dangP ⟨gn, ge⟩ ⟨pn, pe⟩ = true := by
            rw [hD, List.any_eq_true]
            exact ⟨_, gt_mem (l := pe) (j := i) (by omega) (by omega), by simp [d2]⟩
          rw [hdt]
          simp (config := { maxSteps := 1000000 }) (disch := first | omega | (simp only [go_sem]; omega)) only [go_sem, ↓reduceIte, c_subgraph_part_b13, g1]
          refine call_by x1 ?_
          simp (config := { maxSteps := 1000000 }) (disch := first | omega | (simp only [go_sem]; omega)) only [go_sem, ↓reduceIte]
          refine call_by x2 ?_
          simp (config := { maxSteps := 1000000 }) (disch := first | omega | (simp only [go_sem]; omega)) only [go_sem, ↓reduceIte]
          try rfl
      · rw [decide_eq_false d1] at x1
        have hdt : dangP ⟨gn, ge⟩ ⟨pn, pe⟩ = true := by
          rw [hD, List.any_eq_true]
          exact ⟨_, gt_mem (l := pe) (j := i) (by omega) (by omega), by simp [d1]⟩
        rw [hdt]
        simp (config := { maxSteps := 1000000 }) (disch := first | omega | (simp only [go_sem]; omega)) only [go_sem, ↓reduceIte, c_subgraph_part_b13, g1]
        refine call_by x1 ?_
        simp (config := { maxSteps := 1000000 }) (disch := first | omega | (simp only [go_sem]; omega)) only [go_sem, ↓reduceIte]
        try rfl
    · have g1 : decide ((i : Int) < pe.length) = false := decide_eq_false (by omega)
      obtain rfl : i = pe.length := by omega
      have hdt : dangP ⟨gn, ge⟩ ⟨pn, pe⟩ = false := by
        rw [hD, List.any_eq_false]
        intro x hx
        obtain ⟨k, k1, k2⟩ := mem_gt hx
        have := hk k k1
        rw [k2] at this
        simp [this]
      rw [hdt]
      simp (config := { maxSteps := 1000000 }) (disch := first | omega | (simp only [go_sem]; omega)) only [go_sem, ↓reduceIte, c_subgraph_part_b13, g1]
      try rfl
theorem w_subgraph_Valid (hv : K_graph_Valid P F) (hp : K_subgraph_part P F) (g : G) (p : Mo) (h1 : p.n.length ≤ maxL) (h2 : p.e.length ≤ maxL) : W P (c_subgraph_Valid F) (Done [.t 4] [] (.int .i64 (validP g p)) []) (init [gD g, mD p]) := by
  refine W_of ?_
  have r1 := hv g
  have hR : validP g p = if validG g ≠ 0 then validG g else rightP g p := rfl
  rw [hR]
  by_cases c : validG g = 0
  · have r2 := hp g p c h1 h2
    rw [if_neg (by simp [c])]
    rw [c] at r1
    generalize rightP g p = v at *
    simp only [gD, mD] at *
    simp (config := { maxSteps := 1000000 }) (disch := first | omega | (simp only [go_sem]; omega)) only [go_sem, ↓reduceIte]
    refine call_by r1 ?_
    simp (config := { maxSteps := 1000000 }) (disch := first | omega | (simp only [go_sem]; omega)) only [go_sem, ↓reduceIte]
    refine call_by r2 ?_
    simp (config := { maxSteps := 1000000 }) (disch := first | omega | (simp only [go_sem]; omega)) only [go_sem, ↓reduceIte]
  · rw [if_pos c]
    generalize validG g = v at *
    simp only [gD, mD] at *
    simp (config := { maxSteps := 1000000 }) (disch := first | omega | (simp only [go_sem]; omega)) only [go_sem, ↓reduceIte]
    refine call_by r1 ?_
    simp (config := { maxSteps := 1000000 }) (disch := first | omega | (simp only [go_sem]; omega)) only [go_sem, ↓reduceIte, c]
end
end Go.Am
namespace Go.Am
open Go
set_option linter.unusedVariables false
set_option linter.unusedSimpArgs false
attribute [local irreducible] W

/-- A case: a graph with a part, and a morphism from it. -/
structure Cx where
  l : G
  g : G
  k : Mo
  m : Mo
  deriving DecidableEq, Inhabited
section
variable (P : Program) (F : String → Nat)
def Cx.sm (x : Cx) : Prop := x.k.n.length ≤ maxL ∧ x.k.e.length ≤ maxL
end
section
variable {P : Program} {F : String → Nat} {α : Type}
end
end Go.Am
namespace Go.Am
open Go
set_option linter.unusedVariables false
set_option linter.unusedSimpArgs false
attribute [local irreducible] W

theorem ints_two (l : List Int) (a b : Int) : ints l ++ [.int .i64 a, .int .i64 b] = ints (l ++ [a, b]) := by simp [ints]
attribute [go_sem] ints_two
section
variable (P : Program) (F : String → Nat)
end
section
variable {P : Program} {F : String → Nat} {α : Type}
end
end Go.Am
namespace Go.Am
open Go
set_option linter.unusedVariables false
set_option linter.unusedSimpArgs false
attribute [local irreducible] W
section
variable (P : Program) (F : String → Nat)
end
section
variable {P : Program} {F : String → Nat} {α : Type}
theorem PK.sm {g : G} {p : Mo} (h : PK g p) : p.sm := by
  have := h.len
  exact ⟨by unfold maxL; omega, by unfold maxL; omega⟩
end
end Go.Am
namespace Go.Am
open Go
set_option linter.unusedVariables false
set_option linter.unusedSimpArgs false
section
theorem nodup_ix {l : List Int} (h : ∀ i j : Nat, i < l.length → j < l.length → gt l i = gt l j → i = j) : l.Nodup := by
  unfold List.Nodup
  rw [List.pairwise_iff_getElem]
  intro i j hi hj hij e
  have := h i j hi hj (by rw [gt_nat hi, gt_nat hj, e])
  omega
theorem injM_ok {a b : G} {m : Mo} (hm : MOk a b m) : injM a b m = true ↔ m.n.Nodup ∧ m.e.Nodup := by
  unfold injM distinct
  rw [mok.2 hm]
  simp
section
variable {s : Sp}
theorem gen_inj {n nb : Nat} {F H : List Int} (hp : PrIn n (prL F H F.length)) (hF : ∀ i : Nat, i < F.length → gt F i < nb) (hH : ∀ i : Nat, i < F.length → (nb : Int) ≤ gt H i) (hn : ∀ i j : Nat, i < F.length → j < F.length → gt F i = gt F j → i = j)
    {x y : Nat} (hx : nb ≤ x ∧ x < n) (hy : nb ≤ y ∧ y < n) (e : gt (genL n (prL F H F.length)) x = gt (genL n (prL F H F.length)) y) : x = y := by
  let φ : Int → Int := fun v => if v < nb then (match (List.range F.length).find? (fun t : Nat => decide (gt F t = v)) with | some t => gt H t | none => -1 - v) else v
  have key : ∀ i : Nat, i < (prL F H F.length).length → φ (gt (prL F H F.length) i).a = φ (gt (prL F H F.length) i).b := fun i hi => by
    rw [prL_len] at hi
    rw [prL_gt hi]
    have h1 : φ (gt H i) = gt H i := if_neg (by have := hH i hi; omega)
    have h2 : φ (gt F i) = gt H i := by
      show (if gt F i < (nb : Int) then _ else _) = _
      rw [if_pos (hF i hi)]
      cases hf : (List.range F.length).find? (fun t : Nat => decide (gt F t = gt F i)) with
      | none =>
        have := List.find?_eq_none.1 hf i (by simpa using hi)
        simp at this
      | some t =>
        have ht := List.find?_some hf
        have hm := List.mem_of_find?_eq_some hf
        simp at ht hm
        rw [hn t i hm hi ht]
    rw [h1, h2]
  have f1 := gen_fun hp key _ (Nat.le_refl _) x hx.2
  have f2 := gen_fun hp key _ (Nat.le_refl _) y hy.2
  have e' : gt (genI n (prL F H F.length) (prL F H F.length).length) x = gt (genI n (prL F H F.length) (prL F H F.length).length) y := e
  rw [e', f2] at f1
  have g1 : φ (x : Int) = x := if_neg (by omega)
  have g2 : φ (y : Int) = y := if_neg (by omega)
  rw [g1, g2] at f1
  omega
theorem SOk.fN (hs : SOk s) {i : Nat} (hi : i < s.a.n.length) : gt (poF s).n i = gt s.f.n i ∧ gt (poH s).n i = (s.b.n.length : Int) + gt s.g.n i := by
  obtain ⟨k, hk, hk2⟩ := gtI (hs.f.nd i hi).1
  obtain ⟨j, hj, hj2⟩ := gtI (hs.g.nd i hi).1
  simp only [poF, poH, thenM, idM, inR]
  rw [thr_gt (by rw [hs.f.ln]; exact hi), thr_gt (by rw [hs.g.ln]; exact hi), hk2, hj2, nums_gt hk, nums_gtF hj]
  exact ⟨rfl, rfl⟩
theorem SOk.fE (hs : SOk s) {i : Nat} (hi : i < s.a.e.length) : gt (poF s).e i = gt s.f.e i ∧ gt (poH s).e i = (s.b.e.length : Int) + gt s.g.e i := by
  obtain ⟨k, hk, hk2⟩ := gtI (hs.f.ed i hi).1
  obtain ⟨j, hj, hj2⟩ := gtI (hs.g.ed i hi).1
  simp only [poF, poH, thenM, idM, inR]
  rw [thr_gt (by rw [hs.f.le]; exact hi), thr_gt (by rw [hs.g.le]; exact hi), hk2, hj2, nums_gt hk, nums_gtF hj]
  exact ⟨rfl, rfl⟩
theorem SOk.kN (hs : SOk s) {i : Nat} (hi : i < s.c.n.length) : gt (poK s).n i = gt (poQ s).n ((s.b.n.length + i : Nat) : Int) := by
  simp only [poK, thenM, inR]
  rw [thr_gt (by rw [nums_len]; exact hi), nums_gtF hi, show (s.b.n.length : Int) + i = ((s.b.n.length + i : Nat) : Int) by omega]
theorem SOk.kE (hs : SOk s) {i : Nat} (hi : i < s.c.e.length) : gt (poK s).e i = gt (poQ s).e ((s.b.e.length + i : Nat) : Int) := by
  simp only [poK, thenM, inR]
  rw [thr_gt (by rw [nums_len]; exact hi), nums_gtF hi, show (s.b.e.length : Int) + i = ((s.b.e.length + i : Nat) : Int) by omega]
theorem SOk.injN (hs : SOk s) (hn : s.f.n.Nodup) : (poK s).n.Nodup := by
  have hc := glu_cong hs.uF hs.uH
  have hl := un_len s.b s.c
  have lF := hs.uF.ln
  have lf := hs.f.ln
  refine nodup_ix fun i j hi hj e => ?_
  rw [hs.k.ln] at hi hj
  rw [hs.kN hi, hs.kN hj] at e
  have e2 := (hc.iffN (i := s.b.n.length + i) (k := s.b.n.length + j) (by omega) (by omega)).1 e
  have := gen_inj (nb := s.b.n.length) (glu_prN hs.uF hs.uH) (fun t ht => by rw [(hs.fN (by omega)).1]; exact (hs.f.nd t (by omega)).1.2) (fun t ht => by rw [(hs.fN (by omega)).2]; have := (hs.g.nd t (by omega)).1.1; omega)
    (fun t u ht hu e => by rw [(hs.fN (by omega)).1, (hs.fN (by omega)).1] at e; exact gt_inj hn (by omega) (by omega) e) (x := s.b.n.length + i) (y := s.b.n.length + j) (by omega) (by omega) e2
  omega
theorem SOk.injE (hs : SOk s) (hn : s.f.e.Nodup) : (poK s).e.Nodup := by
  have hc := glu_cong hs.uF hs.uH
  have hl := un_len s.b s.c
  have lF := hs.uF.le
  have lf := hs.f.le
  refine nodup_ix fun i j hi hj e => ?_
  rw [hs.k.le] at hi hj
  rw [hs.kE hi, hs.kE hj] at e
  have e2 := (hc.iffE (i := s.b.e.length + i) (k := s.b.e.length + j) (by omega) (by omega)).1 e
  have := gen_inj (nb := s.b.e.length) (glu_prE hs.uF hs.uH) (fun t ht => by rw [(hs.fE (by omega)).1]; exact (hs.f.ed t (by omega)).1.2) (fun t ht => by rw [(hs.fE (by omega)).2]; have := (hs.g.ed t (by omega)).1.1; omega)
    (fun t u ht hu e => by rw [(hs.fE (by omega)).1, (hs.fE (by omega)).1] at e; exact gt_inj hn (by omega) (by omega) e) (x := s.b.e.length + i) (y := s.b.e.length + j) (by omega) (by omega) e2
  omega
theorem SOk.inj (hs : SOk s) (h : injM s.a s.b s.f = true) : injM s.c (poG s) (poK s) = true := by
  obtain ⟨h1, h2⟩ := (injM_ok hs.f).1 h
  exact (injM_ok hs.k).2 ⟨hs.injN h1, hs.injE h2⟩
end
/-- A permutation. -/
structure PermI (q : List Int) (n : Nat) : Prop where
  l : q.length = n
  b : ∀ i : Nat, i < n → 0 ≤ gt q i ∧ gt q i < n
  j : ∀ i k : Nat, i < n → k < n → gt q i = gt q k → i = k
theorem PermI.of {l : List Int} {n : Nat} (h : l.Perm (nums 0 n)) : PermI l n := by
  have hl : l.length = n := by rw [h.length_eq, nums_len]
  have hn : l.Nodup := h.symm.nodup_iff.1 (nums_nodup n)
  exact ⟨hl, fun i hi => nums_mem.1 (h.mem_iff.1 (gt_mem (by omega) (by omega))), fun i k hi hk e => gt_inj hn (by omega) (by omega) e⟩
theorem PermI.nodup {l : List Int} {n : Nat} (h : PermI l n) : l.Nodup := nodup_ix fun i j hi hj e => h.j i j (by rw [← h.l]; exact hi) (by rw [← h.l]; exact hj) e
end
end Go.Am
namespace Go.Am
open Go
set_option linter.unusedVariables false
set_option linter.unusedSimpArgs false
attribute [local irreducible] W
/- subgraph.Extract -/
def c_subgraph_Extract_r0 (F : String → Nat) : List LI := [⟨some 2, .bx (.t 0), none⟩,
  ⟨some 3, .bx (.t 1), none⟩,
  ⟨some 4, .alloc [.nl 1, .nl 3], none⟩,
  ⟨some 5, .alloc [.nl 1, .nl 1], none⟩,
  ⟨some 6, .mov (.k (.int .i64 (0))), none⟩]
def c_subgraph_Extract_r1 (F : String → Nat) : List LI := [⟨some 14, .load true 2 (.t 2), none⟩,
  ⟨some 15, .load true 2 (.t 3), none⟩,
  ⟨some 16, .call (F "subgraph.Valid") [.t 14, .t 15] [], none⟩,
  ⟨some 7, .mov (.t 16), none⟩]
def c_subgraph_Extract_r2 (F : String → Nat) : List LI := [⟨some 17, .mov (.t 7), none⟩,
  ⟨some 18, .bin .neq (.t 17) (.k (.int .i64 (0))), none⟩]
def c_subgraph_Extract_r3 (F : String → Nat) : List LI := [⟨some 19, .build [.nl 1, .nl 3] [], none⟩,
  ⟨some 20, .build [.nl 1, .nl 1] [], none⟩,
  ⟨some 21, .mov (.t 7), none⟩,
  ⟨none, .store 2 (.t 4) (.t 19), none⟩,
  ⟨none, .store 2 (.t 5) (.t 20), none⟩,
  ⟨some 6, .mov (.t 21), none⟩]
def c_subgraph_Extract_r4 (F : String → Nat) : List LI := [⟨some 8, .alloc [.nl 1, .nl 3], none⟩]
def c_subgraph_Extract_r5 (F : String → Nat) : List LI := [⟨some 22, .fad 0 (.t 3), none⟩,
  ⟨some 23, .load false 1 (.t 22), none⟩,
  ⟨some 24, .len (.t 23), none⟩,
  ⟨some 25, .mov (.k (.int .i64 (0))), none⟩]
def c_subgraph_Extract_r6 (F : String → Nat) : List LI := [⟨some 26, .bin .lss (.t 25) (.t 24), none⟩]
def c_subgraph_Extract_r7 (F : String → Nat) : List LI := [⟨some 27, .iad 1 (.t 23) (.t 25), none⟩,
  ⟨some 28, .load false 1 (.t 27), none⟩,
  ⟨some 10, .mov (.t 28), none⟩]
def c_subgraph_Extract_r8 (F : String → Nat) : List LI := [⟨some 29, .fad 0 (.t 8), none⟩,
  ⟨some 30, .load false 1 (.t 29), none⟩,
  ⟨some 31, .fad 0 (.t 2), none⟩,
  ⟨some 32, .load false 1 (.t 31), none⟩,
  ⟨some 33, .mov (.t 10), none⟩,
  ⟨some 34, .iad 1 (.t 32) (.t 33), none⟩,
  ⟨some 35, .load false 1 (.t 34), none⟩,
  ⟨some 36, .buildSl 1 8 (.int .i64 (0)) 1 [(0, .t 35)], none⟩,
  ⟨some 37, .app 1 8 (.t 30) (.t 36), none⟩,
  ⟨some 38, .fad 0 (.t 8), none⟩,
  ⟨none, .store 1 (.t 38) (.t 37), none⟩]
def c_subgraph_Extract_r9 (F : String → Nat) : List LI := [⟨some 39, .bin .add (.t 25) (.k (.int .i64 (1))), none⟩,
  ⟨some 25, .mov (.t 39), none⟩]
def c_subgraph_Extract_b10 (F : String → Nat) : LC := (.seq (.reg (c_subgraph_Extract_r6 F) [2, 3, 4, 5, 8, 23, 24, 25, 26]) (.seq (.cond (.t 26) .skip (.exit 0)) (.seq (.block 1 (.seq (.reg (c_subgraph_Extract_r7 F) [2, 3, 4, 5, 8, 10, 23, 24, 25]) (.dreg [(1, none, [], true), (7, none, [1], false)] (c_subgraph_Extract_r8 F) [2, 3, 4, 5, 8, 23, 24, 25]))) (.reg (c_subgraph_Extract_r9 F) [2, 3, 4, 5, 8, 23, 24, 25]))))
def c_subgraph_Extract_r11 (F : String → Nat) : List LI := [⟨some 40, .fad 1 (.t 3), none⟩,
  ⟨some 41, .load false 1 (.t 40), none⟩,
  ⟨some 42, .len (.t 41), none⟩,
  ⟨some 43, .mov (.k (.int .i64 (0))), none⟩]
def c_subgraph_Extract_r12 (F : String → Nat) : List LI := [⟨some 44, .bin .lss (.t 43) (.t 42), none⟩]
def c_subgraph_Extract_r13 (F : String → Nat) : List LI := [⟨some 45, .iad 1 (.t 41) (.t 43), none⟩,
  ⟨some 46, .load false 1 (.t 45), none⟩,
  ⟨some 12, .mov (.t 46), none⟩]
def c_subgraph_Extract_r14 (F : String → Nat) : List LI := [⟨some 47, .fad 1 (.t 2), none⟩,
  ⟨some 48, .load false 1 (.t 47), none⟩,
  ⟨some 49, .mov (.t 12), none⟩,
  ⟨some 50, .iad 3 (.t 48) (.t 49), none⟩,
  ⟨some 51, .load true 3 (.t 50), none⟩,
  ⟨some 13, .alloc [.int .i64 (0), .int .i64 (0), .int .i64 (0)], none⟩,
  ⟨none, .store 3 (.t 13) (.t 51), none⟩]
def c_subgraph_Extract_r15 (F : String → Nat) : List LI := [⟨some 53, .fad 0 (.t 3), none⟩,
  ⟨some 54, .load false 1 (.t 53), none⟩,
  ⟨some 55, .fad 1 (.t 13), none⟩,
  ⟨some 56, .load false 1 (.t 55), none⟩,
  ⟨some 57, .call (F "slices.BinarySearch.I") [.t 54, .t 56] [], none⟩,
  ⟨some 52, .mov (.t 57), none⟩,
  ⟨some 58, .ext (.t 52) 0, none⟩,
  ⟨some 59, .ext (.t 52) 1, none⟩,
  ⟨some 60, .fad 1 (.t 13), none⟩,
  ⟨none, .store 1 (.t 60) (.t 58), none⟩]
def c_subgraph_Extract_r16 (F : String → Nat) : List LI := [⟨some 62, .fad 0 (.t 3), none⟩,
  ⟨some 63, .load false 1 (.t 62), none⟩,
  ⟨some 64, .fad 2 (.t 13), none⟩,
  ⟨some 65, .load false 1 (.t 64), none⟩,
  ⟨some 66, .call (F "slices.BinarySearch.I") [.t 63, .t 65] [], none⟩,
  ⟨some 61, .mov (.t 66), none⟩,
  ⟨some 67, .ext (.t 61) 0, none⟩,
  ⟨some 68, .ext (.t 61) 1, none⟩,
  ⟨some 69, .fad 2 (.t 13), none⟩,
  ⟨none, .store 1 (.t 69) (.t 67), none⟩]
def c_subgraph_Extract_r17 (F : String → Nat) : List LI := [⟨some 70, .fad 1 (.t 8), none⟩,
  ⟨some 71, .load false 1 (.t 70), none⟩,
  ⟨some 72, .load true 3 (.t 13), none⟩,
  ⟨some 73, .buildSl 3 24 (.agg [.int .i64 (0), .int .i64 (0), .int .i64 (0)]) 1 [(0, .t 72)], none⟩,
  ⟨some 74, .app 3 24 (.t 71) (.t 73), none⟩,
  ⟨some 75, .fad 1 (.t 8), none⟩,
  ⟨none, .store 1 (.t 75) (.t 74), none⟩]
def c_subgraph_Extract_r18 (F : String → Nat) : List LI := [⟨some 76, .bin .add (.t 43) (.k (.int .i64 (1))), none⟩,
  ⟨some 43, .mov (.t 76), none⟩]
def c_subgraph_Extract_b19 (F : String → Nat) : LC := (.seq (.reg (c_subgraph_Extract_r12 F) [2, 3, 4, 5, 8, 41, 42, 43, 44]) (.seq (.cond (.t 44) .skip (.exit 2)) (.seq (.block 3 (.seq (.reg (c_subgraph_Extract_r13 F) [2, 3, 4, 5, 8, 12, 41, 42, 43]) (.seq (.reg (c_subgraph_Extract_r14 F) [2, 3, 4, 5, 8, 13, 41, 42, 43]) (.seq (.reg (c_subgraph_Extract_r15 F) [2, 3, 4, 5, 8, 13, 41, 42, 43]) (.seq (.reg (c_subgraph_Extract_r16 F) [2, 3, 4, 5, 8, 13, 41, 42, 43]) (.reg (c_subgraph_Extract_r17 F) [2, 3, 4, 5, 8, 41, 42, 43])))))) (.reg (c_subgraph_Extract_r18 F) [2, 3, 4, 5, 8, 41, 42, 43]))))
def c_subgraph_Extract_r20 (F : String → Nat) : List LI := [⟨some 77, .load true 2 (.t 8), none⟩,
  ⟨some 78, .fad 0 (.t 3), none⟩,
  ⟨some 79, .load false 1 (.t 78), none⟩,
  ⟨some 80, .call (F "slices.Clone.I") [.t 79] [], none⟩,
  ⟨some 81, .fad 1 (.t 3), none⟩,
  ⟨some 82, .load false 1 (.t 81), none⟩,
  ⟨some 83, .call (F "slices.Clone.I") [.t 82] [], none⟩,
  ⟨some 84, .build [.nl 1, .nl 1] [(0, 1, .t 80), (1, 1, .t 83)], none⟩,
  ⟨none, .store 2 (.t 4) (.t 77), none⟩,
  ⟨none, .store 2 (.t 5) (.t 84), none⟩,
  ⟨some 6, .mov (.k (.int .i64 (0))), none⟩]
def c_subgraph_Extract (F : String → Nat) : LC := (.seq (.reg (c_subgraph_Extract_r0 F) [2, 3, 4, 5]) (.seq (.seq (.reg (c_subgraph_Extract_r1 F) [2, 3, 4, 5, 7]) (.seq (.reg (c_subgraph_Extract_r2 F) [2, 3, 4, 5, 7, 18]) (.cond (.t 18) (.seq (.reg (c_subgraph_Extract_r3 F) [4, 5, 6]) .ret) .skip))) (.seq (.reg (c_subgraph_Extract_r4 F) [2, 3, 4, 5, 8]) (.seq (.seq (.reg (c_subgraph_Extract_r5 F) [2, 3, 4, 5, 8, 23, 24, 25]) (.block 0 (.loop [2, 3, 4, 5, 8, 23, 24, 25] (c_subgraph_Extract_b10 F)))) (.seq (.seq (.reg (c_subgraph_Extract_r11 F) [2, 3, 4, 5, 8, 41, 42, 43]) (.block 2 (.loop [2, 3, 4, 5, 8, 41, 42, 43] (c_subgraph_Extract_b19 F)))) (.seq (.dreg [(0, none, [], true), (3, none, [0], true), (5, (some 16), [3], false), (6, none, [0], false)] (c_subgraph_Extract_r20 F) [4, 5, 6]) .ret))))))
def h_subgraph_Extract : Hints := ⟨[], fun _ => [], tab [(0, [2, 3, 4, 5]), (1, [2, 3, 4, 5, 7]), (2, [2, 3, 4, 5, 7, 18]), (3, [4, 5, 6]), (4, [2, 3, 4, 5, 8]), (5, [2, 3, 4, 5, 8, 23, 24, 25]), (6, [2, 3, 4, 5, 8, 23, 24, 25, 26]), (7, [2, 3, 4, 5, 8, 10, 23, 24, 25]), (8, [2, 3, 4, 5, 8, 23, 24, 25]), (9, [2, 3, 4, 5, 8, 23, 24, 25]), (10, [2, 3, 4, 5, 8, 41, 42, 43]), (11, [2, 3, 4, 5, 8, 41, 42, 43, 44]), (12, [2, 3, 4, 5, 8, 12, 41, 42, 43]), (13, [2, 3, 4, 5, 8, 13, 41, 42, 43]), (14, [2, 3, 4, 5, 8, 13, 41, 42, 43]), (15, [2, 3, 4, 5, 8, 13, 41, 42, 43]), (16, [2, 3, 4, 5, 8, 41, 42, 43]), (17, [2, 3, 4, 5, 8, 41, 42, 43]), (18, [4, 5, 6])], tab [(6, [2, 3, 4, 5, 8, 23, 24, 25]), (11, [2, 3, 4, 5, 8, 41, 42, 43])]⟩

attribute [go_sem] c_subgraph_Extract_r0 c_subgraph_Extract_r1 c_subgraph_Extract_r2 c_subgraph_Extract_r3 c_subgraph_Extract_r4 c_subgraph_Extract_r5 c_subgraph_Extract_r6 c_subgraph_Extract_r7 c_subgraph_Extract_r8 c_subgraph_Extract_r9 c_subgraph_Extract_r11 c_subgraph_Extract_r12 c_subgraph_Extract_r13 c_subgraph_Extract_r14 c_subgraph_Extract_r15 c_subgraph_Extract_r16 c_subgraph_Extract_r17 c_subgraph_Extract_r18 c_subgraph_Extract_r20 c_subgraph_Extract
/-- The edges of a part, over its own nodes. -/
def exL (g : G) (pn pe : List Int) : List E := pe.map fun k => ⟨(gt g.e k).t, (cntB pn (gt g.e k).f : Int), (cntB pn (gt g.e k).o : Int)⟩
/-- The graph of a part. -/
def ptG (g : G) (p : Mo) : G := ⟨thr p.n g.n, exL g p.n p.e⟩
def exR (g : G) (p : Mo) : G × Mo × Int := if validP g p ≠ 0 then (g0, m0, validP g p) else (ptG g p, p, 0)
section
variable (P : Program) (F : String → Nat)
def K_subgraph_Extract : Prop := ∀ (g : G) (p : Mo), p.sm → FC P (F "subgraph.Extract") [gD g, mD p] (.tup [gA (exR g p).1, mA (exR g p).2.1, .int .i64 (exR g p).2.2]) []
end
section
variable {P : Program} {F : String → Nat} {α : Type}
theorem exL_len (g : G) (pn pe : List Int) : (exL g pn pe).length = pe.length := by simp [exL]
theorem exL_step {g : G} {pn pe : List Int} {i : Nat} (h : i < pe.length) : exL g pn (pe.take (i + 1)) = exL g pn (pe.take i) ++ [⟨(gt g.e (gt pe i)).t, (cntB pn (gt g.e (gt pe i)).f : Int), (cntB pn (gt g.e (gt pe i)).o : Int)⟩] := by
  rw [take_gt h]; simp [exL]
theorem w_subgraph_Extract (hv : K_subgraph_Valid P F) (hb : K_slices_BinarySearch_I P F) (hc : K_slices_Clone_I P F) (g : G) (p : Mo) (h1 : p.sm) : W P (c_subgraph_Extract F) (Done [.c 4 true 2, .c 5 true 2, .t 6] [] (.tup [gA (exR g p).1, mA (exR g p).2.1, .int .i64 (exR g p).2.2]) []) (init [gD g, mD p]) := by
  refine W_of ?_
  have r1 := hv g p h1.1 h1.2
  have hR : exR g p = if validP g p ≠ 0 then (g0, m0, validP g p) else (ptG g p, p, 0) := rfl
  have h0 : validP g p = 0 → PK g p := fun h => validP_ok.1 h
  generalize validP g p = v at *
  rw [hR]
  clear hR
  obtain ⟨gn, ge⟩ := g
  obtain ⟨pn, pe⟩ := p
  simp only [gD, mD] at *
  simp (config := { maxSteps := 1000000 }) (disch := first | omega | (simp only [go_sem]; omega)) only [go_sem, ↓reduceIte]
  refine call_by r1 ?_
  simp (config := { maxSteps := 1000000 }) (disch := first | omega | (simp only [go_sem]; omega)) only [go_sem, ↓reduceIte]
  refine bran_ndec (fun c => ?_) (fun c => ?_)
  · simp (config := { maxSteps := 1000000 }) (disch := first | omega | (simp only [go_sem]; omega)) only [go_sem, ↓reduceIte]
    simp [c, mA, gA, m0, g0, ints, eds]
  have hk := h0 c
  have hl := hk.len
  have hs := valid_spec hk.v
  rw [if_neg (by simp [c])]
  clear h0 r1
  simp only [ptG, gA, mA] at *
  have rb := fun x => hb pn x hk.n.p (by omega)
  simp (config := { maxSteps := 1000000 }) (disch := first | omega | (simp only [go_sem]; omega)) only [go_sem, ↓reduceIte]
  refine W_loop (fun i : Nat => ⟨[(2, .pt 0 0), (3, .pt 1 0), (4, .pt 4 0), (5, .pt 7 0), (8, .pt 10 0), (23, .lst 1 (ints pn)), (24, .int .i64 pn.length), (25, .int .i64 i)],
    [(0, .box [.lst 1 (ints gn), .lst 3 (eds ge)]), (1, .box [.lst 1 (ints pn), .lst 1 (ints pe)]), (2, .arr 1 []), (3, .arr 3 []), (4, .box [.sl 2 0 0, .sl 3 0 0]), (5, .arr 1 []), (6, .arr 1 []), (7, .box [.sl 5 0 0, .sl 6 0 0]),
     (8, .arr 1 (ints (thr (pn.take i) gn))), (9, .arr 3 []), (10, .box [.sl 8 0 i, .sl 9 0 0])], 11⟩) (fun i => i ≤ pn.length) (fun i => pn.length - i) 0 ?_ ?_ ?_
  · simp (config := { maxSteps := 1000000 }) (disch := first | omega | (simp only [go_sem]; omega)) only [go_sem, ↓reduceIte]
    rfl
  · simp
  · intro i hi
    have tl : (thr (pn.take i) gn).length = i := by rw [thr_len, List.length_take]; omega
    by_cases e : i < pn.length
    · have d1 : decide ((i : Int) < pn.length) = true := decide_eq_true (by omega)
      have hb1 := hk.n.b _ (gt_mem (l := pn) (j := (i : Int)) (by omega) (by omega))
      simp only at hb1
      have hst := thr_step (b := gn) e
      simp (config := { maxSteps := 1000000 }) (disch := first | omega | (simp only [go_sem]; omega)) only [go_sem, ↓reduceIte, c_subgraph_Extract_b10, d1, tl]
      exact ⟨i + 1, by simp [hst], by omega, by omega⟩
    · have d1 : decide ((i : Int) < pn.length) = false := decide_eq_false (by omega)
      obtain rfl : i = pn.length := by omega
      rw [List.take_length] at tl
      simp (config := { maxSteps := 1000000 }) (disch := first | omega | (simp only [go_sem]; omega)) only [go_sem, ↓reduceIte, c_subgraph_Extract_b10, d1, tl]
      refine W_loop (fun i : Nat => ⟨[(2, .pt 0 0), (3, .pt 1 0), (4, .pt 4 0), (5, .pt 7 0), (8, .pt 10 0), (41, .lst 1 (ints pe)), (42, .int .i64 pe.length), (43, .int .i64 i)],
        [(0, .box [.lst 1 (ints gn), .lst 3 (eds ge)]), (1, .box [.lst 1 (ints pn), .lst 1 (ints pe)]), (2, .arr 1 []), (3, .arr 3 []), (4, .box [.sl 2 0 0, .sl 3 0 0]), (5, .arr 1 []), (6, .arr 1 []), (7, .box [.sl 5 0 0, .sl 6 0 0]),
         (8, .arr 1 (ints (thr pn gn))), (9, .arr 3 (eds (exL ⟨gn, ge⟩ pn (pe.take i)))), (10, .box [.sl 8 0 pn.length, .sl 9 0 i])], 11⟩) (fun i => i ≤ pe.length) (fun i => pe.length - i) 0 ?_ ?_ ?_
      · simp (config := { maxSteps := 1000000 }) (disch := first | omega | (simp only [go_sem]; omega)) only [go_sem, ↓reduceIte]
        rfl
      · simp
      · intro i hi
        have el : (exL ⟨gn, ge⟩ pn (pe.take i)).length = i := by rw [exL_len, List.length_take]; omega
        by_cases e : i < pe.length
        · have d1 : decide ((i : Int) < pe.length) = true := decide_eq_true (by omega)
          have hb1 := hk.e.b _ (gt_mem (l := pe) (j := (i : Int)) (by omega) (by omega))
          simp only at hb1
          have hst := exL_step (g := ⟨gn, ge⟩) (pn := pn) e
          simp only at hst
          have rf := rb (gt ge (gt pe i)).f
          have ro := rb (gt ge (gt pe i)).o
          simp (config := { maxSteps := 1000000 }) (disch := first | omega | (simp only [go_sem]; omega)) only [go_sem, ↓reduceIte, c_subgraph_Extract_b19, d1, el]
          refine call_by rf ?_
          simp (config := { maxSteps := 1000000 }) (disch := first | omega | (simp only [go_sem]; omega)) only [go_sem, ↓reduceIte]
          refine call_by ro ?_
          simp (config := { maxSteps := 1000000 }) (disch := first | omega | (simp only [go_sem]; omega)) only [go_sem, ↓reduceIte, el]
          exact ⟨i + 1, by simp [hst], by omega, by omega⟩
        · have d1 : decide ((i : Int) < pe.length) = false := decide_eq_false (by omega)
          obtain rfl : i = pe.length := by omega
          rw [List.take_length] at el
          have rc1 := hc pn (by omega)
          have rc2 := hc pe (by omega)
          simp (config := { maxSteps := 1000000 }) (disch := first | omega | (simp only [go_sem]; omega)) only [go_sem, ↓reduceIte, c_subgraph_Extract_b19, d1, tl, el]
          refine call_by rc1 ?_
          simp (config := { maxSteps := 1000000 }) (disch := first | omega | (simp only [go_sem]; omega)) only [go_sem, ↓reduceIte]
          refine call_by rc2 ?_
          simp (config := { maxSteps := 1000000 }) (disch := first | omega | (simp only [go_sem]; omega)) only [go_sem, ↓reduceIte, tl, el]
          rfl
theorem cntB_ix {l : List Int} (h : l.Pairwise (· < ·)) {i : Nat} (hi : i < l.length) : cntB l (gt l i) = i :=
  (cntB_eq h (Nat.le_of_lt hi) (fun k hk => pair_gt h hk hi) fun k hk hk2 => by
    by_cases e : i = k
    · rw [e]; omega
    · have := pair_gt h (i := i) (j := k) (by omega) hk2; omega).1
theorem idx_asc {l : List Int} (h : l.Pairwise (· < ·)) {x : Int} (hx : x ∈ l) : idx (fun y => decide (x = y)) l 0 = cntB l x := by
  have hne : idx (fun y => decide (x = y)) l 0 ≠ -1 := fun e => by
    have := idx_none _ l 0 (by omega) e x hx
    simp at this
  obtain ⟨k, h1, h2, h3, _⟩ := idx_some _ l 0 hne
  have hk : x = gt l k := by simpa using h3
  rw [h1, hk, cntB_ix h h2]
  omega
end
end Go.Am
namespace Go.Am
open Go
set_option linter.unusedVariables false
set_option linter.unusedSimpArgs false
attribute [local irreducible] W
section
variable (P : Program) (F : String → Nat)
end
section
variable {P : Program} {F : String → Nat} {α : Type}
theorem MOk.nb {a b : G} {m : Mo} (k : MOk a b m) : ∀ x ∈ m.n, 0 ≤ x ∧ x < b.n.length := fun x hx => by
  obtain ⟨i, hi, rfl⟩ := mem_gt hx
  exact (k.nd i (by have := k.ln; omega)).1
theorem MOk.eb {a b : G} {m : Mo} (k : MOk a b m) : ∀ x ∈ m.e, 0 ≤ x ∧ x < b.e.length := fun x hx => by
  obtain ⟨i, hi, rfl⟩ := mem_gt hx
  exact (k.ed i (by have := k.le; omega)).1
end
end Go.Am
namespace Go.Am
open Go
set_option linter.unusedVariables false
set_option linter.unusedSimpArgs false
attribute [local irreducible] W
/- square.valid -/
def c_square_valid_r0 (F : String → Nat) : List LI := [⟨some 1, .bx (.t 0), none⟩,
  ⟨some 2, .mov (.k (.int .i64 (0))), none⟩]
def c_square_valid_r1 (F : String → Nat) : List LI := [⟨some 6, .fad 0 (.t 1), none⟩,
  ⟨some 7, .load true 2 (.t 6), none⟩,
  ⟨some 8, .fad 2 (.t 1), none⟩,
  ⟨some 9, .load true 2 (.t 8), none⟩,
  ⟨some 10, .fad 8 (.t 1), none⟩,
  ⟨some 11, .load true 2 (.t 10), none⟩,
  ⟨some 12, .call (F "morphism.Valid") [.t 7, .t 9, .t 11] [], none⟩,
  ⟨some 3, .mov (.t 12), none⟩]
def c_square_valid_r2 (F : String → Nat) : List LI := [⟨some 13, .mov (.t 3), none⟩,
  ⟨some 14, .bin .neq (.t 13) (.k (.int .i64 (0))), none⟩]
def c_square_valid_r3 (F : String → Nat) : List LI := [⟨some 15, .mov (.t 3), none⟩,
  ⟨some 2, .mov (.t 15), none⟩]
def c_square_valid_r4 (F : String → Nat) : List LI := [⟨some 16, .fad 0 (.t 1), none⟩,
  ⟨some 17, .load true 2 (.t 16), none⟩,
  ⟨some 18, .fad 4 (.t 1), none⟩,
  ⟨some 19, .load true 2 (.t 18), none⟩,
  ⟨some 20, .fad 10 (.t 1), none⟩,
  ⟨some 21, .load true 2 (.t 20), none⟩,
  ⟨some 22, .call (F "morphism.Valid") [.t 17, .t 19, .t 21] [], none⟩,
  ⟨some 4, .mov (.t 22), none⟩]
def c_square_valid_r5 (F : String → Nat) : List LI := [⟨some 23, .mov (.t 4), none⟩,
  ⟨some 24, .bin .neq (.t 23) (.k (.int .i64 (0))), none⟩]
def c_square_valid_r6 (F : String → Nat) : List LI := [⟨some 25, .mov (.t 4), none⟩,
  ⟨some 2, .mov (.t 25), none⟩]
def c_square_valid_r7 (F : String → Nat) : List LI := [⟨some 26, .fad 2 (.t 1), none⟩,
  ⟨some 27, .load true 2 (.t 26), none⟩,
  ⟨some 28, .fad 6 (.t 1), none⟩,
  ⟨some 29, .load true 2 (.t 28), none⟩,
  ⟨some 30, .fad 12 (.t 1), none⟩,
  ⟨some 31, .load true 2 (.t 30), none⟩,
  ⟨some 32, .call (F "morphism.Valid") [.t 27, .t 29, .t 31] [], none⟩,
  ⟨some 5, .mov (.t 32), none⟩]
def c_square_valid_r8 (F : String → Nat) : List LI := [⟨some 33, .mov (.t 5), none⟩,
  ⟨some 34, .bin .neq (.t 33) (.k (.int .i64 (0))), none⟩]
def c_square_valid_r9 (F : String → Nat) : List LI := [⟨some 35, .mov (.t 5), none⟩,
  ⟨some 2, .mov (.t 35), none⟩]
def c_square_valid_r10 (F : String → Nat) : List LI := [⟨some 36, .fad 4 (.t 1), none⟩,
  ⟨some 37, .load true 2 (.t 36), none⟩,
  ⟨some 38, .fad 6 (.t 1), none⟩,
  ⟨some 39, .load true 2 (.t 38), none⟩,
  ⟨some 40, .fad 14 (.t 1), none⟩,
  ⟨some 41, .load true 2 (.t 40), none⟩,
  ⟨some 42, .call (F "morphism.Valid") [.t 37, .t 39, .t 41] [], none⟩,
  ⟨some 2, .mov (.t 42), none⟩]
def c_square_valid (F : String → Nat) : LC := (.seq (.reg (c_square_valid_r0 F) [1]) (.seq (.seq (.reg (c_square_valid_r1 F) [1, 3]) (.seq (.reg (c_square_valid_r2 F) [1, 3, 14]) (.cond (.t 14) (.seq (.reg (c_square_valid_r3 F) [2]) .ret) .skip))) (.seq (.seq (.reg (c_square_valid_r4 F) [1, 4]) (.seq (.reg (c_square_valid_r5 F) [1, 4, 24]) (.cond (.t 24) (.seq (.reg (c_square_valid_r6 F) [2]) .ret) .skip))) (.seq (.seq (.reg (c_square_valid_r7 F) [1, 5]) (.seq (.reg (c_square_valid_r8 F) [1, 5, 34]) (.cond (.t 34) (.seq (.reg (c_square_valid_r9 F) [2]) .ret) .skip))) (.seq (.reg (c_square_valid_r10 F) [2]) .ret)))))
def h_square_valid : Hints := ⟨[], fun _ => [], tab [(0, [1]), (1, [1, 3]), (2, [1, 3, 14]), (3, [2]), (4, [1, 4]), (5, [1, 4, 24]), (6, [2]), (7, [1, 5]), (8, [1, 5, 34]), (9, [2]), (10, [2])], tab []⟩

/- r14.Valid -/
def c_r14_Valid_r0 (F : String → Nat) : List LI := [⟨some 1, .bx (.t 0), none⟩,
  ⟨some 2, .mov (.k (.int .i64 (0))), none⟩]
def c_r14_Valid_r1 (F : String → Nat) : List LI := [⟨some 6, .fad 0 (.t 1), none⟩,
  ⟨some 7, .load true 2 (.t 6), none⟩,
  ⟨some 8, .fad 2 (.t 1), none⟩,
  ⟨some 9, .load true 2 (.t 8), none⟩,
  ⟨some 10, .fad 8 (.t 1), none⟩,
  ⟨some 11, .load true 2 (.t 10), none⟩,
  ⟨some 12, .call (F "r06.Valid") [.t 7, .t 9, .t 11] [], none⟩,
  ⟨some 3, .mov (.t 12), none⟩]
def c_r14_Valid_r2 (F : String → Nat) : List LI := [⟨some 13, .mov (.t 3), none⟩,
  ⟨some 14, .bin .neq (.t 13) (.k (.int .i64 (0))), none⟩]
def c_r14_Valid_r3 (F : String → Nat) : List LI := [⟨some 15, .mov (.t 3), none⟩,
  ⟨some 2, .mov (.t 15), none⟩]
def c_r14_Valid_r4 (F : String → Nat) : List LI := [⟨some 16, .fad 0 (.t 1), none⟩,
  ⟨some 17, .load true 2 (.t 16), none⟩,
  ⟨some 18, .fad 4 (.t 1), none⟩,
  ⟨some 19, .load true 2 (.t 18), none⟩,
  ⟨some 20, .fad 10 (.t 1), none⟩,
  ⟨some 21, .load true 2 (.t 20), none⟩,
  ⟨some 22, .call (F "r06.Valid") [.t 17, .t 19, .t 21] [], none⟩,
  ⟨some 4, .mov (.t 22), none⟩]
def c_r14_Valid_r5 (F : String → Nat) : List LI := [⟨some 23, .mov (.t 4), none⟩,
  ⟨some 24, .bin .neq (.t 23) (.k (.int .i64 (0))), none⟩]
def c_r14_Valid_r6 (F : String → Nat) : List LI := [⟨some 25, .mov (.t 4), none⟩,
  ⟨some 2, .mov (.t 25), none⟩]
def c_r14_Valid_r7 (F : String → Nat) : List LI := [⟨some 26, .fad 2 (.t 1), none⟩,
  ⟨some 27, .load true 2 (.t 26), none⟩,
  ⟨some 28, .fad 6 (.t 1), none⟩,
  ⟨some 29, .load true 2 (.t 28), none⟩,
  ⟨some 30, .fad 12 (.t 1), none⟩,
  ⟨some 31, .load true 2 (.t 30), none⟩,
  ⟨some 32, .call (F "r06.Valid") [.t 27, .t 29, .t 31] [], none⟩,
  ⟨some 5, .mov (.t 32), none⟩]
def c_r14_Valid_r8 (F : String → Nat) : List LI := [⟨some 33, .mov (.t 5), none⟩,
  ⟨some 34, .bin .neq (.t 33) (.k (.int .i64 (0))), none⟩]
def c_r14_Valid_r9 (F : String → Nat) : List LI := [⟨some 35, .mov (.t 5), none⟩,
  ⟨some 2, .mov (.t 35), none⟩]
def c_r14_Valid_r10 (F : String → Nat) : List LI := [⟨some 36, .fad 4 (.t 1), none⟩,
  ⟨some 37, .load true 2 (.t 36), none⟩,
  ⟨some 38, .fad 6 (.t 1), none⟩,
  ⟨some 39, .load true 2 (.t 38), none⟩,
  ⟨some 40, .fad 14 (.t 1), none⟩,
  ⟨some 41, .load true 2 (.t 40), none⟩,
  ⟨some 42, .call (F "r06.Valid") [.t 37, .t 39, .t 41] [], none⟩,
  ⟨some 2, .mov (.t 42), none⟩]
def c_r14_Valid (F : String → Nat) : LC := (.seq (.reg (c_r14_Valid_r0 F) [1]) (.seq (.seq (.reg (c_r14_Valid_r1 F) [1, 3]) (.seq (.reg (c_r14_Valid_r2 F) [1, 3, 14]) (.cond (.t 14) (.seq (.reg (c_r14_Valid_r3 F) [2]) .ret) .skip))) (.seq (.seq (.reg (c_r14_Valid_r4 F) [1, 4]) (.seq (.reg (c_r14_Valid_r5 F) [1, 4, 24]) (.cond (.t 24) (.seq (.reg (c_r14_Valid_r6 F) [2]) .ret) .skip))) (.seq (.seq (.reg (c_r14_Valid_r7 F) [1, 5]) (.seq (.reg (c_r14_Valid_r8 F) [1, 5, 34]) (.cond (.t 34) (.seq (.reg (c_r14_Valid_r9 F) [2]) .ret) .skip))) (.seq (.reg (c_r14_Valid_r10 F) [2]) .ret)))))
def h_r14_Valid : Hints := ⟨[], fun _ => [], tab [(0, [1]), (1, [1, 3]), (2, [1, 3, 14]), (3, [2]), (4, [1, 4]), (5, [1, 4, 24]), (6, [2]), (7, [1, 5]), (8, [1, 5, 34]), (9, [2]), (10, [2])], tab []⟩

/- square.follow -/
def c_square_follow_r0 (F : String → Nat) : List LI := [⟨some 4, .mov (.k (.nl 1)), none⟩]
def c_square_follow_r1 (F : String → Nat) : List LI := [⟨some 8, .mov (.t 0), none⟩,
  ⟨some 9, .len (.t 8), none⟩,
  ⟨some 10, .makeSl 1 8 (.int .i64 (0)) (.t 9), none⟩,
  ⟨some 5, .mov (.t 10), none⟩]
def c_square_follow_r2 (F : String → Nat) : List LI := [⟨some 11, .mov (.t 0), none⟩,
  ⟨some 12, .len (.t 11), none⟩,
  ⟨some 13, .mov (.k (.int .i64 (0))), none⟩]
def c_square_follow_r3 (F : String → Nat) : List LI := [⟨some 14, .bin .lss (.t 13) (.t 12), none⟩]
def c_square_follow_r4 (F : String → Nat) : List LI := [⟨some 15, .mov (.t 13), none⟩,
  ⟨some 16, .iad 1 (.t 11) (.t 13), none⟩,
  ⟨some 17, .load false 1 (.t 16), none⟩,
  ⟨some 6, .mov (.t 15), none⟩,
  ⟨some 7, .mov (.t 17), none⟩]
def c_square_follow_r5 (F : String → Nat) : List LI := [⟨some 18, .mov (.t 5), none⟩,
  ⟨some 19, .mov (.t 6), none⟩,
  ⟨some 20, .mov (.t 1), none⟩,
  ⟨some 21, .mov (.t 7), none⟩,
  ⟨some 22, .iad 1 (.t 20) (.t 21), none⟩,
  ⟨some 23, .load false 1 (.t 22), none⟩,
  ⟨some 24, .iad 1 (.t 18) (.t 19), none⟩,
  ⟨none, .store 1 (.t 24) (.t 23), none⟩]
def c_square_follow_r6 (F : String → Nat) : List LI := [⟨some 25, .bin .add (.t 13) (.k (.int .i64 (1))), none⟩,
  ⟨some 13, .mov (.t 25), none⟩]
def c_square_follow_b7 (F : String → Nat) : LC := (.seq (.reg (c_square_follow_r3 F) [1, 5, 11, 12, 13, 14]) (.seq (.cond (.t 14) .skip (.exit 0)) (.seq (.block 1 (.seq (.reg (c_square_follow_r4 F) [1, 5, 6, 7, 11, 12, 13]) (.reg (c_square_follow_r5 F) [1, 5, 11, 12, 13]))) (.reg (c_square_follow_r6 F) [1, 5, 11, 12, 13]))))
def c_square_follow_r8 (F : String → Nat) : List LI := [⟨some 26, .mov (.t 5), none⟩,
  ⟨some 4, .mov (.t 26), none⟩]
def c_square_follow (F : String → Nat) : LC := (.seq (.reg (c_square_follow_r0 F) [0, 1]) (.seq (.reg (c_square_follow_r1 F) [0, 1, 5]) (.seq (.seq (.reg (c_square_follow_r2 F) [1, 5, 11, 12, 13]) (.block 0 (.loop [1, 5, 11, 12, 13] (c_square_follow_b7 F)))) (.seq (.reg (c_square_follow_r8 F) [4]) .ret))))
def h_square_follow : Hints := ⟨[], fun _ => [], tab [(0, [0, 1]), (1, [0, 1, 5]), (2, [1, 5, 11, 12, 13]), (3, [1, 5, 11, 12, 13, 14]), (4, [1, 5, 6, 7, 11, 12, 13]), (5, [1, 5, 11, 12, 13]), (6, [1, 5, 11, 12, 13]), (7, [4])], tab [(3, [1, 5, 11, 12, 13])]⟩

/- square.then -/
def c_square_then_r0 (F : String → Nat) : List LI := [⟨some 2, .bx (.t 0), none⟩,
  ⟨some 3, .bx (.t 1), none⟩,
  ⟨some 4, .alloc [.nl 1, .nl 1], none⟩]
def c_square_then_r1 (F : String → Nat) : List LI := [⟨some 5, .fad 0 (.t 2), none⟩,
  ⟨some 6, .load false 1 (.t 5), none⟩,
  ⟨some 7, .fad 0 (.t 3), none⟩,
  ⟨some 8, .load false 1 (.t 7), none⟩,
  ⟨some 9, .call (F "square.follow") [.t 6, .t 8] [], none⟩,
  ⟨some 10, .fad 1 (.t 2), none⟩,
  ⟨some 11, .load false 1 (.t 10), none⟩,
  ⟨some 12, .fad 1 (.t 3), none⟩,
  ⟨some 13, .load false 1 (.t 12), none⟩,
  ⟨some 14, .call (F "square.follow") [.t 11, .t 13] [], none⟩,
  ⟨some 15, .build [.nl 1, .nl 1] [(0, 1, .t 9), (1, 1, .t 14)], none⟩,
  ⟨none, .store 2 (.t 4) (.t 15), none⟩]
def c_square_then (F : String → Nat) : LC := (.seq (.reg (c_square_then_r0 F) [2, 3, 4]) (.seq (.dreg [(4, none, [], true), (6, (some 32), [4], false), (8, (some 128), [4], false)] (c_square_then_r1 F) [4]) .ret))
def h_square_then : Hints := ⟨[], fun _ => [], tab [(0, [2, 3, 4]), (1, [4])], tab []⟩

/- square.commutes -/
def c_square_commutes_r0 (F : String → Nat) : List LI := [⟨some 1, .bx (.t 0), none⟩,
  ⟨some 2, .mov (.k (.bool false)), none⟩]
def c_square_commutes_r1 (F : String → Nat) : List LI := [⟨some 3, .fad 8 (.t 1), none⟩,
  ⟨some 4, .load true 2 (.t 3), none⟩,
  ⟨some 5, .fad 12 (.t 1), none⟩,
  ⟨some 6, .load true 2 (.t 5), none⟩,
  ⟨some 7, .call (F "square.then") [.t 4, .t 6] [], none⟩,
  ⟨some 8, .fad 10 (.t 1), none⟩,
  ⟨some 9, .load true 2 (.t 8), none⟩,
  ⟨some 10, .fad 14 (.t 1), none⟩,
  ⟨some 11, .load true 2 (.t 10), none⟩,
  ⟨some 12, .call (F "square.then") [.t 9, .t 11] [], none⟩,
  ⟨some 13, .call (F "morphism.Same") [.t 7, .t 12] [], none⟩,
  ⟨some 2, .mov (.t 13), none⟩]
def c_square_commutes (F : String → Nat) : LC := (.seq (.reg (c_square_commutes_r0 F) [1]) (.seq (.dreg [(4, none, [], true), (6, (some 32), [4], false), (8, (some 128), [4], false)] (c_square_commutes_r1 F) [2]) .ret))
def h_square_commutes : Hints := ⟨[], fun _ => [], tab [(0, [1]), (1, [2])], tab []⟩

/- square.copied -/
def c_square_copied_r0 (F : String → Nat) : List LI := [⟨some 1, .bx (.t 0), none⟩,
  ⟨some 2, .alloc [.nl 1, .nl 3], none⟩]
def c_square_copied_r1 (F : String → Nat) : List LI := [⟨some 3, .fad 0 (.t 1), none⟩,
  ⟨some 4, .load false 1 (.t 3), none⟩,
  ⟨some 5, .call (F "slices.Clone.I") [.t 4] [], none⟩,
  ⟨some 6, .fad 1 (.t 1), none⟩,
  ⟨some 7, .load false 1 (.t 6), none⟩,
  ⟨some 8, .call (F "slices.Clone.E") [.t 7] [], none⟩,
  ⟨some 9, .build [.nl 1, .nl 3] [(0, 1, .t 5), (1, 1, .t 8)], none⟩,
  ⟨none, .store 2 (.t 2) (.t 9), none⟩]
def c_square_copied (F : String → Nat) : LC := (.seq (.reg (c_square_copied_r0 F) [1, 2]) (.seq (.dreg [(2, none, [], true), (4, (some 8), [2], false)] (c_square_copied_r1 F) [2]) .ret))
def h_square_copied : Hints := ⟨[], fun _ => [], tab [(0, [1, 2]), (1, [2])], tab []⟩

/- square.arrow -/
def c_square_arrow_r0 (F : String → Nat) : List LI := [⟨some 1, .bx (.t 0), none⟩,
  ⟨some 2, .alloc [.nl 1, .nl 1], none⟩]
def c_square_arrow_r1 (F : String → Nat) : List LI := [⟨some 3, .fad 0 (.t 1), none⟩,
  ⟨some 4, .load false 1 (.t 3), none⟩,
  ⟨some 5, .call (F "slices.Clone.I") [.t 4] [], none⟩,
  ⟨some 6, .fad 1 (.t 1), none⟩,
  ⟨some 7, .load false 1 (.t 6), none⟩,
  ⟨some 8, .call (F "slices.Clone.I") [.t 7] [], none⟩,
  ⟨some 9, .build [.nl 1, .nl 1] [(0, 1, .t 5), (1, 1, .t 8)], none⟩,
  ⟨none, .store 2 (.t 2) (.t 9), none⟩]
def c_square_arrow (F : String → Nat) : LC := (.seq (.reg (c_square_arrow_r0 F) [1, 2]) (.seq (.dreg [(2, none, [], true), (4, (some 8), [2], false)] (c_square_arrow_r1 F) [2]) .ret))
def h_square_arrow : Hints := ⟨[], fun _ => [], tab [(0, [1, 2]), (1, [2])], tab []⟩

/- r14.Few -/
def c_r14_Few_r0 (F : String → Nat) : List LI := [⟨some 1, .bx (.t 0), none⟩,
  ⟨some 2, .mov (.k (.bool false)), none⟩]
def c_r14_Few_r1 (F : String → Nat) : List LI := [⟨some 4, .fad 0 (.t 1), none⟩,
  ⟨some 5, .load true 2 (.t 4), none⟩,
  ⟨some 6, .call (F "r05.Few") [.t 5] [], none⟩,
  ⟨some 7, .mov (.t 6), none⟩,
  ⟨some 8, .fad 2 (.t 1), some (7, true)⟩,
  ⟨some 9, .load true 2 (.t 8), some (7, true)⟩,
  ⟨some 10, .call (F "r05.Few") [.t 9] [], some (7, true)⟩,
  ⟨some 11, .pick (.t 7) (.t 10) (.k (.bool false)), none⟩,
  ⟨some 12, .mov (.t 11), none⟩,
  ⟨some 13, .fad 4 (.t 1), some (12, true)⟩,
  ⟨some 14, .load true 2 (.t 13), some (12, true)⟩,
  ⟨some 15, .call (F "r05.Few") [.t 14] [], some (12, true)⟩,
  ⟨some 16, .pick (.t 12) (.t 15) (.k (.bool false)), none⟩,
  ⟨some 17, .mov (.t 16), none⟩,
  ⟨some 18, .fad 6 (.t 1), some (17, true)⟩,
  ⟨some 19, .load true 2 (.t 18), some (17, true)⟩,
  ⟨some 20, .call (F "r05.Few") [.t 19] [], some (17, true)⟩,
  ⟨some 21, .pick (.t 17) (.t 20) (.k (.bool false)), none⟩,
  ⟨some 3, .mov (.t 21), none⟩]
def c_r14_Few_r2 (F : String → Nat) : List LI := [⟨some 22, .mov (.t 3), none⟩,
  ⟨some 23, .mov (.t 22), none⟩,
  ⟨some 24, .fad 8 (.t 1), some (23, true)⟩,
  ⟨some 25, .load true 2 (.t 24), some (23, true)⟩,
  ⟨some 26, .call (F "r06.Few") [.t 25, .k (.int .i64 (140))] [], some (23, true)⟩,
  ⟨some 27, .pick (.t 23) (.t 26) (.k (.bool false)), none⟩,
  ⟨some 28, .mov (.t 27), none⟩,
  ⟨some 29, .fad 10 (.t 1), some (28, true)⟩,
  ⟨some 30, .load true 2 (.t 29), some (28, true)⟩,
  ⟨some 31, .call (F "r06.Few") [.t 30, .k (.int .i64 (140))] [], some (28, true)⟩,
  ⟨some 32, .pick (.t 28) (.t 31) (.k (.bool false)), none⟩,
  ⟨some 33, .mov (.t 32), none⟩,
  ⟨some 34, .fad 12 (.t 1), some (33, true)⟩,
  ⟨some 35, .load true 2 (.t 34), some (33, true)⟩,
  ⟨some 36, .call (F "r06.Few") [.t 35, .k (.int .i64 (140))] [], some (33, true)⟩,
  ⟨some 37, .pick (.t 33) (.t 36) (.k (.bool false)), none⟩,
  ⟨some 38, .mov (.t 37), none⟩,
  ⟨some 39, .fad 14 (.t 1), some (38, true)⟩,
  ⟨some 40, .load true 2 (.t 39), some (38, true)⟩,
  ⟨some 41, .call (F "r06.Few") [.t 40, .k (.int .i64 (140))] [], some (38, true)⟩,
  ⟨some 42, .pick (.t 38) (.t 41) (.k (.bool false)), none⟩,
  ⟨some 2, .mov (.t 42), none⟩]
def c_r14_Few (F : String → Nat) : LC := (.seq (.reg (c_r14_Few_r0 F) [1]) (.seq (.reg (c_r14_Few_r1 F) [1, 3]) (.seq (.reg (c_r14_Few_r2 F) [2]) .ret)))
def h_r14_Few : Hints := ⟨[], fun _ => [], tab [(0, [1]), (1, [1, 3]), (2, [2])], tab []⟩

attribute [go_sem] c_square_valid_r0 c_square_valid_r1 c_square_valid_r2 c_square_valid_r3 c_square_valid_r4 c_square_valid_r5 c_square_valid_r6 c_square_valid_r7 c_square_valid_r8 c_square_valid_r9 c_square_valid_r10 c_square_valid c_r14_Valid_r0 c_r14_Valid_r1 c_r14_Valid_r2 c_r14_Valid_r3 c_r14_Valid_r4 c_r14_Valid_r5 c_r14_Valid_r6 c_r14_Valid_r7 c_r14_Valid_r8 c_r14_Valid_r9 c_r14_Valid_r10 c_r14_Valid c_square_follow_r0 c_square_follow_r1 c_square_follow_r2 c_square_follow_r3 c_square_follow_r4 c_square_follow_r5 c_square_follow_r6 c_square_follow_r8 c_square_follow c_square_then_r0 c_square_then_r1 c_square_then c_square_commutes_r0 c_square_commutes_r1 c_square_commutes c_square_copied_r0 c_square_copied_r1 c_square_copied c_square_arrow_r0 c_square_arrow_r1 c_square_arrow c_r14_Few_r0 c_r14_Few_r1 c_r14_Few_r2 c_r14_Few
/-- A square. -/
structure Sq where
  a : G
  b : G
  c : G
  d : G
  f : Mo
  g : Mo
  h : Mo
  k : Mo
  deriving DecidableEq
def sqD (s : Sq) : D := .agg [.lst 1 (ints s.a.n), .lst 3 (eds s.a.e), .lst 1 (ints s.b.n), .lst 3 (eds s.b.e), .lst 1 (ints s.c.n), .lst 3 (eds s.c.e), .lst 1 (ints s.d.n), .lst 3 (eds s.d.e),
  .lst 1 (ints s.f.n), .lst 1 (ints s.f.e), .lst 1 (ints s.g.n), .lst 1 (ints s.g.e), .lst 1 (ints s.h.n), .lst 1 (ints s.h.e), .lst 1 (ints s.k.n), .lst 1 (ints s.k.e)]
def sqA (s : Sq) : D := .agg [.arr 1 (ints s.a.n), .arr 3 (eds s.a.e), .arr 1 (ints s.b.n), .arr 3 (eds s.b.e), .arr 1 (ints s.c.n), .arr 3 (eds s.c.e), .arr 1 (ints s.d.n), .arr 3 (eds s.d.e),
  .arr 1 (ints s.f.n), .arr 1 (ints s.f.e), .arr 1 (ints s.g.n), .arr 1 (ints s.g.e), .arr 1 (ints s.h.n), .arr 1 (ints s.h.e), .arr 1 (ints s.k.n), .arr 1 (ints s.k.e)]
def sq0 : Sq := ⟨g0, g0, g0, g0, m0, m0, m0, m0⟩
def Sq.dn (s : Sq) : Sp := ⟨s.a, s.b, s.c, s.f, s.g⟩
def Sq.up (s : Sq) : Cs := ⟨s.b, s.c, s.d, s.h, s.k⟩
def Sq.sm (s : Sq) : Prop := s.f.sm ∧ s.g.sm ∧ s.h.sm ∧ s.k.sm
def sqE (s : Sq) : Int := if validM s.a s.b s.f ≠ 0 then validM s.a s.b s.f else if validM s.a s.c s.g ≠ 0 then validM s.a s.c s.g else if validM s.b s.d s.h ≠ 0 then validM s.b s.d s.h else validM s.c s.d s.k
def comB (s : Sq) : Bool := decide (thenM s.f s.h = thenM s.g s.k)
def fewSq (s : Sq) : Bool := few s.a && (few s.b && (few s.c && (few s.d && (fewM s.f 140 && (fewM s.g 140 && (fewM s.h 140 && fewM s.k 140))))))
section
variable (P : Program) (F : String → Nat)
def K_square_valid : Prop := ∀ s : Sq, FC P (F "square.valid") [sqD s] (.int .i64 (sqE s)) []
def K_r14_Valid : Prop := ∀ s : Sq, FC P (F "r14.Valid") [sqD s] (.int .i64 (sqE s)) []
def K_square_follow : Prop := ∀ l b : List Int, l.length ≤ 1000000 → (∀ x ∈ l, 0 ≤ x ∧ x < b.length) → FC P (F "square.follow") [.lst 1 (ints l), .lst 1 (ints b)] (.arr 1 (ints (thr l b))) []
def K_square_then : Prop := ∀ m n : Mo, m.n.length ≤ 1000000 → m.e.length ≤ 1000000 → (∀ x ∈ m.n, 0 ≤ x ∧ x < n.n.length) → (∀ x ∈ m.e, 0 ≤ x ∧ x < n.e.length) → FC P (F "square.then") [mD m, mD n] (mA (thenM m n)) []
def K_square_commutes : Prop := ∀ s : Sq, sqE s = 0 → FC P (F "square.commutes") [sqD s] (.bool (comB s)) []
def K_square_copied : Prop := ∀ g : G, g.n.length ≤ 1000000 → g.e.length ≤ 1000000 → FC P (F "square.copied") [gD g] (gA g) []
def K_square_arrow : Prop := ∀ m : Mo, m.n.length ≤ 1000000 → m.e.length ≤ 1000000 → FC P (F "square.arrow") [mD m] (mA m) []
def K_r14_Few : Prop := ∀ s : Sq, s.sm → FC P (F "r14.Few") [sqD s] (.bool (fewSq s)) []
end
section
variable {P : Program} {F : String → Nat} {α : Type}
theorem w_square_valid (hv : K_morphism_Valid P F) (s : Sq) : W P (c_square_valid F) (Done [.t 2] [] (.int .i64 (sqE s)) []) (init [sqD s]) := by
  refine W_of ?_
  have r1 := hv s.a s.b s.f
  have r2 := hv s.a s.c s.g
  have r3 := hv s.b s.d s.h
  have r4 := hv s.c s.d s.k
  unfold sqE
  generalize validM s.a s.b s.f = v1 at *
  generalize validM s.a s.c s.g = v2 at *
  generalize validM s.b s.d s.h = v3 at *
  generalize validM s.c s.d s.k = v4 at *
  simp only [gD, mD, sqD] at *
  simp (config := { maxSteps := 1000000 }) (disch := first | omega | (simp only [go_sem]; omega)) only [go_sem, ↓reduceIte]
  refine call_by r1 ?_
  simp (config := { maxSteps := 1000000 }) (disch := first | omega | (simp only [go_sem]; omega)) only [go_sem, ↓reduceIte]
  refine bran_ndec (fun c => ?_) (fun c => ?_)
  · simp (config := { maxSteps := 1000000 }) (disch := first | omega | (simp only [go_sem]; omega)) only [go_sem, ↓reduceIte]
    try rw [if_pos c]
  rw [if_neg (by simp [c])]
  simp (config := { maxSteps := 1000000 }) (disch := first | omega | (simp only [go_sem]; omega)) only [go_sem, ↓reduceIte]
  refine call_by r2 ?_
  simp (config := { maxSteps := 1000000 }) (disch := first | omega | (simp only [go_sem]; omega)) only [go_sem, ↓reduceIte]
  refine bran_ndec (fun c => ?_) (fun c => ?_)
  · simp (config := { maxSteps := 1000000 }) (disch := first | omega | (simp only [go_sem]; omega)) only [go_sem, ↓reduceIte]
    try rw [if_pos c]
  rw [if_neg (by simp [c])]
  simp (config := { maxSteps := 1000000 }) (disch := first | omega | (simp only [go_sem]; omega)) only [go_sem, ↓reduceIte]
  refine call_by r3 ?_
  simp (config := { maxSteps := 1000000 }) (disch := first | omega | (simp only [go_sem]; omega)) only [go_sem, ↓reduceIte]
  refine bran_ndec (fun c => ?_) (fun c => ?_)
  · simp (config := { maxSteps := 1000000 }) (disch := first | omega | (simp only [go_sem]; omega)) only [go_sem, ↓reduceIte]
    try rw [if_pos c]
  rw [if_neg (by simp [c])]
  simp (config := { maxSteps := 1000000 }) (disch := first | omega | (simp only [go_sem]; omega)) only [go_sem, ↓reduceIte]
  refine call_by r4 ?_
  simp (config := { maxSteps := 1000000 }) (disch := first | omega | (simp only [go_sem]; omega)) only [go_sem, ↓reduceIte]
theorem w_r14_Valid (hv : K_r06_Valid P F) (s : Sq) : W P (c_r14_Valid F) (Done [.t 2] [] (.int .i64 (sqE s)) []) (init [sqD s]) := by
  refine W_of ?_
  have r1 := hv s.a s.b s.f
  have r2 := hv s.a s.c s.g
  have r3 := hv s.b s.d s.h
  have r4 := hv s.c s.d s.k
  unfold sqE
  generalize validM s.a s.b s.f = v1 at *
  generalize validM s.a s.c s.g = v2 at *
  generalize validM s.b s.d s.h = v3 at *
  generalize validM s.c s.d s.k = v4 at *
  simp only [gD, mD, sqD] at *
  simp (config := { maxSteps := 1000000 }) (disch := first | omega | (simp only [go_sem]; omega)) only [go_sem, ↓reduceIte]
  refine call_by r1 ?_
  simp (config := { maxSteps := 1000000 }) (disch := first | omega | (simp only [go_sem]; omega)) only [go_sem, ↓reduceIte]
  refine bran_ndec (fun c => ?_) (fun c => ?_)
  · simp (config := { maxSteps := 1000000 }) (disch := first | omega | (simp only [go_sem]; omega)) only [go_sem, ↓reduceIte]
    try rw [if_pos c]
  rw [if_neg (by simp [c])]
  simp (config := { maxSteps := 1000000 }) (disch := first | omega | (simp only [go_sem]; omega)) only [go_sem, ↓reduceIte]
  refine call_by r2 ?_
  simp (config := { maxSteps := 1000000 }) (disch := first | omega | (simp only [go_sem]; omega)) only [go_sem, ↓reduceIte]
  refine bran_ndec (fun c => ?_) (fun c => ?_)
  · simp (config := { maxSteps := 1000000 }) (disch := first | omega | (simp only [go_sem]; omega)) only [go_sem, ↓reduceIte]
    try rw [if_pos c]
  rw [if_neg (by simp [c])]
  simp (config := { maxSteps := 1000000 }) (disch := first | omega | (simp only [go_sem]; omega)) only [go_sem, ↓reduceIte]
  refine call_by r3 ?_
  simp (config := { maxSteps := 1000000 }) (disch := first | omega | (simp only [go_sem]; omega)) only [go_sem, ↓reduceIte]
  refine bran_ndec (fun c => ?_) (fun c => ?_)
  · simp (config := { maxSteps := 1000000 }) (disch := first | omega | (simp only [go_sem]; omega)) only [go_sem, ↓reduceIte]
    try rw [if_pos c]
  rw [if_neg (by simp [c])]
  simp (config := { maxSteps := 1000000 }) (disch := first | omega | (simp only [go_sem]; omega)) only [go_sem, ↓reduceIte]
  refine call_by r4 ?_
  simp (config := { maxSteps := 1000000 }) (disch := first | omega | (simp only [go_sem]; omega)) only [go_sem, ↓reduceIte]
/-- What a square without error is made of. -/
structure QOk (s : Sq) : Prop where
  f : MOk s.a s.b s.f
  g : MOk s.a s.c s.g
  h : MOk s.b s.d s.h
  k : MOk s.c s.d s.k
theorem sqE_ok {s : Sq} : sqE s = 0 ↔ QOk s := by
  unfold sqE
  constructor
  · intro h
    split at h
    · rename_i c; exact absurd h c
    · rename_i c1
      split at h
      · rename_i c; exact absurd h c
      · rename_i c2
        split at h
        · rename_i c; exact absurd h c
        · rename_i c3
          exact ⟨mok.1 (Decidable.not_not.1 c1), mok.1 (Decidable.not_not.1 c2), mok.1 (Decidable.not_not.1 c3), mok.1 h⟩
  · intro h
    rw [if_neg (by simp [mok.2 h.f]), if_neg (by simp [mok.2 h.g]), if_neg (by simp [mok.2 h.h])]
    exact mok.2 h.k
theorem MOk.fit {a b c : G} {m n : Mo} (hm : MOk a b m) (hn : MOk b c n) : (m.n.length ≤ 40 ∧ m.e.length ≤ 80) ∧ (∀ x ∈ m.n, 0 ≤ x ∧ x < n.n.length) ∧ ∀ x ∈ m.e, 0 ≤ x ∧ x < n.e.length := by
  have := valid_spec hm.va
  have h1 := hm.ln
  have h2 := hm.le
  refine ⟨by omega, fun x hx => ?_, fun x hx => ?_⟩
  · rw [hn.ln]; exact hm.nb x hx
  · rw [hn.le]; exact hm.eb x hx
theorem w_square_follow (l b : List Int) (hl : l.length ≤ 1000000) (hb : ∀ x ∈ l, 0 ≤ x ∧ x < b.length) : W P (c_square_follow F) (Done [.t 4] [] (.arr 1 (ints (thr l b))) []) (init [.lst 1 (ints l), .lst 1 (ints b)]) := by
  refine W_of ?_
  simp (config := { maxSteps := 1000000 }) (disch := first | omega | (simp only [go_sem]; omega)) only [go_sem, ↓reduceIte]
  refine W_loop (fun i : Nat => ⟨[(1, .lst 1 (ints b)), (5, .sl 0 0 l.length), (11, .lst 1 (ints l)), (12, .int .i64 l.length), (13, .int .i64 i)], [(0, .arr 1 (ints (thr (l.take i) b ++ List.replicate (l.length - i) 0)))], 1⟩) (fun i => i ≤ l.length) (fun i => l.length - i) 0 ?_ ?_ ?_
  · simp (config := { maxSteps := 1000000 }) (disch := first | omega | (simp only [go_sem]; omega)) only [go_sem, ↓reduceIte]
    rfl
  · simp
  · intro i hi
    have el : (thr (l.take i) b).length = i := by rw [thr_len]; simp; omega
    simp (config := { maxSteps := 1000000 }) (disch := first | omega | (simp only [go_sem]; omega)) only [go_sem, ↓reduceIte, c_square_follow_b7]
    refine bran_dec (fun c => ?_) (fun c => ?_)
    · have hx := hb _ (gt_mem (l := l) (j := i) (by omega) (by omega))
      have hf : (thr (l.take i) b ++ List.replicate (l.length - i) 0).set i (gt b (gt l i)) = thr (l.take (i + 1)) b ++ List.replicate (l.length - (i + 1)) 0 := by
        have := fillL (thr (l.take i) b) (gt b (gt l i)) 0 (l.length - (i + 1))
        rw [el, show l.length - (i + 1) + 1 = l.length - i by omega] at this
        rw [this, thr_step (by omega)]
      simp (config := { maxSteps := 1000000 }) (disch := first | omega | (simp only [go_sem]; omega)) only [go_sem, ↓reduceIte, el, hf]
      exact ⟨i + 1, by simp, by omega, by omega⟩
    · obtain rfl : i = l.length := by omega
      rw [List.take_length] at el
      simp (config := { maxSteps := 1000000 }) (disch := first | omega | (simp only [go_sem]; omega)) only [go_sem, ↓reduceIte, el]
      simp
theorem w_square_then (ht : K_square_follow P F) (m n : Mo) (h1 : m.n.length ≤ 1000000) (h2 : m.e.length ≤ 1000000) (h3 : ∀ x ∈ m.n, 0 ≤ x ∧ x < n.n.length) (h4 : ∀ x ∈ m.e, 0 ≤ x ∧ x < n.e.length) :
    W P (c_square_then F) (Done [.c 4 true 2] [] (mA (thenM m n)) []) (init [mD m, mD n]) := by
  refine W_of ?_
  obtain ⟨mn, me⟩ := m
  obtain ⟨nn, ne⟩ := n
  have r1 := ht mn nn h1 h3
  have r2 := ht me ne h2 h4
  simp (config := { maxSteps := 1000000 }) (disch := first | omega | (simp only [go_sem]; omega)) only [go_sem, ↓reduceIte, mD]
  refine call_by r1 ?_
  simp (config := { maxSteps := 1000000 }) (disch := first | omega | (simp only [go_sem]; omega)) only [go_sem, ↓reduceIte]
  refine call_by r2 ?_
  simp (config := { maxSteps := 1000000 }) (disch := first | omega | (simp only [go_sem]; omega)) only [go_sem, ↓reduceIte, mA, thenM]
theorem w_square_commutes (ht : K_square_then P F) (hs : K_morphism_Same P F) (s : Sq) (h0 : sqE s = 0) : W P (c_square_commutes F) (Done [.t 2] [] (.bool (comB s)) []) (init [sqD s]) := by
  refine W_of ?_
  have q := sqE_ok.1 h0
  have f1 := q.f.fit q.h
  have f2 := q.g.fit q.k
  have r1 := ht s.f s.h (by omega) (by omega) f1.2.1 f1.2.2
  have r2 := ht s.g s.k (by omega) (by omega) f2.2.1 f2.2.2
  have e1 : (thenM s.f s.h).n.length = s.f.n.length := thr_len _ _
  have e2 : (thenM s.f s.h).e.length = s.f.e.length := thr_len _ _
  have r3 := hs (thenM s.f s.h) (thenM s.g s.k) (by unfold maxL; omega) (by unfold maxL; omega)
  unfold comB
  clear e1 e2 f1 f2 q h0
  generalize thenM s.f s.h = x at *
  generalize thenM s.g s.k = y at *
  obtain ⟨xn, xe⟩ := x
  obtain ⟨yn, ye⟩ := y
  simp only [mA, mD, sqD] at *
  simp (config := { maxSteps := 1000000 }) (disch := first | omega | (simp only [go_sem]; omega)) only [go_sem, ↓reduceIte]
  refine call_by r1 ?_
  simp (config := { maxSteps := 1000000 }) (disch := first | omega | (simp only [go_sem]; omega)) only [go_sem, ↓reduceIte]
  refine call_by r2 ?_
  simp (config := { maxSteps := 1000000 }) (disch := first | omega | (simp only [go_sem]; omega)) only [go_sem, ↓reduceIte]
  refine call_by r3 ?_
  simp (config := { maxSteps := 1000000 }) (disch := first | omega | (simp only [go_sem]; omega)) only [go_sem, ↓reduceIte]
theorem w_square_copied (h1 : K_slices_Clone_I P F) (h2 : K_slices_Clone_E P F) (g : G) (l1 : g.n.length ≤ 1000000) (l2 : g.e.length ≤ 1000000) : W P (c_square_copied F) (Done [.c 2 true 2] [] (gA g) []) (init [gD g]) := by
  refine W_of ?_
  have r1 := h1 g.n (by omega)
  have r2 := h2 g.e (by omega)
  simp only [gD, gA]
  simp (config := { maxSteps := 1000000 }) (disch := first | omega | (simp only [go_sem]; omega)) only [go_sem, ↓reduceIte]
  refine call_by r1 ?_
  simp (config := { maxSteps := 1000000 }) (disch := first | omega | (simp only [go_sem]; omega)) only [go_sem, ↓reduceIte]
  refine call_by r2 ?_
  simp (config := { maxSteps := 1000000 }) (disch := first | omega | (simp only [go_sem]; omega)) only [go_sem, ↓reduceIte]
  try rfl
theorem w_square_arrow (h1 : K_slices_Clone_I P F) (m : Mo) (l1 : m.n.length ≤ 1000000) (l2 : m.e.length ≤ 1000000) : W P (c_square_arrow F) (Done [.c 2 true 2] [] (mA m) []) (init [mD m]) := by
  refine W_of ?_
  have r1 := h1 m.n (by omega)
  have r2 := h1 m.e (by omega)
  simp only [mD, mA]
  simp (config := { maxSteps := 1000000 }) (disch := first | omega | (simp only [go_sem]; omega)) only [go_sem, ↓reduceIte]
  refine call_by r1 ?_
  simp (config := { maxSteps := 1000000 }) (disch := first | omega | (simp only [go_sem]; omega)) only [go_sem, ↓reduceIte]
  refine call_by r2 ?_
  simp (config := { maxSteps := 1000000 }) (disch := first | omega | (simp only [go_sem]; omega)) only [go_sem, ↓reduceIte]
  try rfl
end
end Go.Am
