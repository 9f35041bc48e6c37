/- The graph package: searches. -/
import Derived.Test.YtfkkngepnnkloaaAmPh
namespace Go.Am
open Go
set_option linter.unusedVariables false
set_option linter.unusedSimpArgs false
/- graph.within -/
def c_graph_within_r0 (F : String → Nat) : List LI := [⟨some 4, .mov (.k (.bool false)), none⟩]
def c_graph_within_r1 (F : String → Nat) : List LI := [⟨some 5, .mov (.t 0), none⟩,
  ⟨some 6, .bin .geq (.t 5) (.k (.int .i64 (0))), none⟩,
  ⟨some 7, .mov (.t 6), none⟩,
  ⟨some 8, .mov (.t 0), some (7, true)⟩,
  ⟨some 9, .mov (.t 1), some (7, true)⟩,
  ⟨some 10, .bin .leq (.t 8) (.t 9), some (7, true)⟩,
  ⟨some 11, .pick (.t 7) (.t 10) (.k (.bool false)), none⟩,
  ⟨some 4, .mov (.t 11), none⟩]
def c_graph_within (F : String → Nat) : LC := (.seq (.reg (c_graph_within_r0 F) [0, 1]) (.seq (.reg (c_graph_within_r1 F) [4]) .ret))
def h_graph_within : Hints := ⟨[], fun _ => [], tab [(0, [0, 1]), (1, [4])], tab []⟩

/- graph.fits -/
def c_graph_fits_r0 (F : String → Nat) : List LI := [⟨some 2, .bx (.t 0), none⟩,
  ⟨some 4, .mov (.k (.bool false)), none⟩]
def c_graph_fits_r1 (F : String → Nat) : List LI := [⟨some 5, .fad 0 (.t 2), none⟩,
  ⟨some 6, .load false 1 (.t 5), none⟩,
  ⟨some 7, .call (F "graph.within") [.t 6, .k (.int .i64 (99))] [], none⟩,
  ⟨some 8, .mov (.t 7), none⟩,
  ⟨some 9, .fad 1 (.t 2), some (8, true)⟩,
  ⟨some 10, .load false 1 (.t 9), some (8, true)⟩,
  ⟨some 11, .mov (.t 1), some (8, true)⟩,
  ⟨some 12, .bin .sub (.t 11) (.k (.int .i64 (1))), some (8, true)⟩,
  ⟨some 13, .call (F "graph.within") [.t 10, .t 12] [], some (8, true)⟩,
  ⟨some 14, .pick (.t 8) (.t 13) (.k (.bool false)), none⟩,
  ⟨some 15, .mov (.t 14), none⟩,
  ⟨some 16, .fad 2 (.t 2), some (15, true)⟩,
  ⟨some 17, .load false 1 (.t 16), some (15, true)⟩,
  ⟨some 18, .mov (.t 1), some (15, true)⟩,
  ⟨some 19, .bin .sub (.t 18) (.k (.int .i64 (1))), some (15, true)⟩,
  ⟨some 20, .call (F "graph.within") [.t 17, .t 19] [], some (15, true)⟩,
  ⟨some 21, .pick (.t 15) (.t 20) (.k (.bool false)), none⟩,
  ⟨some 4, .mov (.t 21), none⟩]
def c_graph_fits (F : String → Nat) : LC := (.seq (.reg (c_graph_fits_r0 F) [1, 2]) (.seq (.reg (c_graph_fits_r1 F) [4]) .ret))
def h_graph_fits : Hints := ⟨[], fun _ => [], tab [(0, [1, 2]), (1, [4])], tab []⟩

/- graph.Valid -/
def c_graph_Valid_r0 (F : String → Nat) : List LI := [⟨some 1, .bx (.t 0), none⟩,
  ⟨some 2, .mov (.k (.int .i64 (0))), none⟩]
def c_graph_Valid_r1 (F : String → Nat) : List LI := [⟨some 3, .fad 0 (.t 1), none⟩,
  ⟨some 4, .load false 1 (.t 3), none⟩,
  ⟨some 5, .len (.t 4), none⟩,
  ⟨some 6, .bin .gtr (.t 5) (.k (.int .i64 (40))), none⟩,
  ⟨some 7, .mov (.t 6), none⟩,
  ⟨some 8, .fad 1 (.t 1), some (7, false)⟩,
  ⟨some 9, .load false 1 (.t 8), some (7, false)⟩,
  ⟨some 10, .len (.t 9), some (7, false)⟩,
  ⟨some 11, .bin .gtr (.t 10) (.k (.int .i64 (80))), some (7, false)⟩,
  ⟨some 12, .pick (.t 7) (.k (.bool true)) (.t 11), none⟩]
def c_graph_Valid_r2 (F : String → Nat) : List LI := [⟨some 2, .mov (.k (.int .i64 (3))), none⟩]
def c_graph_Valid_r3 (F : String → Nat) : List LI := [⟨some 13, .fad 0 (.t 1), none⟩,
  ⟨some 14, .load false 1 (.t 13), none⟩,
  ⟨some 15, .call (F "slices.ContainsFunc.I") [.t 14, .k (.clo (F "graph.Valid.1") [])] [], none⟩]
def c_graph_Valid_r4 (F : String → Nat) : List LI := [⟨some 2, .mov (.k (.int .i64 (6))), none⟩]
def c_graph_Valid_r5 (F : String → Nat) : List LI := [⟨some 16, .fad 1 (.t 1), none⟩,
  ⟨some 17, .load false 1 (.t 16), none⟩,
  ⟨some 18, .mkf (F "graph.Valid.2") [.t 1], none⟩,
  ⟨some 19, .call (F "slices.ContainsFunc.E") [.t 17, .t 18] [], none⟩]
def c_graph_Valid_r6 (F : String → Nat) : List LI := [⟨some 2, .mov (.k (.int .i64 (6))), none⟩]
def c_graph_Valid_r7 (F : String → Nat) : List LI := [⟨some 2, .mov (.k (.int .i64 (0))), none⟩]
def c_graph_Valid (F : String → Nat) : LC := (.seq (.reg (c_graph_Valid_r0 F) [1]) (.seq (.seq (.reg (c_graph_Valid_r1 F) [1, 12]) (.cond (.t 12) (.seq (.reg (c_graph_Valid_r2 F) [2]) .ret) .skip)) (.seq (.seq (.reg (c_graph_Valid_r3 F) [1, 15]) (.cond (.t 15) (.seq (.reg (c_graph_Valid_r4 F) [2]) .ret) .skip)) (.seq (.seq (.reg (c_graph_Valid_r5 F) [19]) (.cond (.t 19) (.seq (.reg (c_graph_Valid_r6 F) [2]) .ret) .skip)) (.seq (.reg (c_graph_Valid_r7 F) [2]) .ret)))))
def h_graph_Valid : Hints := ⟨[], fun _ => [], tab [(0, [1]), (1, [1, 12]), (2, [2]), (3, [1, 15]), (4, [2]), (5, [19]), (6, [2]), (7, [2])], tab []⟩

/- graph.Valid.1 -/
def c_graph_Valid_1_r0 (F : String → Nat) : List LI := [⟨some 2, .mov (.k (.bool false)), none⟩]
def c_graph_Valid_1_r1 (F : String → Nat) : List LI := [⟨some 3, .mov (.t 0), none⟩,
  ⟨some 4, .call (F "graph.within") [.t 3, .k (.int .i64 (99))] [], none⟩,
  ⟨some 5, .not (.t 4), none⟩,
  ⟨some 2, .mov (.t 5), none⟩]
def c_graph_Valid_1 (F : String → Nat) : LC := (.seq (.reg (c_graph_Valid_1_r0 F) [0]) (.seq (.reg (c_graph_Valid_1_r1 F) [2]) .ret))
def h_graph_Valid_1 : Hints := ⟨[], fun _ => [], tab [(0, [0]), (1, [2])], tab []⟩

/- graph.Valid.2 -/
def c_graph_Valid_2_r0 (F : String → Nat) : List LI := [⟨some 2, .bx (.t 0), none⟩,
  ⟨some 3, .mov (.k (.bool false)), none⟩]
def c_graph_Valid_2_r1 (F : String → Nat) : List LI := [⟨some 4, .load true 3 (.t 2), none⟩,
  ⟨some 5, .fad 0 (.t 1), none⟩,
  ⟨some 6, .load false 1 (.t 5), none⟩,
  ⟨some 7, .len (.t 6), none⟩,
  ⟨some 8, .call (F "graph.fits") [.t 4, .t 7] [], none⟩,
  ⟨some 9, .not (.t 8), none⟩,
  ⟨some 3, .mov (.t 9), none⟩]
def c_graph_Valid_2 (F : String → Nat) : LC := (.seq (.reg (c_graph_Valid_2_r0 F) [1, 2]) (.seq (.reg (c_graph_Valid_2_r1 F) [3]) .ret))
def h_graph_Valid_2 : Hints := ⟨[], fun _ => [], tab [(0, [1, 2]), (1, [3])], tab []⟩

/- slices.Index.I -/
def c_slices_Index_I_r0 (F : String → Nat) : List LI := [⟨some 4, .mov (.k (.int .i64 (0))), none⟩]
def c_slices_Index_I_r1 (F : String → Nat) : List LI := [⟨some 6, .mov (.t 0), none⟩,
  ⟨some 7, .len (.t 6), none⟩,
  ⟨some 8, .mov (.k (.int .i64 (0))), none⟩]
def c_slices_Index_I_r2 (F : String → Nat) : List LI := [⟨some 9, .bin .lss (.t 8) (.t 7), none⟩]
def c_slices_Index_I_r3 (F : String → Nat) : List LI := [⟨some 10, .mov (.t 8), none⟩,
  ⟨some 5, .mov (.t 10), none⟩]
def c_slices_Index_I_r4 (F : String → Nat) : List LI := [⟨some 11, .mov (.t 1), none⟩,
  ⟨some 12, .mov (.t 0), none⟩,
  ⟨some 13, .mov (.t 5), none⟩,
  ⟨some 14, .iad 1 (.t 12) (.t 13), none⟩,
  ⟨some 15, .load false 1 (.t 14), none⟩,
  ⟨some 16, .bin .eql (.t 11) (.t 15), none⟩]
def c_slices_Index_I_r5 (F : String → Nat) : List LI := [⟨some 17, .mov (.t 5), none⟩,
  ⟨some 4, .mov (.t 17), none⟩]
def c_slices_Index_I_r6 (F : String → Nat) : List LI := [⟨some 18, .bin .add (.t 8) (.k (.int .i64 (1))), none⟩,
  ⟨some 8, .mov (.t 18), none⟩]
def c_slices_Index_I_b7 (F : String → Nat) : LC := (.seq (.reg (c_slices_Index_I_r2 F) [0, 1, 7, 8, 9]) (.seq (.cond (.t 9) .skip (.exit 0)) (.seq (.block 1 (.seq (.reg (c_slices_Index_I_r3 F) [0, 1, 5, 7, 8]) (.seq (.reg (c_slices_Index_I_r4 F) [0, 1, 5, 7, 8, 16]) (.cond (.t 16) (.seq (.reg (c_slices_Index_I_r5 F) [4]) .ret) .skip)))) (.reg (c_slices_Index_I_r6 F) [0, 1, 7, 8]))))
def c_slices_Index_I_r8 (F : String → Nat) : List LI := [⟨some 4, .mov (.k (.int .i64 (-1))), none⟩]
def c_slices_Index_I (F : String → Nat) : LC := (.seq (.reg (c_slices_Index_I_r0 F) [0, 1]) (.seq (.seq (.reg (c_slices_Index_I_r1 F) [0, 1, 7, 8]) (.block 0 (.loop [0, 1, 7, 8] (c_slices_Index_I_b7 F)))) (.seq (.reg (c_slices_Index_I_r8 F) [4]) .ret)))
def h_slices_Index_I : Hints := ⟨[], fun _ => [], tab [(0, [0, 1]), (1, [0, 1, 7, 8]), (2, [0, 1, 7, 8, 9]), (3, [0, 1, 5, 7, 8]), (4, [0, 1, 5, 7, 8, 16]), (5, [4]), (6, [0, 1, 7, 8]), (7, [4])], tab [(2, [0, 1, 7, 8])]⟩

/- slices.Contains.I -/
def c_slices_Contains_I_r0 (F : String → Nat) : List LI := [⟨some 4, .mov (.k (.bool false)), none⟩]
def c_slices_Contains_I_r1 (F : String → Nat) : List LI := [⟨some 5, .mov (.t 0), none⟩,
  ⟨some 6, .mov (.t 1), none⟩,
  ⟨some 7, .call (F "slices.Index.I") [.t 5, .t 6] [], none⟩,
  ⟨some 8, .bin .geq (.t 7) (.k (.int .i64 (0))), none⟩,
  ⟨some 4, .mov (.t 8), none⟩]
def c_slices_Contains_I (F : String → Nat) : LC := (.seq (.reg (c_slices_Contains_I_r0 F) [0, 1]) (.seq (.reg (c_slices_Contains_I_r1 F) [4]) .ret))
def h_slices_Contains_I : Hints := ⟨[], fun _ => [], tab [(0, [0, 1]), (1, [4])], tab []⟩

/- slices.IndexFunc.I -/
def c_slices_IndexFunc_I_r0 (F : String → Nat) : List LI := [⟨some 4, .mov (.k (.int .i64 (0))), none⟩]
def c_slices_IndexFunc_I_r1 (F : String → Nat) : List LI := [⟨some 6, .mov (.t 0), none⟩,
  ⟨some 7, .len (.t 6), none⟩,
  ⟨some 8, .mov (.k (.int .i64 (0))), none⟩]
def c_slices_IndexFunc_I_r2 (F : String → Nat) : List LI := [⟨some 9, .bin .lss (.t 8) (.t 7), none⟩]
def c_slices_IndexFunc_I_r3 (F : String → Nat) : List LI := [⟨some 10, .mov (.t 8), none⟩,
  ⟨some 5, .mov (.t 10), none⟩]
def c_slices_IndexFunc_I_r4 (F : String → Nat) : List LI := [⟨some 11, .mov (.t 1), none⟩,
  ⟨some 12, .mov (.t 0), none⟩,
  ⟨some 13, .mov (.t 5), none⟩,
  ⟨some 14, .iad 1 (.t 12) (.t 13), none⟩,
  ⟨some 15, .load false 1 (.t 14), none⟩,
  ⟨some 16, .callv (.t 11) [.t 15], none⟩]
def c_slices_IndexFunc_I_r5 (F : String → Nat) : List LI := [⟨some 17, .mov (.t 5), none⟩,
  ⟨some 4, .mov (.t 17), none⟩]
def c_slices_IndexFunc_I_r6 (F : String → Nat) : List LI := [⟨some 18, .bin .add (.t 8) (.k (.int .i64 (1))), none⟩,
  ⟨some 8, .mov (.t 18), none⟩]
def c_slices_IndexFunc_I_b7 (F : String → Nat) : LC := (.seq (.reg (c_slices_IndexFunc_I_r2 F) [0, 1, 7, 8, 9]) (.seq (.cond (.t 9) .skip (.exit 0)) (.seq (.block 1 (.seq (.reg (c_slices_IndexFunc_I_r3 F) [0, 1, 5, 7, 8]) (.seq (.reg (c_slices_IndexFunc_I_r4 F) [0, 1, 5, 7, 8, 16]) (.cond (.t 16) (.seq (.reg (c_slices_IndexFunc_I_r5 F) [4]) .ret) .skip)))) (.reg (c_slices_IndexFunc_I_r6 F) [0, 1, 7, 8]))))
def c_slices_IndexFunc_I_r8 (F : String → Nat) : List LI := [⟨some 4, .mov (.k (.int .i64 (-1))), none⟩]
def c_slices_IndexFunc_I (F : String → Nat) : LC := (.seq (.reg (c_slices_IndexFunc_I_r0 F) [0, 1]) (.seq (.seq (.reg (c_slices_IndexFunc_I_r1 F) [0, 1, 7, 8]) (.block 0 (.loop [0, 1, 7, 8] (c_slices_IndexFunc_I_b7 F)))) (.seq (.reg (c_slices_IndexFunc_I_r8 F) [4]) .ret)))
def h_slices_IndexFunc_I : Hints := ⟨[], fun _ => [], tab [(0, [0, 1]), (1, [0, 1, 7, 8]), (2, [0, 1, 7, 8, 9]), (3, [0, 1, 5, 7, 8]), (4, [0, 1, 5, 7, 8, 16]), (5, [4]), (6, [0, 1, 7, 8]), (7, [4])], tab [(2, [0, 1, 7, 8])]⟩

/- slices.ContainsFunc.I -/
def c_slices_ContainsFunc_I_r0 (F : String → Nat) : List LI := [⟨some 4, .mov (.k (.bool false)), none⟩]
def c_slices_ContainsFunc_I_r1 (F : String → Nat) : List LI := [⟨some 5, .mov (.t 0), none⟩,
  ⟨some 6, .mov (.t 1), none⟩,
  ⟨some 7, .call (F "slices.IndexFunc.I") [.t 5, .t 6] [], none⟩,
  ⟨some 8, .bin .geq (.t 7) (.k (.int .i64 (0))), none⟩,
  ⟨some 4, .mov (.t 8), none⟩]
def c_slices_ContainsFunc_I (F : String → Nat) : LC := (.seq (.reg (c_slices_ContainsFunc_I_r0 F) [0, 1]) (.seq (.reg (c_slices_ContainsFunc_I_r1 F) [4]) .ret))
def h_slices_ContainsFunc_I : Hints := ⟨[], fun _ => [], tab [(0, [0, 1]), (1, [4])], tab []⟩

/- slices.IndexFunc.E -/
def c_slices_IndexFunc_E_r0 (F : String → Nat) : List LI := [⟨some 4, .mov (.k (.int .i64 (0))), none⟩]
def c_slices_IndexFunc_E_r1 (F : String → Nat) : List LI := [⟨some 6, .mov (.t 0), none⟩,
  ⟨some 7, .len (.t 6), none⟩,
  ⟨some 8, .mov (.k (.int .i64 (0))), none⟩]
def c_slices_IndexFunc_E_r2 (F : String → Nat) : List LI := [⟨some 9, .bin .lss (.t 8) (.t 7), none⟩]
def c_slices_IndexFunc_E_r3 (F : String → Nat) : List LI := [⟨some 10, .mov (.t 8), none⟩,
  ⟨some 5, .mov (.t 10), none⟩]
def c_slices_IndexFunc_E_r4 (F : String → Nat) : List LI := [⟨some 11, .mov (.t 1), none⟩,
  ⟨some 12, .mov (.t 0), none⟩,
  ⟨some 13, .mov (.t 5), none⟩,
  ⟨some 14, .iad 3 (.t 12) (.t 13), none⟩,
  ⟨some 15, .load true 3 (.t 14), none⟩,
  ⟨some 16, .callv (.t 11) [.t 15], none⟩]
def c_slices_IndexFunc_E_r5 (F : String → Nat) : List LI := [⟨some 17, .mov (.t 5), none⟩,
  ⟨some 4, .mov (.t 17), none⟩]
def c_slices_IndexFunc_E_r6 (F : String → Nat) : List LI := [⟨some 18, .bin .add (.t 8) (.k (.int .i64 (1))), none⟩,
  ⟨some 8, .mov (.t 18), none⟩]
def c_slices_IndexFunc_E_b7 (F : String → Nat) : LC := (.seq (.reg (c_slices_IndexFunc_E_r2 F) [0, 1, 7, 8, 9]) (.seq (.cond (.t 9) .skip (.exit 0)) (.seq (.block 1 (.seq (.reg (c_slices_IndexFunc_E_r3 F) [0, 1, 5, 7, 8]) (.seq (.reg (c_slices_IndexFunc_E_r4 F) [0, 1, 5, 7, 8, 16]) (.cond (.t 16) (.seq (.reg (c_slices_IndexFunc_E_r5 F) [4]) .ret) .skip)))) (.reg (c_slices_IndexFunc_E_r6 F) [0, 1, 7, 8]))))
def c_slices_IndexFunc_E_r8 (F : String → Nat) : List LI := [⟨some 4, .mov (.k (.int .i64 (-1))), none⟩]
def c_slices_IndexFunc_E (F : String → Nat) : LC := (.seq (.reg (c_slices_IndexFunc_E_r0 F) [0, 1]) (.seq (.seq (.reg (c_slices_IndexFunc_E_r1 F) [0, 1, 7, 8]) (.block 0 (.loop [0, 1, 7, 8] (c_slices_IndexFunc_E_b7 F)))) (.seq (.reg (c_slices_IndexFunc_E_r8 F) [4]) .ret)))
def h_slices_IndexFunc_E : Hints := ⟨[], fun _ => [], tab [(0, [0, 1]), (1, [0, 1, 7, 8]), (2, [0, 1, 7, 8, 9]), (3, [0, 1, 5, 7, 8]), (4, [0, 1, 5, 7, 8, 16]), (5, [4]), (6, [0, 1, 7, 8]), (7, [4])], tab [(2, [0, 1, 7, 8])]⟩

/- slices.ContainsFunc.E -/
def c_slices_ContainsFunc_E_r0 (F : String → Nat) : List LI := [⟨some 4, .mov (.k (.bool false)), none⟩]
def c_slices_ContainsFunc_E_r1 (F : String → Nat) : List LI := [⟨some 5, .mov (.t 0), none⟩,
  ⟨some 6, .mov (.t 1), none⟩,
  ⟨some 7, .call (F "slices.IndexFunc.E") [.t 5, .t 6] [], none⟩,
  ⟨some 8, .bin .geq (.t 7) (.k (.int .i64 (0))), none⟩,
  ⟨some 4, .mov (.t 8), none⟩]
def c_slices_ContainsFunc_E (F : String → Nat) : LC := (.seq (.reg (c_slices_ContainsFunc_E_r0 F) [0, 1]) (.seq (.reg (c_slices_ContainsFunc_E_r1 F) [4]) .ret))
def h_slices_ContainsFunc_E : Hints := ⟨[], fun _ => [], tab [(0, [0, 1]), (1, [4])], tab []⟩

/- graph.ascending -/
def c_graph_ascending_r0 (F : String → Nat) : List LI := [⟨some 4, .mov (.k (.int .i64 (0))), none⟩]
def c_graph_ascending_r1 (F : String → Nat) : List LI := [⟨some 7, .mov (.t 0), none⟩,
  ⟨some 8, .len (.t 7), none⟩,
  ⟨some 9, .mov (.k (.int .i64 (0))), none⟩]
def c_graph_ascending_r2 (F : String → Nat) : List LI := [⟨some 10, .bin .lss (.t 9) (.t 8), none⟩]
def c_graph_ascending_r3 (F : String → Nat) : List LI := [⟨some 11, .mov (.t 9), none⟩,
  ⟨some 12, .iad 1 (.t 7) (.t 9), none⟩,
  ⟨some 13, .load false 1 (.t 12), none⟩,
  ⟨some 5, .mov (.t 11), none⟩,
  ⟨some 6, .mov (.t 13), none⟩]
def c_graph_ascending_r4 (F : String → Nat) : List LI := [⟨some 14, .mov (.t 6), none⟩,
  ⟨some 15, .mov (.t 1), none⟩,
  ⟨some 16, .bin .sub (.t 15) (.k (.int .i64 (1))), none⟩,
  ⟨some 17, .call (F "graph.within") [.t 14, .t 16] [], none⟩,
  ⟨some 18, .not (.t 17), none⟩]
def c_graph_ascending_r5 (F : String → Nat) : List LI := [⟨some 4, .mov (.k (.int .i64 (6))), none⟩]
def c_graph_ascending_r6 (F : String → Nat) : List LI := [⟨some 19, .mov (.t 5), none⟩,
  ⟨some 20, .bin .gtr (.t 19) (.k (.int .i64 (0))), none⟩,
  ⟨some 21, .mov (.t 20), none⟩,
  ⟨some 22, .mov (.t 6), some (21, true)⟩,
  ⟨some 23, .mov (.t 0), some (21, true)⟩,
  ⟨some 24, .mov (.t 5), some (21, true)⟩,
  ⟨some 25, .bin .sub (.t 24) (.k (.int .i64 (1))), some (21, true)⟩,
  ⟨some 26, .iad 1 (.t 23) (.t 25), some (21, true)⟩,
  ⟨some 27, .load false 1 (.t 26), some (21, true)⟩,
  ⟨some 28, .bin .leq (.t 22) (.t 27), some (21, true)⟩,
  ⟨some 29, .pick (.t 21) (.t 28) (.k (.bool false)), none⟩]
def c_graph_ascending_r7 (F : String → Nat) : List LI := [⟨some 4, .mov (.k (.int .i64 (12))), none⟩]
def c_graph_ascending_r8 (F : String → Nat) : List LI := [⟨some 30, .bin .add (.t 9) (.k (.int .i64 (1))), none⟩,
  ⟨some 9, .mov (.t 30), none⟩]
def c_graph_ascending_b9 (F : String → Nat) : LC := (.seq (.reg (c_graph_ascending_r2 F) [0, 1, 7, 8, 9, 10]) (.seq (.cond (.t 10) .skip (.exit 0)) (.seq (.block 1 (.seq (.reg (c_graph_ascending_r3 F) [0, 1, 5, 6, 7, 8, 9]) (.seq (.seq (.reg (c_graph_ascending_r4 F) [0, 1, 5, 6, 7, 8, 9, 18]) (.cond (.t 18) (.seq (.reg (c_graph_ascending_r5 F) [4]) .ret) .skip)) (.seq (.reg (c_graph_ascending_r6 F) [0, 1, 7, 8, 9, 29]) (.cond (.t 29) (.seq (.reg (c_graph_ascending_r7 F) [4]) .ret) .skip))))) (.reg (c_graph_ascending_r8 F) [0, 1, 7, 8, 9]))))
def c_graph_ascending_r10 (F : String → Nat) : List LI := [⟨some 4, .mov (.k (.int .i64 (0))), none⟩]
def c_graph_ascending (F : String → Nat) : LC := (.seq (.reg (c_graph_ascending_r0 F) [0, 1]) (.seq (.seq (.reg (c_graph_ascending_r1 F) [0, 1, 7, 8, 9]) (.block 0 (.loop [0, 1, 7, 8, 9] (c_graph_ascending_b9 F)))) (.seq (.reg (c_graph_ascending_r10 F) [4]) .ret)))
def h_graph_ascending : Hints := ⟨[], fun _ => [], tab [(0, [0, 1]), (1, [0, 1, 7, 8, 9]), (2, [0, 1, 7, 8, 9, 10]), (3, [0, 1, 5, 6, 7, 8, 9]), (4, [0, 1, 5, 6, 7, 8, 9, 18]), (5, [4]), (6, [0, 1, 7, 8, 9, 29]), (7, [4]), (8, [0, 1, 7, 8, 9]), (9, [4])], tab [(2, [0, 1, 7, 8, 9])]⟩

attribute [go_sem] c_graph_within_r0 c_graph_within_r1 c_graph_within c_graph_fits_r0 c_graph_fits_r1 c_graph_fits c_graph_Valid_r0 c_graph_Valid_r1 c_graph_Valid_r2 c_graph_Valid_r3 c_graph_Valid_r4 c_graph_Valid_r5 c_graph_Valid_r6 c_graph_Valid_r7 c_graph_Valid c_graph_Valid_1_r0 c_graph_Valid_1_r1 c_graph_Valid_1 c_graph_Valid_2_r0 c_graph_Valid_2_r1 c_graph_Valid_2 c_slices_Index_I_r0 c_slices_Index_I_r1 c_slices_Index_I_r2 c_slices_Index_I_r3 c_slices_Index_I_r4 c_slices_Index_I_r5 c_slices_Index_I_r6 c_slices_Index_I_r8 c_slices_Index_I c_slices_Contains_I_r0 c_slices_Contains_I_r1 c_slices_Contains_I c_slices_IndexFunc_I_r0 c_slices_IndexFunc_I_r1 c_slices_IndexFunc_I_r2 c_slices_IndexFunc_I_r3 c_slices_IndexFunc_I_r4 c_slices_IndexFunc_I_r5 c_slices_IndexFunc_I_r6 c_slices_IndexFunc_I_r8 c_slices_IndexFunc_I c_slices_ContainsFunc_I_r0 c_slices_ContainsFunc_I_r1 c_slices_ContainsFunc_I c_slices_IndexFunc_E_r0 c_slices_IndexFunc_E_r1 c_slices_IndexFunc_E_r2 c_slices_IndexFunc_E_r3 c_slices_IndexFunc_E_r4 c_slices_IndexFunc_E_r5 c_slices_IndexFunc_E_r6 c_slices_IndexFunc_E_r8 c_slices_IndexFunc_E c_slices_ContainsFunc_E_r0 c_slices_ContainsFunc_E_r1 c_slices_ContainsFunc_E c_graph_ascending_r0 c_graph_ascending_r1 c_graph_ascending_r2 c_graph_ascending_r3 c_graph_ascending_r4 c_graph_ascending_r5 c_graph_ascending_r6 c_graph_ascending_r7 c_graph_ascending_r8 c_graph_ascending_r10 c_graph_ascending
section
variable (P : Program) (F : String → Nat)
def fitsE (n : Int) (x : E) : Bool := decide (0 ≤ x.t ∧ x.t ≤ 99) && decide (0 ≤ x.f ∧ x.f ≤ n - 1) && decide (0 ≤ x.o ∧ x.o ≤ n - 1)
def idx {α : Type} (p : α → Bool) : List α → Int → Int
  | [], _ => -1
  | a :: l, i => if p a then i else idx p l (i + 1)
def K_graph_within : Prop := ∀ n m : Int, FC P (F "graph.within") [.int .i64 n, .int .i64 m] (.bool (decide (0 ≤ n ∧ n ≤ m))) []
def K_graph_fits : Prop := ∀ (x : E) (n : Int), 0 ≤ n ∧ n ≤ 1000000 → FC P (F "graph.fits") [edD x, .int .i64 n] (.bool (fitsE n x)) []
def K_slices_Index_I : Prop := ∀ (l : List Int) (x : Int), l.length ≤ maxL → FC P (F "slices.Index.I") [.lst 1 (ints l), .int .i64 x] (.int .i64 (idx (fun y => decide (x = y)) l 0)) []
/-- A graph. -/
structure _root_.Go.Am.G where
  n : List Int
  e : List E
  deriving DecidableEq, Inhabited
def gD (g : G) : D := .agg [.lst 1 (ints g.n), .lst 3 (eds g.e)]
def gA (g : G) : D := .agg [.arr 1 (ints g.n), .arr 3 (eds g.e)]
def okN (x : Int) : Bool := decide (0 ≤ x ∧ x ≤ 99)
def validG (g : G) : Int := if 40 < g.n.length ∨ 80 < g.e.length then 3 else if g.n.all okN && g.e.all (fitsE g.n.length) then 0 else 6
def K_slices_IndexFunc_I : Prop := ∀ (l : List Int), l.length ≤ maxL → ∀ (g : Nat) (cs : List D), cs.all okC2 = true → ∀ p : Int → Bool, (∀ x, x ∈ l → FC P g (.int .i64 x :: cs) (.bool (p x)) []) → FC P (F "slices.IndexFunc.I") [.lst 1 (ints l), .clo g cs] (.int .i64 (idx p l 0)) []
def K_slices_IndexFunc_E : Prop := ∀ (l : List E), l.length ≤ maxL → ∀ (g : Nat) (cs : List D), cs.all okC2 = true → ∀ p : E → Bool, (∀ x, x ∈ l → FC P g (edD x :: cs) (.bool (p x)) []) → FC P (F "slices.IndexFunc.E") [.lst 3 (eds l), .clo g cs] (.int .i64 (idx p l 0)) []
def K_slices_ContainsFunc_I : Prop := ∀ (l : List Int), l.length ≤ maxL → ∀ (g : Nat) (cs : List D), cs.all okC2 = true → ∀ p : Int → Bool, (∀ x, x ∈ l → FC P g (.int .i64 x :: cs) (.bool (p x)) []) → FC P (F "slices.ContainsFunc.I") [.lst 1 (ints l), .clo g cs] (.bool (l.any p)) []
def K_slices_ContainsFunc_E : Prop := ∀ (l : List E), l.length ≤ maxL → ∀ (g : Nat) (cs : List D), cs.all okC2 = true → ∀ p : E → Bool, (∀ x, x ∈ l → FC P g (edD x :: cs) (.bool (p x)) []) → FC P (F "slices.ContainsFunc.E") [.lst 3 (eds l), .clo g cs] (.bool (l.any p)) []
def K_graph_Valid_1 : Prop := ∀ x : Int, FC P (F "graph.Valid.1") [.int .i64 x] (.bool (!decide (0 ≤ x ∧ x ≤ 99))) []
def K_graph_Valid_2 : Prop := ∀ (x : E) (ns : List Int) (es : List E), ns.length ≤ 1000000 → FC P (F "graph.Valid.2") [edD x, .ref [.lst 1 (ints ns), .lst 3 (eds es)]] (.bool (!fitsE ns.length x)) []
def K_graph_Valid : Prop := ∀ g : G, FC P (F "graph.Valid") [gD g] (.int .i64 (validG g)) []
theorem _root_.Go.Am.gt_mem {α : Type} [Inhabited α] {l : List α} {j : Int} (h0 : 0 ≤ j) (h : j < l.length) : gt l j ∈ l := List.mem_of_getElem? (get_gt h0 h)
def K_slices_Contains_I : Prop := ∀ (l : List Int) (x : Int), l.length ≤ maxL → FC P (F "slices.Contains.I") [.lst 1 (ints l), .int .i64 x] (.bool (decide (x ∈ l))) []
end
section
variable {P : Program} {F : String → Nat} {α : Type}
theorem idx_drop [Inhabited α] (p : α → Bool) (l : List α) (i : Nat) (h : i < l.length) : idx p (l.drop i) i = if p (gt l i) then (i : Int) else idx p (l.drop (i + 1)) ((i + 1 : Nat) : Int) := by
  rw [List.drop_eq_getElem_cons h, gt_nat h]; rfl
theorem idx_ge (p : α → Bool) : ∀ (l : List α) (i : Int), 0 ≤ i → (decide (0 ≤ idx p l i)) = l.any p
  | [], i, h => by simp [idx]
  | a :: l, i, h => by
    simp only [idx, List.any_cons]
    split
    · rename_i ha; simp [ha, h]
    · rename_i ha; rw [idx_ge p l (i + 1) (by omega)]; simp [ha]

theorem w_graph_within (n m : Int) : W P (c_graph_within F) (Done [.t 4] [] (.bool (decide (0 ≤ n ∧ n ≤ m))) []) (init [.int .i64 n, .int .i64 m]) := by
  refine W_of ?_
  simp (config := { maxSteps := 1000000 }) (disch := first | omega | (simp only [go_sem]; omega)) only [go_sem, ↓reduceIte]
  refine bran_dec (fun h => ?_) (fun h => ?_)
  · simp (config := { maxSteps := 1000000 }) (disch := first | omega | (simp only [go_sem]; omega)) only [go_sem, ↓reduceIte, h]
  · simp (config := { maxSteps := 1000000 }) (disch := first | omega | (simp only [go_sem]; omega)) only [go_sem, ↓reduceIte, h]
theorem w_graph_fits (h : K_graph_within P F) (x : E) (n : Int) (hn : 0 ≤ n ∧ n ≤ 1000000) : W P (c_graph_fits F) (Done [.t 4] [] (.bool (fitsE n x)) []) (init [edD x, .int .i64 n]) := by
  refine W_of ?_
  simp (config := { maxSteps := 1000000 }) (disch := first | omega | (simp only [go_sem]; omega)) only [go_sem, ↓reduceIte, edD]
  refine call_by (h _ _) ?_
  simp (config := { maxSteps := 1000000 }) (disch := first | omega | (simp only [go_sem]; omega)) only [go_sem, ↓reduceIte]
  refine bran_dec (fun h1 => ?_) (fun h1 => ?_)
  · simp (config := { maxSteps := 1000000 }) (disch := first | omega | (simp only [go_sem]; omega)) only [go_sem, ↓reduceIte, h1]
    refine call_by (h _ _) ?_
    simp (config := { maxSteps := 1000000 }) (disch := first | omega | (simp only [go_sem]; omega)) only [go_sem, ↓reduceIte, h1]
    refine bran_dec (fun h2 => ?_) (fun h2 => ?_)
    · simp (config := { maxSteps := 1000000 }) (disch := first | omega | (simp only [go_sem]; omega)) only [go_sem, ↓reduceIte, h2]
      refine call_by (h _ _) ?_
      simp (config := { maxSteps := 1000000 }) (disch := first | omega | (simp only [go_sem]; omega)) only [go_sem, ↓reduceIte, h2]
      simp [fitsE, h1, h2]
    · simp (config := { maxSteps := 1000000 }) (disch := first | omega | (simp only [go_sem]; omega)) only [go_sem, ↓reduceIte, h2]
      simp [fitsE, h1, h2]
  · simp (config := { maxSteps := 1000000 }) (disch := first | omega | (simp only [go_sem]; omega)) only [go_sem, ↓reduceIte, h1]
    simp [fitsE, h1]
theorem w_slices_Index_I (l : List Int) (x : Int) (hl : l.length ≤ maxL) : W P (c_slices_Index_I F) (Done [.t 4] [] (.int .i64 (idx (fun y => decide (x = y)) l 0)) []) (init [.lst 1 (ints l), .int .i64 x]) := by
  refine W_of ?_
  unfold maxL at hl
  simp (config := { maxSteps := 1000000 }) (disch := first | omega | (simp only [go_sem]; omega)) only [go_sem, ↓reduceIte]
  refine W_loop (fun i : Nat => ⟨[(0, .lst 1 (ints l)), (1, .int .i64 x), (7, .int .i64 l.length), (8, .int .i64 i)], [], 0⟩) (fun i => i ≤ l.length ∧ idx (fun y => decide (x = y)) l 0 = idx (fun y => decide (x = y)) (l.drop i) i) (fun i => l.length - i) 0 ?_ ?_ ?_
  · simp (config := { maxSteps := 1000000 }) (disch := first | omega | (simp only [go_sem]; omega)) only [go_sem, ↓reduceIte]
    rfl
  · simp
  · intro i hi
    simp (config := { maxSteps := 1000000 }) (disch := first | omega | (simp only [go_sem]; omega)) only [go_sem, ↓reduceIte, c_slices_Index_I_b7]
    refine bran_dec (fun h => ?_) (fun h => ?_)
    · have hd := idx_drop (fun y => decide (x = y)) l i (by omega)
      simp (config := { maxSteps := 1000000 }) (disch := first | omega | (simp only [go_sem]; omega)) only [go_sem, ↓reduceIte]
      refine bran_dec (fun h2 => ?_) (fun h2 => ?_)
      · simp (config := { maxSteps := 1000000 }) (disch := first | omega | (simp only [go_sem]; omega)) only [go_sem, ↓reduceIte]
        rw [hi.2, hd, if_pos (by simpa using h2)]
      · simp (config := { maxSteps := 1000000 }) (disch := first | omega | (simp only [go_sem]; omega)) only [go_sem, ↓reduceIte]
        exact ⟨i + 1, by simp, ⟨by omega, by rw [hi.2, hd, if_neg (by simpa using h2)]⟩, by omega⟩
    · simp (config := { maxSteps := 1000000 }) (disch := first | omega | (simp only [go_sem]; omega)) only [go_sem, ↓reduceIte]
      rw [hi.2, List.drop_of_length_le (by omega)]
      rfl
theorem w_slices_Contains_I (hi : K_slices_Index_I P F) (l : List Int) (x : Int) (hl : l.length ≤ maxL) : W P (c_slices_Contains_I F) (Done [.t 4] [] (.bool (decide (x ∈ l))) []) (init [.lst 1 (ints l), .int .i64 x]) := by
  refine W_of ?_
  simp (config := { maxSteps := 1000000 }) (disch := first | omega | (simp only [go_sem]; omega)) only [go_sem, ↓reduceIte]
  refine call_by (hi l x hl) ?_
  simp (config := { maxSteps := 1000000 }) (disch := first | omega | (simp only [go_sem]; omega)) only [go_sem, ↓reduceIte]
  rw [idx_ge _ _ _ (by omega)]
  simp [List.any_eq]
theorem w_slices_IndexFunc_I (l : List Int) (hl : l.length ≤ maxL) (g : Nat) (cs : List D) (hcs : cs.all okC2 = true) (p : Int → Bool) (hg : ∀ x, x ∈ l → FC P g (.int .i64 x :: cs) (.bool (p x)) []) : W P (c_slices_IndexFunc_I F) (Done [.t 4] [] (.int .i64 (idx p l 0)) []) (init [.lst 1 (ints l), .clo g cs]) := by
  refine W_of ?_
  unfold maxL at hl
  have e1 := caps_lend2 hcs
  have e2 := caps_ren hcs
  simp (config := { maxSteps := 1000000 }) (disch := first | omega | (simp only [go_sem]; omega)) only [go_sem, ↓reduceIte]
  refine W_loop (fun i : Nat => ⟨[(0, .lst 1 (ints l)), (1, .clo g cs), (7, .int .i64 l.length), (8, .int .i64 i)], [], 0⟩) (fun i => i ≤ l.length ∧ idx p l 0 = idx p (l.drop i) i) (fun i => l.length - i) 0 ?_ ?_ ?_
  · simp (config := { maxSteps := 1000000 }) (disch := first | omega | (simp only [go_sem]; omega)) only [go_sem, ↓reduceIte, e2]
    rfl
  · simp
  · intro i hi
    simp (config := { maxSteps := 1000000 }) (disch := first | omega | (simp only [go_sem]; omega)) only [go_sem, ↓reduceIte, c_slices_IndexFunc_I_b7]
    refine bran_dec (fun h => ?_) (fun h => ?_)
    · have hd := idx_drop p l i (by omega)
      simp (config := { maxSteps := 1000000 }) (disch := first | omega | (simp only [go_sem]; omega)) only [go_sem, ↓reduceIte, e1]
      refine call_by (hg _ (gt_mem (by omega) h)) ?_
      simp (config := { maxSteps := 1000000 }) (disch := first | omega | (simp only [go_sem]; omega)) only [go_sem, ↓reduceIte]
      refine bran_by (fun h2 => ?_) (fun h2 => ?_)
      · simp (config := { maxSteps := 1000000 }) (disch := first | omega | (simp only [go_sem]; omega)) only [go_sem, ↓reduceIte]
        rw [hi.2, hd, if_pos h2]
      · simp (config := { maxSteps := 1000000 }) (disch := first | omega | (simp only [go_sem]; omega)) only [go_sem, ↓reduceIte, e2]
        exact ⟨i + 1, by simp, ⟨by omega, by rw [hi.2, hd, if_neg (by simp [h2])]⟩, by omega⟩
    · simp (config := { maxSteps := 1000000 }) (disch := first | omega | (simp only [go_sem]; omega)) only [go_sem, ↓reduceIte]
      rw [hi.2, List.drop_of_length_le (by omega)]
      rfl
theorem w_slices_IndexFunc_E (l : List E) (hl : l.length ≤ maxL) (g : Nat) (cs : List D) (hcs : cs.all okC2 = true) (p : E → Bool) (hg : ∀ x, x ∈ l → FC P g (edD x :: cs) (.bool (p x)) []) : W P (c_slices_IndexFunc_E F) (Done [.t 4] [] (.int .i64 (idx p l 0)) []) (init [.lst 3 (eds l), .clo g cs]) := by
  refine W_of ?_
  unfold maxL at hl
  have e1 := caps_lend2 hcs
  have e2 := caps_ren hcs
  simp (config := { maxSteps := 1000000 }) (disch := first | omega | (simp only [go_sem]; omega)) only [go_sem, ↓reduceIte]
  refine W_loop (fun i : Nat => ⟨[(0, .lst 3 (eds l)), (1, .clo g cs), (7, .int .i64 l.length), (8, .int .i64 i)], [], 0⟩) (fun i => i ≤ l.length ∧ idx p l 0 = idx p (l.drop i) i) (fun i => l.length - i) 0 ?_ ?_ ?_
  · simp (config := { maxSteps := 1000000 }) (disch := first | omega | (simp only [go_sem]; omega)) only [go_sem, ↓reduceIte, e2]
    rfl
  · simp
  · intro i hi
    simp (config := { maxSteps := 1000000 }) (disch := first | omega | (simp only [go_sem]; omega)) only [go_sem, ↓reduceIte, c_slices_IndexFunc_E_b7]
    refine bran_dec (fun h => ?_) (fun h => ?_)
    · have hd := idx_drop p l i (by omega)
      simp (config := { maxSteps := 1000000 }) (disch := first | omega | (simp only [go_sem]; omega)) only [go_sem, ↓reduceIte, e1]
      refine call_by (hg _ (gt_mem (by omega) h)) ?_
      simp (config := { maxSteps := 1000000 }) (disch := first | omega | (simp only [go_sem]; omega)) only [go_sem, ↓reduceIte]
      refine bran_by (fun h2 => ?_) (fun h2 => ?_)
      · simp (config := { maxSteps := 1000000 }) (disch := first | omega | (simp only [go_sem]; omega)) only [go_sem, ↓reduceIte]
        rw [hi.2, hd, if_pos h2]
      · simp (config := { maxSteps := 1000000 }) (disch := first | omega | (simp only [go_sem]; omega)) only [go_sem, ↓reduceIte, e2]
        exact ⟨i + 1, by simp, ⟨by omega, by rw [hi.2, hd, if_neg (by simp [h2])]⟩, by omega⟩
    · simp (config := { maxSteps := 1000000 }) (disch := first | omega | (simp only [go_sem]; omega)) only [go_sem, ↓reduceIte]
      rw [hi.2, List.drop_of_length_le (by omega)]
      rfl
theorem w_slices_ContainsFunc_I (hi : K_slices_IndexFunc_I P F) (l : List Int) (hl : l.length ≤ maxL) (g : Nat) (cs : List D) (hcs : cs.all okC2 = true) (p : Int → Bool) (hg : ∀ x, x ∈ l → FC P g (.int .i64 x :: cs) (.bool (p x)) []) : W P (c_slices_ContainsFunc_I F) (Done [.t 4] [] (.bool (l.any p)) []) (init [.lst 1 (ints l), .clo g cs]) := by
  refine W_of ?_
  simp (config := { maxSteps := 1000000 }) (disch := first | omega | (simp only [go_sem]; omega)) only [go_sem, ↓reduceIte, caps_lend hcs]
  refine call_by (hi l hl g cs hcs p hg) ?_
  simp (config := { maxSteps := 1000000 }) (disch := first | omega | (simp only [go_sem]; omega)) only [go_sem, ↓reduceIte]
  rw [idx_ge _ _ _ (by omega)]
theorem w_slices_ContainsFunc_E (hi : K_slices_IndexFunc_E P F) (l : List E) (hl : l.length ≤ maxL) (g : Nat) (cs : List D) (hcs : cs.all okC2 = true) (p : E → Bool) (hg : ∀ x, x ∈ l → FC P g (edD x :: cs) (.bool (p x)) []) : W P (c_slices_ContainsFunc_E F) (Done [.t 4] [] (.bool (l.any p)) []) (init [.lst 3 (eds l), .clo g cs]) := by
  refine W_of ?_
  simp (config := { maxSteps := 1000000 }) (disch := first | omega | (simp only [go_sem]; omega)) only [go_sem, ↓reduceIte, caps_lend hcs]
  refine call_by (hi l hl g cs hcs p hg) ?_
  simp (config := { maxSteps := 1000000 }) (disch := first | omega | (simp only [go_sem]; omega)) only [go_sem, ↓reduceIte]
  rw [idx_ge _ _ _ (by omega)]
theorem w_graph_Valid_1 (h : K_graph_within P F) (x : Int) : W P (c_graph_Valid_1 F) (Done [.t 2] [] (.bool (!decide (0 ≤ x ∧ x ≤ 99))) []) (init [.int .i64 x]) := by
  refine W_of ?_
  simp (config := { maxSteps := 1000000 }) (disch := first | omega | (simp only [go_sem]; omega)) only [go_sem, ↓reduceIte]
  refine call_by (h _ _) ?_
  simp (config := { maxSteps := 1000000 }) (disch := first | omega | (simp only [go_sem]; omega)) only [go_sem, ↓reduceIte]
theorem w_graph_Valid_2 (h : K_graph_fits P F) (x : E) (ns : List Int) (es : List E) (hn : ns.length ≤ 1000000) : W P (c_graph_Valid_2 F) (Done [.t 3] [] (.bool (!fitsE ns.length x)) []) (init [edD x, .ref [.lst 1 (ints ns), .lst 3 (eds es)]]) := by
  refine W_of ?_
  simp (config := { maxSteps := 1000000 }) (disch := first | omega | (simp only [go_sem]; omega)) only [go_sem, ↓reduceIte, edD]
  refine call_by (h _ _ (by omega)) ?_
  simp (config := { maxSteps := 1000000 }) (disch := first | omega | (simp only [go_sem]; omega)) only [go_sem, ↓reduceIte]
theorem w_graph_Valid (h1 : K_slices_ContainsFunc_I P F) (h2 : K_slices_ContainsFunc_E P F) (hv1 : K_graph_Valid_1 P F) (hv2 : K_graph_Valid_2 P F) (g : G) : W P (c_graph_Valid F) (Done [.t 2] [] (.int .i64 (validG g)) []) (init [gD g]) := by
  refine W_of ?_
  obtain ⟨ns, es⟩ := g
  simp (config := { maxSteps := 1000000 }) (disch := first | omega | (simp only [go_sem]; omega)) only [go_sem, ↓reduceIte, gD]
  refine bran_dec (fun a1 => ?_) (fun a1 => ?_)
  · simp (config := { maxSteps := 1000000 }) (disch := first | omega | (simp only [go_sem]; omega)) only [go_sem, ↓reduceIte, a1]
    simp [validG]
    omega
  · simp (config := { maxSteps := 1000000 }) (disch := first | omega | (simp only [go_sem]; omega)) only [go_sem, ↓reduceIte, a1]
    refine bran_dec (fun a2 => ?_) (fun a2 => ?_)
    · simp (config := { maxSteps := 1000000 }) (disch := first | omega | (simp only [go_sem]; omega)) only [go_sem, ↓reduceIte]
      simp [validG]
      omega
    · simp (config := { maxSteps := 1000000 }) (disch := first | omega | (simp only [go_sem]; omega)) only [go_sem, ↓reduceIte]
      refine call_by (h1 ns (by unfold maxL; omega) _ [] rfl _ (fun x _ => hv1 x)) ?_
      simp (config := { maxSteps := 1000000 }) (disch := first | omega | (simp only [go_sem]; omega)) only [go_sem, ↓reduceIte]
      refine bran_by (fun a3 => ?_) (fun a3 => ?_)
      · simp (config := { maxSteps := 1000000 }) (disch := first | omega | (simp only [go_sem]; omega)) only [go_sem, ↓reduceIte]
        have e : ns.all okN = false := by
          rw [← Bool.not_eq_true, List.all_eq_true]
          rw [List.any_eq_true] at a3
          obtain ⟨x, hx, hp⟩ := a3
          exact fun h => by have := h x hx; simp [okN] at this hp; omega
        simp [validG, a1, a2, e]; omega
      · have e : ns.all okN = true := by
          rw [List.all_eq_true]
          rw [List.any_eq_false] at a3
          exact fun x hx => by have := a3 x hx; simpa [okN] using this
        simp (config := { maxSteps := 1000000 }) (disch := first | omega | (simp only [go_sem]; omega)) only [go_sem, ↓reduceIte]
        refine call_by (h2 es (by unfold maxL; omega) _ _ rfl _ (fun x _ => hv2 x ns es (by omega))) ?_
        simp (config := { maxSteps := 1000000 }) (disch := first | omega | (simp only [go_sem]; omega)) only [go_sem, ↓reduceIte]
        refine bran_by (fun a4 => ?_) (fun a4 => ?_)
        · simp (config := { maxSteps := 1000000 }) (disch := first | omega | (simp only [go_sem]; omega)) only [go_sem, ↓reduceIte]
          have e2 : es.all (fitsE ns.length) = false := by
            rw [← Bool.not_eq_true, List.all_eq_true]
            rw [List.any_eq_true] at a4
            obtain ⟨x, hx, hp⟩ := a4
            exact fun h => by have := h x hx; simp [this] at hp
          simp [validG, a1, a2, e, e2]; omega
        · simp (config := { maxSteps := 1000000 }) (disch := first | omega | (simp only [go_sem]; omega)) only [go_sem, ↓reduceIte]
          have e2 : es.all (fitsE ns.length) = true := by
            rw [List.all_eq_true]
            rw [List.any_eq_false] at a4
            exact fun x hx => by have := a4 x hx; simpa using this
          simp [validG, a1, a2, e, e2]; omega
end
end Go.Am
