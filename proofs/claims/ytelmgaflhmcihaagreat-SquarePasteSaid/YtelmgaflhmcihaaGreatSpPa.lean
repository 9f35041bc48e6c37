/- The graph package: searches. -/
/- The graph package and its reference: parts. -/
/- The graph package and its reference: validity, comparison, what is left. -/
/- Drafts of graphs; what laws take. -/
import Derived.Test.YtelmgaflhmcihaaGreatAmPh
namespace Go.Am
open Go
set_option linter.unusedVariables false
set_option linter.unusedSimpArgs false
/- graph.within -/
def c_graph_within_r0 (F : String → Nat) : List LI := [⟨some 4, .mov (.k (.bool false)), none⟩]
def c_graph_within_r1 (F : String → Nat) : List LI := [⟨some 5, .mov (.t 0), none⟩,
  ⟨some 6, .bin .geq (.t 5) (.k (.int .i64 (0))), none⟩,
  ⟨some 7, .mov (.t 6), none⟩,
  ⟨some 8, .mov (.t 0), some (7, true)⟩,
  ⟨some 9, .mov (.t 1), some (7, true)⟩,
  ⟨some 10, .bin .leq (.t 8) (.t 9), some (7, true)⟩,
  ⟨some 11, .pick (.t 7) (.t 10) (.k (.bool false)), none⟩,
  ⟨some 4, .mov (.t 11), none⟩]
def c_graph_within (F : String → Nat) : LC := (.seq (.reg (c_graph_within_r0 F) [0, 1]) (.seq (.reg (c_graph_within_r1 F) [4]) .ret))
def h_graph_within : Hints := ⟨[], fun _ => [], tab [(0, [0, 1]), (1, [4])], tab []⟩

/- graph.fits -/
def c_graph_fits_r0 (F : String → Nat) : List LI := [⟨some 2, .bx (.t 0), none⟩,
  ⟨some 4, .mov (.k (.bool false)), none⟩]
def c_graph_fits_r1 (F : String → Nat) : List LI := [⟨some 5, .fad 0 (.t 2), none⟩,
  ⟨some 6, .load false 1 (.t 5), none⟩,
  ⟨some 7, .call (F "graph.within") [.t 6, .k (.int .i64 (99))] [], none⟩,
  ⟨some 8, .mov (.t 7), none⟩,
  ⟨some 9, .fad 1 (.t 2), some (8, true)⟩,
  ⟨some 10, .load false 1 (.t 9), some (8, true)⟩,
  ⟨some 11, .mov (.t 1), some (8, true)⟩,
  ⟨some 12, .bin .sub (.t 11) (.k (.int .i64 (1))), some (8, true)⟩,
  ⟨some 13, .call (F "graph.within") [.t 10, .t 12] [], some (8, true)⟩,
  ⟨some 14, .pick (.t 8) (.t 13) (.k (.bool false)), none⟩,
  ⟨some 15, .mov (.t 14), none⟩,
  ⟨some 16, .fad 2 (.t 2), some (15, true)⟩,
  ⟨some 17, .load false 1 (.t 16), some (15, true)⟩,
  ⟨some 18, .mov (.t 1), some (15, true)⟩,
  ⟨some 19, .bin .sub (.t 18) (.k (.int .i64 (1))), some (15, true)⟩,
  ⟨some 20, .call (F "graph.within") [.t 17, .t 19] [], some (15, true)⟩,
  ⟨some 21, .pick (.t 15) (.t 20) (.k (.bool false)), none⟩,
  ⟨some 4, .mov (.t 21), none⟩]
def c_graph_fits (F : String → Nat) : LC := (.seq (.reg (c_graph_fits_r0 F) [1, 2]) (.seq (.reg (c_graph_fits_r1 F) [4]) .ret))
def h_graph_fits : Hints := ⟨[], fun _ => [], tab [(0, [1, 2]), (1, [4])], tab []⟩

/- graph.Valid -/
def c_graph_Valid_r0 (F : String → Nat) : List LI := [⟨some 1, .bx (.t 0), none⟩,
  ⟨some 2, .mov (.k (.int .i64 (0))), none⟩]
def c_graph_Valid_r1 (F : String → Nat) : List LI := [⟨some 3, .fad 0 (.t 1), none⟩,
  ⟨some 4, .load false 1 (.t 3), none⟩,
  ⟨some 5, .len (.t 4), none⟩,
  ⟨some 6, .bin .gtr (.t 5) (.k (.int .i64 (40))), none⟩,
  ⟨some 7, .mov (.t 6), none⟩,
  ⟨some 8, .fad 1 (.t 1), some (7, false)⟩,
  ⟨some 9, .load false 1 (.t 8), some (7, false)⟩,
  ⟨some 10, .len (.t 9), some (7, false)⟩,
  ⟨some 11, .bin .gtr (.t 10) (.k (.int .i64 (80))), some (7, false)⟩,
  ⟨some 12, .pick (.t 7) (.k (.bool true)) (.t 11), none⟩]
def c_graph_Valid_r2 (F : String → Nat) : List LI := [⟨some 2, .mov (.k (.int .i64 (3))), none⟩]
def c_graph_Valid_r3 (F : String → Nat) : List LI := [⟨some 13, .fad 0 (.t 1), none⟩,
  ⟨some 14, .load false 1 (.t 13), none⟩,
  ⟨some 15, .call (F "slices.ContainsFunc.I") [.t 14, .k (.clo (F "graph.Valid.1") [])] [], none⟩]
def c_graph_Valid_r4 (F : String → Nat) : List LI := [⟨some 2, .mov (.k (.int .i64 (6))), none⟩]
def c_graph_Valid_r5 (F : String → Nat) : List LI := [⟨some 16, .fad 1 (.t 1), none⟩,
  ⟨some 17, .load false 1 (.t 16), none⟩,
  ⟨some 18, .mkf (F "graph.Valid.2") [.t 1], none⟩,
  ⟨some 19, .call (F "slices.ContainsFunc.E") [.t 17, .t 18] [], none⟩]
def c_graph_Valid_r6 (F : String → Nat) : List LI := [⟨some 2, .mov (.k (.int .i64 (6))), none⟩]
def c_graph_Valid_r7 (F : String → Nat) : List LI := [⟨some 2, .mov (.k (.int .i64 (0))), none⟩]
def c_graph_Valid (F : String → Nat) : LC := (.seq (.reg (c_graph_Valid_r0 F) [1]) (.seq (.seq (.reg (c_graph_Valid_r1 F) [1, 12]) (.cond (.t 12) (.seq (.reg (c_graph_Valid_r2 F) [2]) .ret) .skip)) (.seq (.seq (.reg (c_graph_Valid_r3 F) [1, 15]) (.cond (.t 15) (.seq (.reg (c_graph_Valid_r4 F) [2]) .ret) .skip)) (.seq (.seq (.reg (c_graph_Valid_r5 F) [19]) (.cond (.t 19) (.seq (.reg (c_graph_Valid_r6 F) [2]) .ret) .skip)) (.seq (.reg (c_graph_Valid_r7 F) [2]) .ret)))))
def h_graph_Valid : Hints := ⟨[], fun _ => [], tab [(0, [1]), (1, [1, 12]), (2, [2]), (3, [1, 15]), (4, [2]), (5, [19]), (6, [2]), (7, [2])], tab []⟩

/- graph.Valid.1 -/
def c_graph_Valid_1_r0 (F : String → Nat) : List LI := [⟨some 2, .mov (.k (.bool false)), none⟩]
def c_graph_Valid_1_r1 (F : String → Nat) : List LI := [⟨some 3, .mov (.t 0), none⟩,
  ⟨some 4, .call (F "graph.within") [.t 3, .k (.int .i64 (99))] [], none⟩,
  ⟨some 5, .not (.t 4), none⟩,
  ⟨some 2, .mov (.t 5), none⟩]
def c_graph_Valid_1 (F : String → Nat) : LC := (.seq (.reg (c_graph_Valid_1_r0 F) [0]) (.seq (.reg (c_graph_Valid_1_r1 F) [2]) .ret))
def h_graph_Valid_1 : Hints := ⟨[], fun _ => [], tab [(0, [0]), (1, [2])], tab []⟩

/- graph.Valid.2 -/
def c_graph_Valid_2_r0 (F : String → Nat) : List LI := [⟨some 2, .bx (.t 0), none⟩,
  ⟨some 3, .mov (.k (.bool false)), none⟩]
def c_graph_Valid_2_r1 (F : String → Nat) : List LI := [⟨some 4, .load true 3 (.t 2), none⟩,
  ⟨some 5, .fad 0 (.t 1), none⟩,
  ⟨some 6, .load false 1 (.t 5), none⟩,
  ⟨some 7, .len (.t 6), none⟩,
  ⟨some 8, .call (F "graph.fits") [.t 4, .t 7] [], none⟩,
  ⟨some 9, .not (.t 8), none⟩,
  ⟨some 3, .mov (.t 9), none⟩]
def c_graph_Valid_2 (F : String → Nat) : LC := (.seq (.reg (c_graph_Valid_2_r0 F) [1, 2]) (.seq (.reg (c_graph_Valid_2_r1 F) [3]) .ret))
def h_graph_Valid_2 : Hints := ⟨[], fun _ => [], tab [(0, [1, 2]), (1, [3])], tab []⟩

/- slices.Index.I -/
def c_slices_Index_I_r0 (F : String → Nat) : List LI := [⟨some 4, .mov (.k (.int .i64 (0))), none⟩]
def c_slices_Index_I_r1 (F : String → Nat) : List LI := [⟨some 6, .mov (.t 0), none⟩,
  ⟨some 7, .len (.t 6), none⟩,
  ⟨some 8, .mov (.k (.int .i64 (0))), none⟩]
def c_slices_Index_I_r2 (F : String → Nat) : List LI := [⟨some 9, .bin .lss (.t 8) (.t 7), none⟩]
def c_slices_Index_I_r3 (F : String → Nat) : List LI := [⟨some 10, .mov (.t 8), none⟩,
  ⟨some 5, .mov (.t 10), none⟩]
def c_slices_Index_I_r4 (F : String → Nat) : List LI := [⟨some 11, .mov (.t 1), none⟩,
  ⟨some 12, .mov (.t 0), none⟩,
  ⟨some 13, .mov (.t 5), none⟩,
  ⟨some 14, .iad 1 (.t 12) (.t 13), none⟩,
  ⟨some 15, .load false 1 (.t 14), none⟩,
  ⟨some 16, .bin .eql (.t 11) (.t 15), none⟩]
def c_slices_Index_I_r5 (F : String → Nat) : List LI := [⟨some 17, .mov (.t 5), none⟩,
  ⟨some 4, .mov (.t 17), none⟩]
def c_slices_Index_I_r6 (F : String → Nat) : List LI := [⟨some 18, .bin .add (.t 8) (.k (.int .i64 (1))), none⟩,
  ⟨some 8, .mov (.t 18), none⟩]
def c_slices_Index_I_b7 (F : String → Nat) : LC := (.seq (.reg (c_slices_Index_I_r2 F) [0, 1, 7, 8, 9]) (.seq (.cond (.t 9) .skip (.exit 0)) (.seq (.block 1 (.seq (.reg (c_slices_Index_I_r3 F) [0, 1, 5, 7, 8]) (.seq (.reg (c_slices_Index_I_r4 F) [0, 1, 5, 7, 8, 16]) (.cond (.t 16) (.seq (.reg (c_slices_Index_I_r5 F) [4]) .ret) .skip)))) (.reg (c_slices_Index_I_r6 F) [0, 1, 7, 8]))))
def c_slices_Index_I_r8 (F : String → Nat) : List LI := [⟨some 4, .mov (.k (.int .i64 (-1))), none⟩]
def c_slices_Index_I (F : String → Nat) : LC := (.seq (.reg (c_slices_Index_I_r0 F) [0, 1]) (.seq (.seq (.reg (c_slices_Index_I_r1 F) [0, 1, 7, 8]) (.block 0 (.loop [0, 1, 7, 8] (c_slices_Index_I_b7 F)))) (.seq (.reg (c_slices_Index_I_r8 F) [4]) .ret)))
def h_slices_Index_I : Hints := ⟨[], fun _ => [], tab [(0, [0, 1]), (1, [0, 1, 7, 8]), (2, [0, 1, 7, 8, 9]), (3, [0, 1, 5, 7, 8]), (4, [0, 1, 5, 7, 8, 16]), (5, [4]), (6, [0, 1, 7, 8]), (7, [4])], tab [(2, [0, 1, 7, 8])]⟩

/- slices.Contains.I -/
def c_slices_Contains_I_r0 (F : String → Nat) : List LI := [⟨some 4, .mov (.k (.bool false)), none⟩]
def c_slices_Contains_I_r1 (F : String → Nat) : List LI := [⟨some 5, .mov (.t 0), none⟩,
  ⟨some 6, .mov (.t 1), none⟩,
  ⟨some 7, .call (F "slices.Index.I") [.t 5, .t 6] [], none⟩,
  ⟨some 8, .bin .geq (.t 7) (.k (.int .i64 (0))), none⟩,
  ⟨some 4, .mov (.t 8), none⟩]
def c_slices_Contains_I (F : String → Nat) : LC := (.seq (.reg (c_slices_Contains_I_r0 F) [0, 1]) (.seq (.reg (c_slices_Contains_I_r1 F) [4]) .ret))
def h_slices_Contains_I : Hints := ⟨[], fun _ => [], tab [(0, [0, 1]), (1, [4])], tab []⟩

/- slices.IndexFunc.I -/
def c_slices_IndexFunc_I_r0 (F : String → Nat) : List LI := [⟨some 4, .mov (.k (.int .i64 (0))), none⟩]
def c_slices_IndexFunc_I_r1 (F : String → Nat) : List LI := [⟨some 6, .mov (.t 0), none⟩,
  ⟨some 7, .len (.t 6), none⟩,
  ⟨some 8, .mov (.k (.int .i64 (0))), none⟩]
def c_slices_IndexFunc_I_r2 (F : String → Nat) : List LI := [⟨some 9, .bin .lss (.t 8) (.t 7), none⟩]
def c_slices_IndexFunc_I_r3 (F : String → Nat) : List LI := [⟨some 10, .mov (.t 8), none⟩,
  ⟨some 5, .mov (.t 10), none⟩]
def c_slices_IndexFunc_I_r4 (F : String → Nat) : List LI := [⟨some 11, .mov (.t 1), none⟩,
  ⟨some 12, .mov (.t 0), none⟩,
  ⟨some 13, .mov (.t 5), none⟩,
  ⟨some 14, .iad 1 (.t 12) (.t 13), none⟩,
  ⟨some 15, .load false 1 (.t 14), none⟩,
  ⟨some 16, .callv (.t 11) [.t 15], none⟩]
def c_slices_IndexFunc_I_r5 (F : String → Nat) : List LI := [⟨some 17, .mov (.t 5), none⟩,
  ⟨some 4, .mov (.t 17), none⟩]
def c_slices_IndexFunc_I_r6 (F : String → Nat) : List LI := [⟨some 18, .bin .add (.t 8) (.k (.int .i64 (1))), none⟩,
  ⟨some 8, .mov (.t 18), none⟩]
def c_slices_IndexFunc_I_b7 (F : String → Nat) : LC := (.seq (.reg (c_slices_IndexFunc_I_r2 F) [0, 1, 7, 8, 9]) (.seq (.cond (.t 9) .skip (.exit 0)) (.seq (.block 1 (.seq (.reg (c_slices_IndexFunc_I_r3 F) [0, 1, 5, 7, 8]) (.seq (.reg (c_slices_IndexFunc_I_r4 F) [0, 1, 5, 7, 8, 16]) (.cond (.t 16) (.seq (.reg (c_slices_IndexFunc_I_r5 F) [4]) .ret) .skip)))) (.reg (c_slices_IndexFunc_I_r6 F) [0, 1, 7, 8]))))
def c_slices_IndexFunc_I_r8 (F : String → Nat) : List LI := [⟨some 4, .mov (.k (.int .i64 (-1))), none⟩]
def c_slices_IndexFunc_I (F : String → Nat) : LC := (.seq (.reg (c_slices_IndexFunc_I_r0 F) [0, 1]) (.seq (.seq (.reg (c_slices_IndexFunc_I_r1 F) [0, 1, 7, 8]) (.block 0 (.loop [0, 1, 7, 8] (c_slices_IndexFunc_I_b7 F)))) (.seq (.reg (c_slices_IndexFunc_I_r8 F) [4]) .ret)))
def h_slices_IndexFunc_I : Hints := ⟨[], fun _ => [], tab [(0, [0, 1]), (1, [0, 1, 7, 8]), (2, [0, 1, 7, 8, 9]), (3, [0, 1, 5, 7, 8]), (4, [0, 1, 5, 7, 8, 16]), (5, [4]), (6, [0, 1, 7, 8]), (7, [4])], tab [(2, [0, 1, 7, 8])]⟩

/- slices.ContainsFunc.I -/
def c_slices_ContainsFunc_I_r0 (F : String → Nat) : List LI := [⟨some 4, .mov (.k (.bool false)), none⟩]
def c_slices_ContainsFunc_I_r1 (F : String → Nat) : List LI := [⟨some 5, .mov (.t 0), none⟩,
  ⟨some 6, .mov (.t 1), none⟩,
  ⟨some 7, .call (F "slices.IndexFunc.I") [.t 5, .t 6] [], none⟩,
  ⟨some 8, .bin .geq (.t 7) (.k (.int .i64 (0))), none⟩,
  ⟨some 4, .mov (.t 8), none⟩]
def c_slices_ContainsFunc_I (F : String → Nat) : LC := (.seq (.reg (c_slices_ContainsFunc_I_r0 F) [0, 1]) (.seq (.reg (c_slices_ContainsFunc_I_r1 F) [4]) .ret))
def h_slices_ContainsFunc_I : Hints := ⟨[], fun _ => [], tab [(0, [0, 1]), (1, [4])], tab []⟩

/- slices.IndexFunc.E -/
def c_slices_IndexFunc_E_r0 (F : String → Nat) : List LI := [⟨some 4, .mov (.k (.int .i64 (0))), none⟩]
def c_slices_IndexFunc_E_r1 (F : String → Nat) : List LI := [⟨some 6, .mov (.t 0), none⟩,
  ⟨some 7, .len (.t 6), none⟩,
  ⟨some 8, .mov (.k (.int .i64 (0))), none⟩]
def c_slices_IndexFunc_E_r2 (F : String → Nat) : List LI := [⟨some 9, .bin .lss (.t 8) (.t 7), none⟩]
def c_slices_IndexFunc_E_r3 (F : String → Nat) : List LI := [⟨some 10, .mov (.t 8), none⟩,
  ⟨some 5, .mov (.t 10), none⟩]
def c_slices_IndexFunc_E_r4 (F : String → Nat) : List LI := [⟨some 11, .mov (.t 1), none⟩,
  ⟨some 12, .mov (.t 0), none⟩,
  ⟨some 13, .mov (.t 5), none⟩,
  ⟨some 14, .iad 3 (.t 12) (.t 13), none⟩,
  ⟨some 15, .load true 3 (.t 14), none⟩,
  ⟨some 16, .callv (.t 11) [.t 15], none⟩]
def c_slices_IndexFunc_E_r5 (F : String → Nat) : List LI := [⟨some 17, .mov (.t 5), none⟩,
  ⟨some 4, .mov (.t 17), none⟩]
def c_slices_IndexFunc_E_r6 (F : String → Nat) : List LI := [⟨some 18, .bin .add (.t 8) (.k (.int .i64 (1))), none⟩,
  ⟨some 8, .mov (.t 18), none⟩]
def c_slices_IndexFunc_E_b7 (F : String → Nat) : LC := (.seq (.reg (c_slices_IndexFunc_E_r2 F) [0, 1, 7, 8, 9]) (.seq (.cond (.t 9) .skip (.exit 0)) (.seq (.block 1 (.seq (.reg (c_slices_IndexFunc_E_r3 F) [0, 1, 5, 7, 8]) (.seq (.reg (c_slices_IndexFunc_E_r4 F) [0, 1, 5, 7, 8, 16]) (.cond (.t 16) (.seq (.reg (c_slices_IndexFunc_E_r5 F) [4]) .ret) .skip)))) (.reg (c_slices_IndexFunc_E_r6 F) [0, 1, 7, 8]))))
def c_slices_IndexFunc_E_r8 (F : String → Nat) : List LI := [⟨some 4, .mov (.k (.int .i64 (-1))), none⟩]
def c_slices_IndexFunc_E (F : String → Nat) : LC := (.seq (.reg (c_slices_IndexFunc_E_r0 F) [0, 1]) (.seq (.seq (.reg (c_slices_IndexFunc_E_r1 F) [0, 1, 7, 8]) (.block 0 (.loop [0, 1, 7, 8] (c_slices_IndexFunc_E_b7 F)))) (.seq (.reg (c_slices_IndexFunc_E_r8 F) [4]) .ret)))
def h_slices_IndexFunc_E : Hints := ⟨[], fun _ => [], tab [(0, [0, 1]), (1, [0, 1, 7, 8]), (2, [0, 1, 7, 8, 9]), (3, [0, 1, 5, 7, 8]), (4, [0, 1, 5, 7, 8, 16]), (5, [4]), (6, [0, 1, 7, 8]), (7, [4])], tab [(2, [0, 1, 7, 8])]⟩

/- slices.ContainsFunc.E -/
def c_slices_ContainsFunc_E_r0 (F : String → Nat) : List LI := [⟨some 4, .mov (.k (.bool false)), none⟩]
def c_slices_ContainsFunc_E_r1 (F : String → Nat) : List LI := [⟨some 5, .mov (.t 0), none⟩,
  ⟨some 6, .mov (.t 1), none⟩,
  ⟨some 7, .call (F "slices.IndexFunc.E") [.t 5, .t 6] [], none⟩,
  ⟨some 8, .bin .geq (.t 7) (.k (.int .i64 (0))), none⟩,
  ⟨some 4, .mov (.t 8), none⟩]
def c_slices_ContainsFunc_E (F : String → Nat) : LC := (.seq (.reg (c_slices_ContainsFunc_E_r0 F) [0, 1]) (.seq (.reg (c_slices_ContainsFunc_E_r1 F) [4]) .ret))
def h_slices_ContainsFunc_E : Hints := ⟨[], fun _ => [], tab [(0, [0, 1]), (1, [4])], tab []⟩

attribute [go_sem] c_graph_within_r0 c_graph_within_r1 c_graph_within c_graph_fits_r0 c_graph_fits_r1 c_graph_fits c_graph_Valid_r0 c_graph_Valid_r1 c_graph_Valid_r2 c_graph_Valid_r3 c_graph_Valid_r4 c_graph_Valid_r5 c_graph_Valid_r6 c_graph_Valid_r7 c_graph_Valid c_graph_Valid_1_r0 c_graph_Valid_1_r1 c_graph_Valid_1 c_graph_Valid_2_r0 c_graph_Valid_2_r1 c_graph_Valid_2 c_slices_Index_I_r0 c_slices_Index_I_r1 c_slices_Index_I_r2 c_slices_Index_I_r3 c_slices_Index_I_r4 c_slices_Index_I_r5 c_slices_Index_I_r6 c_slices_Index_I_r8 c_slices_Index_I c_slices_Contains_I_r0 c_slices_Contains_I_r1 c_slices_Contains_I c_slices_IndexFunc_I_r0 c_slices_IndexFunc_I_r1 c_slices_IndexFunc_I_r2 c_slices_IndexFunc_I_r3 c_slices_IndexFunc_I_r4 c_slices_IndexFunc_I_r5 c_slices_IndexFunc_I_r6 c_slices_IndexFunc_I_r8 c_slices_IndexFunc_I c_slices_ContainsFunc_I_r0 c_slices_ContainsFunc_I_r1 c_slices_ContainsFunc_I c_slices_IndexFunc_E_r0 c_slices_IndexFunc_E_r1 c_slices_IndexFunc_E_r2 c_slices_IndexFunc_E_r3 c_slices_IndexFunc_E_r4 c_slices_IndexFunc_E_r5 c_slices_IndexFunc_E_r6 c_slices_IndexFunc_E_r8 c_slices_IndexFunc_E c_slices_ContainsFunc_E_r0 c_slices_ContainsFunc_E_r1 c_slices_ContainsFunc_E
section
variable (P : Program) (F : String → Nat)
def fitsE (n : Int) (x : E) : Bool := decide (0 ≤ x.t ∧ x.t ≤ 99) && decide (0 ≤ x.f ∧ x.f ≤ n - 1) && decide (0 ≤ x.o ∧ x.o ≤ n - 1)
def idx {α : Type} (p : α → Bool) : List α → Int → Int
  | [], _ => -1
  | a :: l, i => if p a then i else idx p l (i + 1)
def K_graph_within : Prop := ∀ n m : Int, FC P (F "graph.within") [.int .i64 n, .int .i64 m] (.bool (decide (0 ≤ n ∧ n ≤ m))) []
def K_graph_fits : Prop := ∀ (x : E) (n : Int), 0 ≤ n ∧ n ≤ 1000000 → FC P (F "graph.fits") [edD x, .int .i64 n] (.bool (fitsE n x)) []
def K_slices_Index_I : Prop := ∀ (l : List Int) (x : Int), l.length ≤ maxL → FC P (F "slices.Index.I") [.lst 1 (ints l), .int .i64 x] (.int .i64 (idx (fun y => decide (x = y)) l 0)) []
/-- A graph. -/
structure _root_.Go.Am.G where
  n : List Int
  e : List E
  deriving DecidableEq, Inhabited
def gD (g : G) : D := .agg [.lst 1 (ints g.n), .lst 3 (eds g.e)]
def gA (g : G) : D := .agg [.arr 1 (ints g.n), .arr 3 (eds g.e)]
def okN (x : Int) : Bool := decide (0 ≤ x ∧ x ≤ 99)
def validG (g : G) : Int := if 40 < g.n.length ∨ 80 < g.e.length then 3 else if g.n.all okN && g.e.all (fitsE g.n.length) then 0 else 6
def K_slices_IndexFunc_I : Prop := ∀ (l : List Int), l.length ≤ maxL → ∀ (g : Nat) (cs : List D), cs.all okC2 = true → ∀ p : Int → Bool, (∀ x, x ∈ l → FC P g (.int .i64 x :: cs) (.bool (p x)) []) → FC P (F "slices.IndexFunc.I") [.lst 1 (ints l), .clo g cs] (.int .i64 (idx p l 0)) []
def K_slices_IndexFunc_E : Prop := ∀ (l : List E), l.length ≤ maxL → ∀ (g : Nat) (cs : List D), cs.all okC2 = true → ∀ p : E → Bool, (∀ x, x ∈ l → FC P g (edD x :: cs) (.bool (p x)) []) → FC P (F "slices.IndexFunc.E") [.lst 3 (eds l), .clo g cs] (.int .i64 (idx p l 0)) []
def K_slices_ContainsFunc_I : Prop := ∀ (l : List Int), l.length ≤ maxL → ∀ (g : Nat) (cs : List D), cs.all okC2 = true → ∀ p : Int → Bool, (∀ x, x ∈ l → FC P g (.int .i64 x :: cs) (.bool (p x)) []) → FC P (F "slices.ContainsFunc.I") [.lst 1 (ints l), .clo g cs] (.bool (l.any p)) []
def K_slices_ContainsFunc_E : Prop := ∀ (l : List E), l.length ≤ maxL → ∀ (g : Nat) (cs : List D), cs.all okC2 = true → ∀ p : E → Bool, (∀ x, x ∈ l → FC P g (edD x :: cs) (.bool (p x)) []) → FC P (F "slices.ContainsFunc.E") [.lst 3 (eds l), .clo g cs] (.bool (l.any p)) []
def K_graph_Valid_1 : Prop := ∀ x : Int, FC P (F "graph.Valid.1") [.int .i64 x] (.bool (!decide (0 ≤ x ∧ x ≤ 99))) []
def K_graph_Valid_2 : Prop := ∀ (x : E) (ns : List Int) (es : List E), ns.length ≤ 1000000 → FC P (F "graph.Valid.2") [edD x, .ref [.lst 1 (ints ns), .lst 3 (eds es)]] (.bool (!fitsE ns.length x)) []
def K_graph_Valid : Prop := ∀ g : G, FC P (F "graph.Valid") [gD g] (.int .i64 (validG g)) []
theorem _root_.Go.Am.gt_mem {α : Type} [Inhabited α] {l : List α} {j : Int} (h0 : 0 ≤ j) (h : j < l.length) : gt l j ∈ l := List.mem_of_getElem? (get_gt h0 h)
def K_slices_Contains_I : Prop := ∀ (l : List Int) (x : Int), l.length ≤ maxL → FC P (F "slices.Contains.I") [.lst 1 (ints l), .int .i64 x] (.bool (decide (x ∈ l))) []
end
section
variable {P : Program} {F : String → Nat} {α : Type}
theorem idx_drop [Inhabited α] (p : α → Bool) (l : List α) (i : Nat) (h : i < l.length) : idx p (l.drop i) i = if p (gt l i) then (i : Int) else idx p (l.drop (i + 1)) ((i + 1 : Nat) : Int) := by
  rw [List.drop_eq_getElem_cons h, gt_nat h]; rfl
theorem idx_ge (p : α → Bool) : ∀ (l : List α) (i : Int), 0 ≤ i → (decide (0 ≤ idx p l i)) = l.any p
  | [], i, h => by simp [idx]
  | a :: l, i, h => by
    simp only [idx, List.any_cons]
    split
    · rename_i ha; simp [ha, h]
    · rename_i ha; rw [idx_ge p l (i + 1) (by omega)]; simp [ha]

theorem w_graph_within (n m : Int) : W P (c_graph_within F) (Done [.t 4] [] (.bool (decide (0 ≤ n ∧ n ≤ m))) []) (init [.int .i64 n, .int .i64 m]) := by
  refine W_of ?_
  simp (config := { maxSteps := 1000000 }) (disch := first | omega | (simp only [go_sem]; omega)) only [go_sem, ↓reduceIte]
  refine bran_dec (fun h => ?_) (fun h => ?_)
  · simp (config := { maxSteps := 1000000 }) (disch := first | omega | (simp only [go_sem]; omega)) only [go_sem, ↓reduceIte, h]
  · simp (config := { maxSteps := 1000000 }) (disch := first | omega | (simp only [go_sem]; omega)) only [go_sem, ↓reduceIte, h]
theorem w_graph_fits (h : K_graph_within P F) (x : E) (n : Int) (hn : 0 ≤ n ∧ n ≤ 1000000) : W P (c_graph_fits F) (Done [.t 4] [] (.bool (fitsE n x)) []) (init [edD x, .int .i64 n]) := by
  refine W_of ?_
  simp (config := { maxSteps := 1000000 }) (disch := first | omega | (simp only [go_sem]; omega)) only [go_sem, ↓reduceIte, edD]
  refine call_by (h _ _) ?_
  simp (config := { maxSteps := 1000000 }) (disch := first | omega | (simp only [go_sem]; omega)) only [go_sem, ↓reduceIte]
  refine bran_dec (fun h1 => ?_) (fun h1 => ?_)
  · simp (config := { maxSteps := 1000000 }) (disch := first | omega | (simp only [go_sem]; omega)) only [go_sem, ↓reduceIte, h1]
    refine call_by (h _ _) ?_
    simp (config := { maxSteps := 1000000 }) (disch := first | omega | (simp only [go_sem]; omega)) only [go_sem, ↓reduceIte, h1]
    refine bran_dec (fun h2 => ?_) (fun h2 => ?_)
    · simp (config := { maxSteps := 1000000 }) (disch := first | omega | (simp only [go_sem]; omega)) only [go_sem, ↓reduceIte, h2]
      refine call_by (h _ _) ?_
      simp (config := { maxSteps := 1000000 }) (disch := first | omega | (simp only [go_sem]; omega)) only [go_sem, ↓reduceIte, h2]
      simp [fitsE, h1, h2]
    · simp (config := { maxSteps := 1000000 }) (disch := first | omega | (simp only [go_sem]; omega)) only [go_sem, ↓reduceIte, h2]
      simp [fitsE, h1, h2]
  · simp (config := { maxSteps := 1000000 }) (disch := first | omega | (simp only [go_sem]; omega)) only [go_sem, ↓reduceIte, h1]
    simp [fitsE, h1]
theorem w_slices_Index_I (l : List Int) (x : Int) (hl : l.length ≤ maxL) : W P (c_slices_Index_I F) (Done [.t 4] [] (.int .i64 (idx (fun y => decide (x = y)) l 0)) []) (init [.lst 1 (ints l), .int .i64 x]) := by
  refine W_of ?_
  unfold maxL at hl
  simp (config := { maxSteps := 1000000 }) (disch := first | omega | (simp only [go_sem]; omega)) only [go_sem, ↓reduceIte]
  refine W_loop (fun i : Nat => ⟨[(0, .lst 1 (ints l)), (1, .int .i64 x), (7, .int .i64 l.length), (8, .int .i64 i)], [], 0⟩) (fun i => i ≤ l.length ∧ idx (fun y => decide (x = y)) l 0 = idx (fun y => decide (x = y)) (l.drop i) i) (fun i => l.length - i) 0 ?_ ?_ ?_
  · simp (config := { maxSteps := 1000000 }) (disch := first | omega | (simp only [go_sem]; omega)) only [go_sem, ↓reduceIte]
    rfl
  · simp
  · intro i hi
    simp (config := { maxSteps := 1000000 }) (disch := first | omega | (simp only [go_sem]; omega)) only [go_sem, ↓reduceIte, c_slices_Index_I_b7]
    refine bran_dec (fun h => ?_) (fun h => ?_)
    · have hd := idx_drop (fun y => decide (x = y)) l i (by omega)
      simp (config := { maxSteps := 1000000 }) (disch := first | omega | (simp only [go_sem]; omega)) only [go_sem, ↓reduceIte]
      refine bran_dec (fun h2 => ?_) (fun h2 => ?_)
      · simp (config := { maxSteps := 1000000 }) (disch := first | omega | (simp only [go_sem]; omega)) only [go_sem, ↓reduceIte]
        rw [hi.2, hd, if_pos (by simpa using h2)]
      · simp (config := { maxSteps := 1000000 }) (disch := first | omega | (simp only [go_sem]; omega)) only [go_sem, ↓reduceIte]
        exact ⟨i + 1, by simp, ⟨by omega, by rw [hi.2, hd, if_neg (by simpa using h2)]⟩, by omega⟩
    · simp (config := { maxSteps := 1000000 }) (disch := first | omega | (simp only [go_sem]; omega)) only [go_sem, ↓reduceIte]
      rw [hi.2, List.drop_of_length_le (by omega)]
      rfl
theorem w_slices_Contains_I (hi : K_slices_Index_I P F) (l : List Int) (x : Int) (hl : l.length ≤ maxL) : W P (c_slices_Contains_I F) (Done [.t 4] [] (.bool (decide (x ∈ l))) []) (init [.lst 1 (ints l), .int .i64 x]) := by
  refine W_of ?_
  simp (config := { maxSteps := 1000000 }) (disch := first | omega | (simp only [go_sem]; omega)) only [go_sem, ↓reduceIte]
  refine call_by (hi l x hl) ?_
  simp (config := { maxSteps := 1000000 }) (disch := first | omega | (simp only [go_sem]; omega)) only [go_sem, ↓reduceIte]
  rw [idx_ge _ _ _ (by omega)]
  simp [List.any_eq]
theorem w_slices_IndexFunc_I (l : List Int) (hl : l.length ≤ maxL) (g : Nat) (cs : List D) (hcs : cs.all okC2 = true) (p : Int → Bool) (hg : ∀ x, x ∈ l → FC P g (.int .i64 x :: cs) (.bool (p x)) []) : W P (c_slices_IndexFunc_I F) (Done [.t 4] [] (.int .i64 (idx p l 0)) []) (init [.lst 1 (ints l), .clo g cs]) := by
  refine W_of ?_
  unfold maxL at hl
  have e1 := caps_lend2 hcs
  have e2 := caps_ren hcs
  simp (config := { maxSteps := 1000000 }) (disch := first | omega | (simp only [go_sem]; omega)) only [go_sem, ↓reduceIte]
  refine W_loop (fun i : Nat => ⟨[(0, .lst 1 (ints l)), (1, .clo g cs), (7, .int .i64 l.length), (8, .int .i64 i)], [], 0⟩) (fun i => i ≤ l.length ∧ idx p l 0 = idx p (l.drop i) i) (fun i => l.length - i) 0 ?_ ?_ ?_
  · simp (config := { maxSteps := 1000000 }) (disch := first | omega | (simp only [go_sem]; omega)) only [go_sem, ↓reduceIte, e2]
    rfl
  · simp
  · intro i hi
    simp (config := { maxSteps := 1000000 }) (disch := first | omega | (simp only [go_sem]; omega)) only [go_sem, ↓reduceIte, c_slices_IndexFunc_I_b7]
    refine bran_dec (fun h => ?_) (fun h => ?_)
    · have hd := idx_drop p l i (by omega)
      simp (config := { maxSteps := 1000000 }) (disch := first | omega | (simp only [go_sem]; omega)) only [go_sem, ↓reduceIte, e1]
      refine call_by (hg _ (gt_mem (by omega) h)) ?_
      simp (config := { maxSteps := 1000000 }) (disch := first | omega | (simp only [go_sem]; omega)) only [go_sem, ↓reduceIte]
      refine bran_by (fun h2 => ?_) (fun h2 => ?_)
      · simp (config := { maxSteps := 1000000 }) (disch := first | omega | (simp only [go_sem]; omega)) only [go_sem, ↓reduceIte]
        rw [hi.2, hd, if_pos h2]
      · simp (config := { maxSteps := 1000000 }) (disch := first | omega | (simp only [go_sem]; omega)) only [go_sem, ↓reduceIte, e2]
        exact ⟨i + 1, by simp, ⟨by omega, by rw [hi.2, hd, if_neg (by simp [h2])]⟩, by omega⟩
    · simp (config := { maxSteps := 1000000 }) (disch := first | omega | (simp only [go_sem]; omega)) only [go_sem, ↓reduceIte]
      rw [hi.2, List.drop_of_length_le (by omega)]
      rfl
theorem w_slices_IndexFunc_E (l : List E) (hl : l.length ≤ maxL) (g : Nat) (cs : List D) (hcs : cs.all okC2 = true) (p : E → Bool) (hg : ∀ x, x ∈ l → FC P g (edD x :: cs) (.bool (p x)) []) : W P (c_slices_IndexFunc_E F) (Done [.t 4] [] (.int .i64 (idx p l 0)) []) (init [.lst 3 (eds l), .clo g cs]) := by
  refine W_of ?_
  unfold maxL at hl
  have e1 := caps_lend2 hcs
  have e2 := caps_ren hcs
  simp (config := { maxSteps := 1000000 }) (disch := first | omega | (simp only [go_sem]; omega)) only [go_sem, ↓reduceIte]
  refine W_loop (fun i : Nat => ⟨[(0, .lst 3 (eds l)), (1, .clo g cs), (7, .int .i64 l.length), (8, .int .i64 i)], [], 0⟩) (fun i => i ≤ l.length ∧ idx p l 0 = idx p (l.drop i) i) (fun i => l.length - i) 0 ?_ ?_ ?_
  · simp (config := { maxSteps := 1000000 }) (disch := first | omega | (simp only [go_sem]; omega)) only [go_sem, ↓reduceIte, e2]
    rfl
  · simp
  · intro i hi
    simp (config := { maxSteps := 1000000 }) (disch := first | omega | (simp only [go_sem]; omega)) only [go_sem, ↓reduceIte, c_slices_IndexFunc_E_b7]
    refine bran_dec (fun h => ?_) (fun h => ?_)
    · have hd := idx_drop p l i (by omega)
      simp (config := { maxSteps := 1000000 }) (disch := first | omega | (simp only [go_sem]; omega)) only [go_sem, ↓reduceIte, e1]
      refine call_by (hg _ (gt_mem (by omega) h)) ?_
      simp (config := { maxSteps := 1000000 }) (disch := first | omega | (simp only [go_sem]; omega)) only [go_sem, ↓reduceIte]
      refine bran_by (fun h2 => ?_) (fun h2 => ?_)
      · simp (config := { maxSteps := 1000000 }) (disch := first | omega | (simp only [go_sem]; omega)) only [go_sem, ↓reduceIte]
        rw [hi.2, hd, if_pos h2]
      · simp (config := { maxSteps := 1000000 }) (disch := first | omega | (simp only [go_sem]; omega)) only [go_sem, ↓reduceIte, e2]
        exact ⟨i + 1, by simp, ⟨by omega, by rw [hi.2, hd, if_neg (by simp [h2])]⟩, by omega⟩
    · simp (config := { maxSteps := 1000000 }) (disch := first | omega | (simp only [go_sem]; omega)) only [go_sem, ↓reduceIte]
      rw [hi.2, List.drop_of_length_le (by omega)]
      rfl
theorem w_slices_ContainsFunc_I (hi : K_slices_IndexFunc_I P F) (l : List Int) (hl : l.length ≤ maxL) (g : Nat) (cs : List D) (hcs : cs.all okC2 = true) (p : Int → Bool) (hg : ∀ x, x ∈ l → FC P g (.int .i64 x :: cs) (.bool (p x)) []) : W P (c_slices_ContainsFunc_I F) (Done [.t 4] [] (.bool (l.any p)) []) (init [.lst 1 (ints l), .clo g cs]) := by
  refine W_of ?_
  simp (config := { maxSteps := 1000000 }) (disch := first | omega | (simp only [go_sem]; omega)) only [go_sem, ↓reduceIte, caps_lend hcs]
  refine call_by (hi l hl g cs hcs p hg) ?_
  simp (config := { maxSteps := 1000000 }) (disch := first | omega | (simp only [go_sem]; omega)) only [go_sem, ↓reduceIte]
  rw [idx_ge _ _ _ (by omega)]
theorem w_slices_ContainsFunc_E (hi : K_slices_IndexFunc_E P F) (l : List E) (hl : l.length ≤ maxL) (g : Nat) (cs : List D) (hcs : cs.all okC2 = true) (p : E → Bool) (hg : ∀ x, x ∈ l → FC P g (edD x :: cs) (.bool (p x)) []) : W P (c_slices_ContainsFunc_E F) (Done [.t 4] [] (.bool (l.any p)) []) (init [.lst 3 (eds l), .clo g cs]) := by
  refine W_of ?_
  simp (config := { maxSteps := 1000000 }) (disch := first | omega | (simp only [go_sem]; omega)) only [go_sem, ↓reduceIte, caps_lend hcs]
  refine call_by (hi l hl g cs hcs p hg) ?_
  simp (config := { maxSteps := 1000000 }) (disch := first | omega | (simp only [go_sem]; omega)) only [go_sem, ↓reduceIte]
  rw [idx_ge _ _ _ (by omega)]
theorem w_graph_Valid_1 (h : K_graph_within P F) (x : Int) : W P (c_graph_Valid_1 F) (Done [.t 2] [] (.bool (!decide (0 ≤ x ∧ x ≤ 99))) []) (init [.int .i64 x]) := by
  refine W_of ?_
  simp (config := { maxSteps := 1000000 }) (disch := first | omega | (simp only [go_sem]; omega)) only [go_sem, ↓reduceIte]
  refine call_by (h _ _) ?_
  simp (config := { maxSteps := 1000000 }) (disch := first | omega | (simp only [go_sem]; omega)) only [go_sem, ↓reduceIte]
theorem w_graph_Valid_2 (h : K_graph_fits P F) (x : E) (ns : List Int) (es : List E) (hn : ns.length ≤ 1000000) : W P (c_graph_Valid_2 F) (Done [.t 3] [] (.bool (!fitsE ns.length x)) []) (init [edD x, .ref [.lst 1 (ints ns), .lst 3 (eds es)]]) := by
  refine W_of ?_
  simp (config := { maxSteps := 1000000 }) (disch := first | omega | (simp only [go_sem]; omega)) only [go_sem, ↓reduceIte, edD]
  refine call_by (h _ _ (by omega)) ?_
  simp (config := { maxSteps := 1000000 }) (disch := first | omega | (simp only [go_sem]; omega)) only [go_sem, ↓reduceIte]
theorem w_graph_Valid (h1 : K_slices_ContainsFunc_I P F) (h2 : K_slices_ContainsFunc_E P F) (hv1 : K_graph_Valid_1 P F) (hv2 : K_graph_Valid_2 P F) (g : G) : W P (c_graph_Valid F) (Done [.t 2] [] (.int .i64 (validG g)) []) (init [gD g]) := by
  refine W_of ?_
  obtain ⟨ns, es⟩ := g
  simp (config := { maxSteps := 1000000 }) (disch := first | omega | (simp only [go_sem]; omega)) only [go_sem, ↓reduceIte, gD]
  refine bran_dec (fun a1 => ?_) (fun a1 => ?_)
  · simp (config := { maxSteps := 1000000 }) (disch := first | omega | (simp only [go_sem]; omega)) only [go_sem, ↓reduceIte, a1]
    simp [validG]
    omega
  · simp (config := { maxSteps := 1000000 }) (disch := first | omega | (simp only [go_sem]; omega)) only [go_sem, ↓reduceIte, a1]
    refine bran_dec (fun a2 => ?_) (fun a2 => ?_)
    · simp (config := { maxSteps := 1000000 }) (disch := first | omega | (simp only [go_sem]; omega)) only [go_sem, ↓reduceIte]
      simp [validG]
      omega
    · simp (config := { maxSteps := 1000000 }) (disch := first | omega | (simp only [go_sem]; omega)) only [go_sem, ↓reduceIte]
      refine call_by (h1 ns (by unfold maxL; omega) _ [] rfl _ (fun x _ => hv1 x)) ?_
      simp (config := { maxSteps := 1000000 }) (disch := first | omega | (simp only [go_sem]; omega)) only [go_sem, ↓reduceIte]
      refine bran_by (fun a3 => ?_) (fun a3 => ?_)
      · simp (config := { maxSteps := 1000000 }) (disch := first | omega | (simp only [go_sem]; omega)) only [go_sem, ↓reduceIte]
        have e : ns.all okN = false := by
          rw [← Bool.not_eq_true, List.all_eq_true]
          rw [List.any_eq_true] at a3
          obtain ⟨x, hx, hp⟩ := a3
          exact fun h => by have := h x hx; simp [okN] at this hp; omega
        simp [validG, a1, a2, e]; omega
      · have e : ns.all okN = true := by
          rw [List.all_eq_true]
          rw [List.any_eq_false] at a3
          exact fun x hx => by have := a3 x hx; simpa [okN] using this
        simp (config := { maxSteps := 1000000 }) (disch := first | omega | (simp only [go_sem]; omega)) only [go_sem, ↓reduceIte]
        refine call_by (h2 es (by unfold maxL; omega) _ _ rfl _ (fun x _ => hv2 x ns es (by omega))) ?_
        simp (config := { maxSteps := 1000000 }) (disch := first | omega | (simp only [go_sem]; omega)) only [go_sem, ↓reduceIte]
        refine bran_by (fun a4 => ?_) (fun a4 => ?_)
        · simp (config := { maxSteps := 1000000 }) (disch := first | omega | (simp only [go_sem]; omega)) only [go_sem, ↓reduceIte]
          have e2 : es.all (fitsE ns.length) = false := by
            rw [← Bool.not_eq_true, List.all_eq_true]
            rw [List.any_eq_true] at a4
            obtain ⟨x, hx, hp⟩ := a4
            exact fun h => by have := h x hx; simp [this] at hp
          simp [validG, a1, a2, e, e2]; omega
        · simp (config := { maxSteps := 1000000 }) (disch := first | omega | (simp only [go_sem]; omega)) only [go_sem, ↓reduceIte]
          have e2 : es.all (fitsE ns.length) = true := by
            rw [List.all_eq_true]
            rw [List.any_eq_false] at a4
            exact fun x hx => by have := a4 x hx; simpa using this
          simp [validG, a1, a2, e, e2]; omega
end
end Go.Am
namespace Go.Am
open Go
set_option linter.unusedVariables false
set_option linter.unusedSimpArgs false
/- graph.numbers -/
def c_graph_numbers_r0 (F : String → Nat) : List LI := [⟨some 4, .mov (.k (.nl 1)), none⟩]
def c_graph_numbers_r1 (F : String → Nat) : List LI := [⟨some 5, .mov (.k (.nl 1)), none⟩]
def c_graph_numbers_r2 (F : String → Nat) : List LI := [⟨some 7, .mov (.t 1), none⟩,
  ⟨some 8, .mov (.k (.int .i64 (0))), none⟩]
def c_graph_numbers_r3 (F : String → Nat) : List LI := [⟨some 9, .bin .lss (.t 8) (.t 7), none⟩]
def c_graph_numbers_r4 (F : String → Nat) : List LI := [⟨some 10, .mov (.t 8), none⟩,
  ⟨some 6, .mov (.t 10), none⟩]
def c_graph_numbers_r5 (F : String → Nat) : List LI := [⟨some 11, .mov (.t 5), none⟩,
  ⟨some 12, .mov (.t 0), none⟩,
  ⟨some 13, .mov (.t 6), none⟩,
  ⟨some 14, .bin .add (.t 12) (.t 13), none⟩,
  ⟨some 15, .buildSl 1 8 (.int .i64 (0)) 1 [(0, .t 14)], none⟩,
  ⟨some 16, .app 1 8 (.t 11) (.t 15), none⟩,
  ⟨some 5, .mov (.t 16), none⟩]
def c_graph_numbers_r6 (F : String → Nat) : List LI := [⟨some 17, .bin .add (.t 8) (.k (.int .i64 (1))), none⟩,
  ⟨some 8, .mov (.t 17), none⟩]
def c_graph_numbers_b7 (F : String → Nat) : LC := (.seq (.reg (c_graph_numbers_r3 F) [0, 5, 7, 8, 9]) (.seq (.cond (.t 9) .skip (.exit 0)) (.seq (.block 1 (.seq (.reg (c_graph_numbers_r4 F) [0, 5, 6, 7, 8]) (.reg (c_graph_numbers_r5 F) [0, 5, 7, 8]))) (.reg (c_graph_numbers_r6 F) [0, 5, 7, 8]))))
def c_graph_numbers_r8 (F : String → Nat) : List LI := [⟨some 18, .mov (.t 5), none⟩,
  ⟨some 4, .mov (.t 18), none⟩]
def c_graph_numbers (F : String → Nat) : LC := (.seq (.reg (c_graph_numbers_r0 F) [0, 1]) (.seq (.reg (c_graph_numbers_r1 F) [0, 1, 5]) (.seq (.seq (.reg (c_graph_numbers_r2 F) [0, 5, 7, 8]) (.block 0 (.loop [0, 5, 7, 8] (c_graph_numbers_b7 F)))) (.seq (.reg (c_graph_numbers_r8 F) [4]) .ret))))
def h_graph_numbers : Hints := ⟨[], fun _ => [], tab [(0, [0, 1]), (1, [0, 1, 5]), (2, [0, 5, 7, 8]), (3, [0, 5, 7, 8, 9]), (4, [0, 5, 6, 7, 8]), (5, [0, 5, 7, 8]), (6, [0, 5, 7, 8]), (7, [4])], tab [(3, [0, 5, 7, 8])]⟩

/- r05.kind -/
def c_r05_kind_r0 (F : String → Nat) : List LI := [⟨some 2, .mov (.k (.bool false)), none⟩]
def c_r05_kind_r1 (F : String → Nat) : List LI := [⟨some 3, .mov (.t 0), none⟩,
  ⟨some 4, .bin .geq (.t 3) (.k (.int .i64 (0))), none⟩,
  ⟨some 5, .mov (.t 4), none⟩,
  ⟨some 6, .mov (.t 0), some (5, true)⟩,
  ⟨some 7, .bin .leq (.t 6) (.k (.int .i64 (99))), some (5, true)⟩,
  ⟨some 8, .pick (.t 5) (.t 7) (.k (.bool false)), none⟩,
  ⟨some 2, .mov (.t 8), none⟩]
def c_r05_kind (F : String → Nat) : LC := (.seq (.reg (c_r05_kind_r0 F) [0]) (.seq (.reg (c_r05_kind_r1 F) [2]) .ret))
def h_r05_kind : Hints := ⟨[], fun _ => [], tab [(0, [0]), (1, [2])], tab []⟩

/- r05.right -/
def c_r05_right_r0 (F : String → Nat) : List LI := [⟨some 2, .bx (.t 0), none⟩,
  ⟨some 4, .mov (.k (.bool false)), none⟩]
def c_r05_right_r1 (F : String → Nat) : List LI := [⟨some 5, .fad 0 (.t 2), none⟩,
  ⟨some 6, .load false 1 (.t 5), none⟩,
  ⟨some 7, .call (F "r05.kind") [.t 6] [], none⟩,
  ⟨some 8, .mov (.t 7), none⟩,
  ⟨some 9, .fad 1 (.t 2), some (8, true)⟩,
  ⟨some 10, .load false 1 (.t 9), some (8, true)⟩,
  ⟨some 11, .bin .geq (.t 10) (.k (.int .i64 (0))), some (8, true)⟩,
  ⟨some 12, .pick (.t 8) (.t 11) (.k (.bool false)), none⟩,
  ⟨some 13, .mov (.t 12), none⟩,
  ⟨some 14, .fad 1 (.t 2), some (13, true)⟩,
  ⟨some 15, .load false 1 (.t 14), some (13, true)⟩,
  ⟨some 16, .mov (.t 1), some (13, true)⟩,
  ⟨some 17, .bin .lss (.t 15) (.t 16), some (13, true)⟩,
  ⟨some 18, .pick (.t 13) (.t 17) (.k (.bool false)), none⟩,
  ⟨some 19, .mov (.t 18), none⟩,
  ⟨some 20, .fad 2 (.t 2), some (19, true)⟩,
  ⟨some 21, .load false 1 (.t 20), some (19, true)⟩,
  ⟨some 22, .bin .geq (.t 21) (.k (.int .i64 (0))), some (19, true)⟩,
  ⟨some 23, .pick (.t 19) (.t 22) (.k (.bool false)), none⟩,
  ⟨some 24, .mov (.t 23), none⟩,
  ⟨some 25, .fad 2 (.t 2), some (24, true)⟩,
  ⟨some 26, .load false 1 (.t 25), some (24, true)⟩,
  ⟨some 27, .mov (.t 1), some (24, true)⟩,
  ⟨some 28, .bin .lss (.t 26) (.t 27), some (24, true)⟩,
  ⟨some 29, .pick (.t 24) (.t 28) (.k (.bool false)), none⟩,
  ⟨some 4, .mov (.t 29), none⟩]
def c_r05_right (F : String → Nat) : LC := (.seq (.reg (c_r05_right_r0 F) [1, 2]) (.seq (.reg (c_r05_right_r1 F) [4]) .ret))
def h_r05_right : Hints := ⟨[], fun _ => [], tab [(0, [1, 2]), (1, [4])], tab []⟩

/- r05.Few -/
def c_r05_Few_r0 (F : String → Nat) : List LI := [⟨some 1, .bx (.t 0), none⟩,
  ⟨some 2, .mov (.k (.bool false)), none⟩]
def c_r05_Few_r1 (F : String → Nat) : List LI := [⟨some 3, .fad 0 (.t 1), none⟩,
  ⟨some 4, .load false 1 (.t 3), none⟩,
  ⟨some 5, .len (.t 4), none⟩,
  ⟨some 6, .bin .leq (.t 5) (.k (.int .i64 (45))), none⟩,
  ⟨some 7, .mov (.t 6), none⟩,
  ⟨some 8, .fad 1 (.t 1), some (7, true)⟩,
  ⟨some 9, .load false 1 (.t 8), some (7, true)⟩,
  ⟨some 10, .len (.t 9), some (7, true)⟩,
  ⟨some 11, .bin .leq (.t 10) (.k (.int .i64 (90))), some (7, true)⟩,
  ⟨some 12, .pick (.t 7) (.t 11) (.k (.bool false)), none⟩,
  ⟨some 2, .mov (.t 12), none⟩]
def c_r05_Few (F : String → Nat) : LC := (.seq (.reg (c_r05_Few_r0 F) [1]) (.seq (.reg (c_r05_Few_r1 F) [2]) .ret))
def h_r05_Few : Hints := ⟨[], fun _ => [], tab [(0, [1]), (1, [2])], tab []⟩

/- r05.SameInts -/
def c_r05_SameInts_r0 (F : String → Nat) : List LI := [⟨some 4, .mov (.k (.bool false)), none⟩]
def c_r05_SameInts_r1 (F : String → Nat) : List LI := [⟨some 6, .mov (.t 0), none⟩,
  ⟨some 7, .len (.t 6), none⟩,
  ⟨some 8, .mov (.t 1), none⟩,
  ⟨some 9, .len (.t 8), none⟩,
  ⟨some 10, .bin .neq (.t 7) (.t 9), none⟩]
def c_r05_SameInts_r2 (F : String → Nat) : List LI := [⟨some 4, .mov (.k (.bool false)), none⟩]
def c_r05_SameInts_r3 (F : String → Nat) : List LI := [⟨some 5, .mov (.k (.int .i64 (0))), none⟩]
def c_r05_SameInts_r4 (F : String → Nat) : List LI := [⟨some 11, .mov (.t 5), none⟩,
  ⟨some 12, .mov (.t 0), none⟩,
  ⟨some 13, .len (.t 12), none⟩,
  ⟨some 14, .bin .lss (.t 11) (.t 13), none⟩]
def c_r05_SameInts_r5 (F : String → Nat) : List LI := [⟨some 17, .mov (.t 0), none⟩,
  ⟨some 18, .mov (.t 5), none⟩,
  ⟨some 19, .iad 1 (.t 17) (.t 18), none⟩,
  ⟨some 20, .load false 1 (.t 19), none⟩,
  ⟨some 21, .mov (.t 1), none⟩,
  ⟨some 22, .mov (.t 5), none⟩,
  ⟨some 23, .iad 1 (.t 21) (.t 22), none⟩,
  ⟨some 24, .load false 1 (.t 23), none⟩,
  ⟨some 25, .bin .neq (.t 20) (.t 24), none⟩]
def c_r05_SameInts_r6 (F : String → Nat) : List LI := [⟨some 4, .mov (.k (.bool false)), none⟩]
def c_r05_SameInts_r7 (F : String → Nat) : List LI := [⟨some 15, .mov (.t 5), none⟩,
  ⟨some 16, .bin .add (.t 15) (.k (.int .i64 (1))), none⟩,
  ⟨some 5, .mov (.t 16), none⟩]
def c_r05_SameInts_b8 (F : String → Nat) : LC := (.seq (.seq (.reg (c_r05_SameInts_r4 F) [0, 1, 5, 14]) (.cond (.t 14) .skip (.exit 0))) (.seq (.block 1 (.seq (.dreg [] (c_r05_SameInts_r5 F) [0, 1, 5, 25]) (.cond (.t 25) (.seq (.reg (c_r05_SameInts_r6 F) [4]) .ret) .skip))) (.reg (c_r05_SameInts_r7 F) [0, 1, 5])))
def c_r05_SameInts_r9 (F : String → Nat) : List LI := [⟨some 4, .mov (.k (.bool true)), none⟩]
def c_r05_SameInts (F : String → Nat) : LC := (.seq (.reg (c_r05_SameInts_r0 F) [0, 1]) (.seq (.seq (.reg (c_r05_SameInts_r1 F) [0, 1, 10]) (.cond (.t 10) (.seq (.reg (c_r05_SameInts_r2 F) [4]) .ret) .skip)) (.seq (.seq (.reg (c_r05_SameInts_r3 F) [0, 1, 5]) (.block 0 (.loop [0, 1, 5] (c_r05_SameInts_b8 F)))) (.seq (.reg (c_r05_SameInts_r9 F) [4]) .ret))))
def h_r05_SameInts : Hints := ⟨[], fun _ => [], tab [(0, [0, 1]), (1, [0, 1, 10]), (2, [4]), (3, [0, 1, 5]), (4, [0, 1, 5, 14]), (5, [0, 1, 5]), (6, [0, 1, 5, 25]), (7, [4]), (8, [4])], tab [(4, [0, 1, 5])]⟩

attribute [go_sem] c_graph_numbers_r0 c_graph_numbers_r1 c_graph_numbers_r2 c_graph_numbers_r3 c_graph_numbers_r4 c_graph_numbers_r5 c_graph_numbers_r6 c_graph_numbers_r8 c_graph_numbers c_r05_kind_r0 c_r05_kind_r1 c_r05_kind c_r05_right_r0 c_r05_right_r1 c_r05_right c_r05_Few_r0 c_r05_Few_r1 c_r05_Few c_r05_SameInts_r0 c_r05_SameInts_r1 c_r05_SameInts_r2 c_r05_SameInts_r3 c_r05_SameInts_r4 c_r05_SameInts_r5 c_r05_SameInts_r6 c_r05_SameInts_r7 c_r05_SameInts_r9 c_r05_SameInts
def leO (x : Int) : Option Int → Bool
  | some q => decide (x ≤ q)
  | none => false
/-- What is wrong with ascending elements below a number. -/
def ascG (n : Int) : Option Int → List Int → Int
  | _, [] => 0
  | p, x :: l => if 0 ≤ x ∧ x ≤ n - 1 then (if leO x p = true then 12 else ascG n (some x) l) else 6
def nums (f : Int) (n : Nat) : List Int := (List.range n).map fun i : Nat => f + (i : Int)
structure Mo where
  n : List Int
  e : List Int
  deriving DecidableEq, Inhabited
def mD (m : Mo) : D := .agg [.lst 1 (ints m.n), .lst 1 (ints m.e)]
def mA (m : Mo) : D := .agg [.arr 1 (ints m.n), .arr 1 (ints m.e)]
def few (g : G) : Bool := decide (g.n.length ≤ 45) && decide (g.e.length ≤ 90)
section
variable (P : Program) (F : String → Nat)
def K_graph_numbers : Prop := ∀ (f : Int) (n : Nat), 0 ≤ f → f ≤ 1000000 → n ≤ 1000000 → FC P (F "graph.numbers") [.int .i64 f, .int .i64 n] (.arr 1 (ints (nums f n))) []
def K_r05_kind : Prop := ∀ n : Int, FC P (F "r05.kind") [.int .i64 n] (.bool (okN n)) []
def K_r05_right : Prop := ∀ (x : E) (n : Int), FC P (F "r05.right") [edD x, .int .i64 n] (.bool (fitsE n x)) []
def K_r05_Valid : Prop := ∀ g : G, FC P (F "r05.Valid") [gD g] (.int .i64 (validG g)) []
def K_r05_Few : Prop := ∀ g : G, FC P (F "r05.Few") [gD g] (.bool (few g)) []
def K_r05_SameInts : Prop := ∀ a b : List Int, a.length ≤ maxL → FC P (F "r05.SameInts") [.lst 1 (ints a), .lst 1 (ints b)] (.bool (decide (a = b))) []
def K_slices_Equal_I : Prop := ∀ a b : List Int, a.length ≤ maxL → FC P (F "slices.Equal.I") [.lst 1 (ints a), .lst 1 (ints b)] (.bool (decide (a = b))) []
def K_r05_Same : Prop := ∀ a b : G, a.n.length ≤ maxL → a.e.length ≤ maxL → FC P (F "r05.Same") [gD a, gD b] (.bool (decide (a = b))) []
end
section
variable {P : Program} {F : String → Nat} {α : Type}
theorem drop_gt [Inhabited α] {l : List α} {i : Nat} (h : i < l.length) : l.drop i = gt l i :: l.drop (i + 1) := by
  rw [List.drop_eq_getElem_cons h, gt_nat h]
theorem take_gt [Inhabited α] {l : List α} {i : Nat} (h : i < l.length) : l.take (i + 1) = l.take i ++ [gt l i] := by
  rw [List.take_succ_eq_append_getElem h, gt_nat h]
theorem nums_succ (f : Int) (n : Nat) : nums f (n + 1) = nums f n ++ [f + n] := by simp [nums, List.range_succ]
theorem nums_len (f : Int) (n : Nat) : (nums f n).length = n := by simp [nums]
theorem nums_zero (f : Int) : nums f 0 = [] := by simp [nums]
/-- The element ahead of an index, if there is one. -/
def prevO (l : List Int) (i : Nat) : Option Int := if i = 0 then none else some (gt l ((i : Int) - 1))
theorem prevO_succ (l : List Int) (i : Nat) : prevO l (i + 1) = some (gt l i) := by
  simp only [prevO]; rw [if_neg (by omega)]; congr 2; omega
theorem asc_step (n : Int) (l : List Int) (i : Nat) (h : i < l.length) : ascG n (prevO l i) (l.drop i) =
    if 0 ≤ gt l i ∧ gt l i ≤ n - 1 then (if 0 < i ∧ gt l i ≤ gt l ((i : Int) - 1) then 12 else ascG n (prevO l (i + 1)) (l.drop (i + 1))) else 6 := by
  rw [drop_gt h, prevO_succ]
  simp only [ascG, prevO]
  by_cases h0 : i = 0
  · simp [h0, leO]
  · simp [h0, leO, Nat.pos_of_ne_zero h0]
theorem w_graph_numbers (f : Int) (n : Nat) (h0 : 0 ≤ f) (h1 : f ≤ 1000000) (h2 : n ≤ 1000000) : W P (c_graph_numbers F) (Done [.t 4] [] (.arr 1 (ints (nums f n))) []) (init [.int .i64 f, .int .i64 n]) := by
  refine W_of ?_
  simp (config := { maxSteps := 1000000 }) (disch := first | omega | (simp only [go_sem]; omega)) only [go_sem, ↓reduceIte]
  refine W_loop (fun i : Nat => ⟨[(0, .int .i64 f), (5, .sl 0 0 i), (7, .int .i64 n), (8, .int .i64 i)], [(0, .arr 1 (ints (nums f i)))], 1⟩) (fun i => i ≤ n) (fun i => n - i) 0 ?_ ?_ ?_
  · simp (config := { maxSteps := 1000000 }) (disch := first | omega | (simp only [go_sem]; omega)) only [go_sem, ↓reduceIte, nums_zero, ints_nil]
    rfl
  · omega
  · intro i hi
    have e1 := nums_len f i
    simp (config := { maxSteps := 1000000 }) (disch := first | omega | (simp only [go_sem]; omega)) only [go_sem, ↓reduceIte, c_graph_numbers_b7]
    refine bran_dec (fun a => ?_) (fun a => ?_)
    · simp (config := { maxSteps := 1000000 }) (disch := first | omega | (simp only [go_sem]; omega)) only [go_sem, ↓reduceIte, e1]
      exact ⟨i + 1, by simp [nums_succ], by omega, by omega⟩
    · obtain rfl : i = n := by omega
      simp (config := { maxSteps := 1000000 }) (disch := first | omega | (simp only [go_sem]; omega)) only [go_sem, ↓reduceIte, e1]
theorem w_r05_Few (g : G) : W P (c_r05_Few F) (Done [.t 2] [] (.bool (few g)) []) (init [gD g]) := by
  refine W_of ?_
  obtain ⟨ns, es⟩ := g
  simp (config := { maxSteps := 1000000 }) (disch := first | omega | (simp only [go_sem]; omega)) only [go_sem, ↓reduceIte, gD]
  refine bran_dec (fun a => ?_) (fun a => ?_)
  · simp (config := { maxSteps := 1000000 }) (disch := first | omega | (simp only [go_sem]; omega)) only [go_sem, ↓reduceIte, a]
    have : ns.length ≤ 45 := by omega
    simp [few, this]
    omega
  · simp (config := { maxSteps := 1000000 }) (disch := first | omega | (simp only [go_sem]; omega)) only [go_sem, ↓reduceIte, a]
    have : ¬ ns.length ≤ 45 := by omega
    simp [few, this]
theorem w_r05_kind (n : Int) : W P (c_r05_kind F) (Done [.t 2] [] (.bool (okN n)) []) (init [.int .i64 n]) := by
  refine W_of ?_
  simp (config := { maxSteps := 1000000 }) (disch := first | omega | (simp only [go_sem]; omega)) only [go_sem, ↓reduceIte]
  refine bran_dec (fun a => ?_) (fun a => ?_)
  · simp (config := { maxSteps := 1000000 }) (disch := first | omega | (simp only [go_sem]; omega)) only [go_sem, ↓reduceIte, a]
    simp [okN, a]
  · simp (config := { maxSteps := 1000000 }) (disch := first | omega | (simp only [go_sem]; omega)) only [go_sem, ↓reduceIte, a]
    simp [okN, a]
theorem w_r05_right (h : K_r05_kind P F) (x : E) (n : Int) : W P (c_r05_right F) (Done [.t 4] [] (.bool (fitsE n x)) []) (init [edD x, .int .i64 n]) := by
  refine W_of ?_
  simp (config := { maxSteps := 1000000 }) (disch := first | omega | (simp only [go_sem]; omega)) only [go_sem, ↓reduceIte, edD]
  refine call_by (h _) ?_
  simp (config := { maxSteps := 1000000 }) (disch := first | omega | (simp only [go_sem]; omega)) only [go_sem, ↓reduceIte]
  refine bran_by (fun a => ?_) (fun a => ?_)
  · have a' : 0 ≤ x.t ∧ x.t ≤ 99 := by simpa [okN] using a
    simp (config := { maxSteps := 1000000 }) (disch := first | omega | (simp only [go_sem]; omega)) only [go_sem, ↓reduceIte, a]
    refine bran_dec (fun b => ?_) (fun b => ?_)
    · simp (config := { maxSteps := 1000000 }) (disch := first | omega | (simp only [go_sem]; omega)) only [go_sem, ↓reduceIte, b]
      refine bran_dec (fun c => ?_) (fun c => ?_)
      · simp (config := { maxSteps := 1000000 }) (disch := first | omega | (simp only [go_sem]; omega)) only [go_sem, ↓reduceIte, c]
        refine bran_dec (fun d => ?_) (fun d => ?_)
        · simp (config := { maxSteps := 1000000 }) (disch := first | omega | (simp only [go_sem]; omega)) only [go_sem, ↓reduceIte, d]
          have e1 : decide (x.f ≤ n - 1) = true := by rw [decide_eq_true_eq]; omega
          have e2 : decide (x.o < n) = decide (x.o ≤ n - 1) := by rw [Bool.eq_iff_iff, decide_eq_true_eq, decide_eq_true_eq]; omega
          simp only [fitsE, Bool.decide_and, a', b, d, e1, e2, decide_true, Bool.true_and, Bool.and_true]
        · simp (config := { maxSteps := 1000000 }) (disch := first | omega | (simp only [go_sem]; omega)) only [go_sem, ↓reduceIte, d]
          simp [fitsE, a', d]
      · simp (config := { maxSteps := 1000000 }) (disch := first | omega | (simp only [go_sem]; omega)) only [go_sem, ↓reduceIte, c]
        simp [fitsE, a']
        omega
    · simp (config := { maxSteps := 1000000 }) (disch := first | omega | (simp only [go_sem]; omega)) only [go_sem, ↓reduceIte, b]
      simp [fitsE, a']
      omega
  · have a' : ¬ (0 ≤ x.t ∧ x.t ≤ 99) := by simpa [okN] using a
    simp (config := { maxSteps := 1000000 }) (disch := first | omega | (simp only [go_sem]; omega)) only [go_sem, ↓reduceIte, a]
    simp [fitsE, a']
theorem w_r05_SameInts (a b : List Int) (hl : a.length ≤ maxL) : W P (c_r05_SameInts F) (Done [.t 4] [] (.bool (decide (a = b))) []) (init [.lst 1 (ints a), .lst 1 (ints b)]) := by
  refine W_of ?_
  unfold maxL at hl
  simp (config := { maxSteps := 1000000 }) (disch := first | omega | (simp only [go_sem]; omega)) only [go_sem, ↓reduceIte]
  refine bran_ndec (fun h => ?_) (fun h => ?_)
  · simp (config := { maxSteps := 1000000 }) (disch := first | omega | (simp only [go_sem]; omega)) only [go_sem, ↓reduceIte]
    have : a ≠ b := fun e => h (by rw [e])
    simp [this]
  · have h' : a.length = b.length := by omega
    simp (config := { maxSteps := 1000000 }) (disch := first | omega | (simp only [go_sem]; omega)) only [go_sem, ↓reduceIte]
    refine W_loop (fun i : Nat => ⟨[(0, .lst 1 (ints a)), (1, .lst 1 (ints b)), (5, .int .i64 i)], [], 0⟩) (fun i => i ≤ a.length ∧ a.take i = b.take i) (fun i => a.length - i) 0 ?_ ?_ ?_
    · simp (config := { maxSteps := 1000000 }) (disch := first | omega | (simp only [go_sem]; omega)) only [go_sem, ↓reduceIte]
      rfl
    · simp
    · intro i hi
      simp (config := { maxSteps := 1000000 }) (disch := first | omega | (simp only [go_sem]; omega)) only [go_sem, ↓reduceIte, c_r05_SameInts_b8]
      refine bran_dec (fun c => ?_) (fun c => ?_)
      · simp (config := { maxSteps := 1000000 }) (disch := first | omega | (simp only [go_sem]; omega)) only [go_sem, ↓reduceIte]
        refine bran_ndec (fun d => ?_) (fun d => ?_)
        · simp (config := { maxSteps := 1000000 }) (disch := first | omega | (simp only [go_sem]; omega)) only [go_sem, ↓reduceIte]
          have : a ≠ b := fun e => d (by rw [e])
          simp [this]
        · simp (config := { maxSteps := 1000000 }) (disch := first | omega | (simp only [go_sem]; omega)) only [go_sem, ↓reduceIte]
          exact ⟨i + 1, by simp, ⟨by omega, by rw [take_gt (by omega), take_gt (by omega), hi.2, d]⟩, by omega⟩
      · simp (config := { maxSteps := 1000000 }) (disch := first | omega | (simp only [go_sem]; omega)) only [go_sem, ↓reduceIte]
        obtain rfl : i = a.length := by omega
        have := hi.2
        rw [List.take_length, List.take_of_length_le (by omega)] at this
        simp [this]
end
end Go.Am
namespace Go.Am
open Go
set_option linter.unusedVariables false
set_option linter.unusedSimpArgs false
/- r05.Valid -/
def c_r05_Valid_r0 (F : String → Nat) : List LI := [⟨some 1, .bx (.t 0), none⟩,
  ⟨some 2, .mov (.k (.int .i64 (0))), none⟩]
def c_r05_Valid_r1 (F : String → Nat) : List LI := [⟨some 5, .fad 0 (.t 1), none⟩,
  ⟨some 6, .load false 1 (.t 5), none⟩,
  ⟨some 7, .len (.t 6), none⟩,
  ⟨some 8, .bin .gtr (.t 7) (.k (.int .i64 (40))), none⟩,
  ⟨some 9, .mov (.t 8), none⟩,
  ⟨some 10, .fad 1 (.t 1), some (9, false)⟩,
  ⟨some 11, .load false 1 (.t 10), some (9, false)⟩,
  ⟨some 12, .len (.t 11), some (9, false)⟩,
  ⟨some 13, .bin .gtr (.t 12) (.k (.int .i64 (80))), some (9, false)⟩,
  ⟨some 14, .pick (.t 9) (.k (.bool true)) (.t 13), none⟩]
def c_r05_Valid_r2 (F : String → Nat) : List LI := [⟨some 2, .mov (.k (.int .i64 (3))), none⟩]
def c_r05_Valid_r3 (F : String → Nat) : List LI := [⟨some 3, .mov (.k (.int .i64 (0))), none⟩]
def c_r05_Valid_r4 (F : String → Nat) : List LI := [⟨some 15, .mov (.t 3), none⟩,
  ⟨some 16, .fad 0 (.t 1), none⟩,
  ⟨some 17, .load false 1 (.t 16), none⟩,
  ⟨some 18, .len (.t 17), none⟩,
  ⟨some 19, .bin .lss (.t 15) (.t 18), none⟩]
def c_r05_Valid_r5 (F : String → Nat) : List LI := [⟨some 22, .fad 0 (.t 1), none⟩,
  ⟨some 23, .load false 1 (.t 22), none⟩,
  ⟨some 24, .mov (.t 3), none⟩,
  ⟨some 25, .iad 1 (.t 23) (.t 24), none⟩,
  ⟨some 26, .load false 1 (.t 25), none⟩,
  ⟨some 27, .call (F "r05.kind") [.t 26] [], none⟩,
  ⟨some 28, .not (.t 27), none⟩]
def c_r05_Valid_r6 (F : String → Nat) : List LI := [⟨some 2, .mov (.k (.int .i64 (6))), none⟩]
def c_r05_Valid_r7 (F : String → Nat) : List LI := [⟨some 20, .mov (.t 3), none⟩,
  ⟨some 21, .bin .add (.t 20) (.k (.int .i64 (1))), none⟩,
  ⟨some 3, .mov (.t 21), none⟩]
def c_r05_Valid_b8 (F : String → Nat) : LC := (.seq (.seq (.reg (c_r05_Valid_r4 F) [1, 3, 19]) (.cond (.t 19) .skip (.exit 0))) (.seq (.block 1 (.seq (.reg (c_r05_Valid_r5 F) [1, 3, 28]) (.cond (.t 28) (.seq (.reg (c_r05_Valid_r6 F) [2]) .ret) .skip))) (.reg (c_r05_Valid_r7 F) [1, 3])))
def c_r05_Valid_r9 (F : String → Nat) : List LI := [⟨some 4, .mov (.k (.int .i64 (0))), none⟩]
def c_r05_Valid_r10 (F : String → Nat) : List LI := [⟨some 29, .mov (.t 4), none⟩,
  ⟨some 30, .fad 1 (.t 1), none⟩,
  ⟨some 31, .load false 1 (.t 30), none⟩,
  ⟨some 32, .len (.t 31), none⟩,
  ⟨some 33, .bin .lss (.t 29) (.t 32), none⟩]
def c_r05_Valid_r11 (F : String → Nat) : List LI := [⟨some 36, .fad 1 (.t 1), none⟩,
  ⟨some 37, .load false 1 (.t 36), none⟩,
  ⟨some 38, .mov (.t 4), none⟩,
  ⟨some 39, .iad 3 (.t 37) (.t 38), none⟩,
  ⟨some 40, .load true 3 (.t 39), none⟩,
  ⟨some 41, .fad 0 (.t 1), none⟩,
  ⟨some 42, .load false 1 (.t 41), none⟩,
  ⟨some 43, .len (.t 42), none⟩,
  ⟨some 44, .call (F "r05.right") [.t 40, .t 43] [], none⟩,
  ⟨some 45, .not (.t 44), none⟩]
def c_r05_Valid_r12 (F : String → Nat) : List LI := [⟨some 2, .mov (.k (.int .i64 (6))), none⟩]
def c_r05_Valid_r13 (F : String → Nat) : List LI := [⟨some 34, .mov (.t 4), none⟩,
  ⟨some 35, .bin .add (.t 34) (.k (.int .i64 (1))), none⟩,
  ⟨some 4, .mov (.t 35), none⟩]
def c_r05_Valid_b14 (F : String → Nat) : LC := (.seq (.seq (.reg (c_r05_Valid_r10 F) [1, 4, 33]) (.cond (.t 33) .skip (.exit 2))) (.seq (.block 3 (.seq (.dreg [] (c_r05_Valid_r11 F) [1, 4, 45]) (.cond (.t 45) (.seq (.reg (c_r05_Valid_r12 F) [2]) .ret) .skip))) (.reg (c_r05_Valid_r13 F) [1, 4])))
def c_r05_Valid_r15 (F : String → Nat) : List LI := [⟨some 2, .mov (.k (.int .i64 (0))), none⟩]
def c_r05_Valid (F : String → Nat) : LC := (.seq (.reg (c_r05_Valid_r0 F) [1]) (.seq (.seq (.reg (c_r05_Valid_r1 F) [1, 14]) (.cond (.t 14) (.seq (.reg (c_r05_Valid_r2 F) [2]) .ret) .skip)) (.seq (.seq (.reg (c_r05_Valid_r3 F) [1, 3]) (.block 0 (.loop [1, 3] (c_r05_Valid_b8 F)))) (.seq (.seq (.reg (c_r05_Valid_r9 F) [1, 4]) (.block 2 (.loop [1, 4] (c_r05_Valid_b14 F)))) (.seq (.reg (c_r05_Valid_r15 F) [2]) .ret)))))
def h_r05_Valid : Hints := ⟨[], fun _ => [], tab [(0, [1]), (1, [1, 14]), (2, [2]), (3, [1, 3]), (4, [1, 3, 19]), (5, [1, 3]), (6, [1, 3, 28]), (7, [2]), (8, [1, 4]), (9, [1, 4, 33]), (10, [1, 4]), (11, [1, 4, 45]), (12, [2]), (13, [2])], tab [(4, [1, 3]), (9, [1, 4])]⟩

/- r05.Same -/
def c_r05_Same_r0 (F : String → Nat) : List LI := [⟨some 2, .bx (.t 0), none⟩,
  ⟨some 3, .bx (.t 1), none⟩,
  ⟨some 4, .mov (.k (.bool false)), none⟩]
def c_r05_Same_r1 (F : String → Nat) : List LI := [⟨some 6, .fad 0 (.t 2), none⟩,
  ⟨some 7, .load false 1 (.t 6), none⟩,
  ⟨some 8, .fad 0 (.t 3), none⟩,
  ⟨some 9, .load false 1 (.t 8), none⟩,
  ⟨some 10, .call (F "r05.SameInts") [.t 7, .t 9] [], none⟩,
  ⟨some 11, .not (.t 10), none⟩,
  ⟨some 12, .mov (.t 11), none⟩,
  ⟨some 13, .fad 1 (.t 2), some (12, false)⟩,
  ⟨some 14, .load false 1 (.t 13), some (12, false)⟩,
  ⟨some 15, .len (.t 14), some (12, false)⟩,
  ⟨some 16, .fad 1 (.t 3), some (12, false)⟩,
  ⟨some 17, .load false 1 (.t 16), some (12, false)⟩,
  ⟨some 18, .len (.t 17), some (12, false)⟩,
  ⟨some 19, .bin .neq (.t 15) (.t 18), some (12, false)⟩,
  ⟨some 20, .pick (.t 12) (.k (.bool true)) (.t 19), none⟩]
def c_r05_Same_r2 (F : String → Nat) : List LI := [⟨some 4, .mov (.k (.bool false)), none⟩]
def c_r05_Same_r3 (F : String → Nat) : List LI := [⟨some 5, .mov (.k (.int .i64 (0))), none⟩]
def c_r05_Same_r4 (F : String → Nat) : List LI := [⟨some 21, .mov (.t 5), none⟩,
  ⟨some 22, .fad 1 (.t 2), none⟩,
  ⟨some 23, .load false 1 (.t 22), none⟩,
  ⟨some 24, .len (.t 23), none⟩,
  ⟨some 25, .bin .lss (.t 21) (.t 24), none⟩]
def c_r05_Same_r5 (F : String → Nat) : List LI := [⟨some 28, .fad 1 (.t 2), none⟩,
  ⟨some 29, .load false 1 (.t 28), none⟩,
  ⟨some 30, .mov (.t 5), none⟩,
  ⟨some 31, .iad 3 (.t 29) (.t 30), none⟩,
  ⟨some 32, .load true 3 (.t 31), none⟩,
  ⟨some 33, .fad 1 (.t 3), none⟩,
  ⟨some 34, .load false 1 (.t 33), none⟩,
  ⟨some 35, .mov (.t 5), none⟩,
  ⟨some 36, .iad 3 (.t 34) (.t 35), none⟩,
  ⟨some 37, .load true 3 (.t 36), none⟩,
  ⟨some 38, .eqA 3 true (.t 32) (.t 37), none⟩]
def c_r05_Same_r6 (F : String → Nat) : List LI := [⟨some 4, .mov (.k (.bool false)), none⟩]
def c_r05_Same_r7 (F : String → Nat) : List LI := [⟨some 26, .mov (.t 5), none⟩,
  ⟨some 27, .bin .add (.t 26) (.k (.int .i64 (1))), none⟩,
  ⟨some 5, .mov (.t 27), none⟩]
def c_r05_Same_b8 (F : String → Nat) : LC := (.seq (.seq (.reg (c_r05_Same_r4 F) [2, 3, 5, 25]) (.cond (.t 25) .skip (.exit 0))) (.seq (.block 1 (.seq (.dreg [] (c_r05_Same_r5 F) [2, 3, 5, 38]) (.cond (.t 38) (.seq (.reg (c_r05_Same_r6 F) [4]) .ret) .skip))) (.reg (c_r05_Same_r7 F) [2, 3, 5])))
def c_r05_Same_r9 (F : String → Nat) : List LI := [⟨some 4, .mov (.k (.bool true)), none⟩]
def c_r05_Same (F : String → Nat) : LC := (.seq (.reg (c_r05_Same_r0 F) [2, 3]) (.seq (.seq (.reg (c_r05_Same_r1 F) [2, 3, 20]) (.cond (.t 20) (.seq (.reg (c_r05_Same_r2 F) [4]) .ret) .skip)) (.seq (.seq (.reg (c_r05_Same_r3 F) [2, 3, 5]) (.block 0 (.loop [2, 3, 5] (c_r05_Same_b8 F)))) (.seq (.reg (c_r05_Same_r9 F) [4]) .ret))))
def h_r05_Same : Hints := ⟨[], fun _ => [], tab [(0, [2, 3]), (1, [2, 3, 20]), (2, [4]), (3, [2, 3, 5]), (4, [2, 3, 5, 25]), (5, [2, 3, 5]), (6, [2, 3, 5, 38]), (7, [4]), (8, [4])], tab [(4, [2, 3, 5])]⟩

/- slices.Equal.I -/
def c_slices_Equal_I_r0 (F : String → Nat) : List LI := [⟨some 4, .mov (.k (.bool false)), none⟩]
def c_slices_Equal_I_r1 (F : String → Nat) : List LI := [⟨some 6, .mov (.t 0), none⟩,
  ⟨some 7, .len (.t 6), none⟩,
  ⟨some 8, .mov (.t 1), none⟩,
  ⟨some 9, .len (.t 8), none⟩,
  ⟨some 10, .bin .neq (.t 7) (.t 9), none⟩]
def c_slices_Equal_I_r2 (F : String → Nat) : List LI := [⟨some 4, .mov (.k (.bool false)), none⟩]
def c_slices_Equal_I_r3 (F : String → Nat) : List LI := [⟨some 11, .mov (.t 0), none⟩,
  ⟨some 12, .len (.t 11), none⟩,
  ⟨some 13, .mov (.k (.int .i64 (0))), none⟩]
def c_slices_Equal_I_r4 (F : String → Nat) : List LI := [⟨some 14, .bin .lss (.t 13) (.t 12), none⟩]
def c_slices_Equal_I_r5 (F : String → Nat) : List LI := [⟨some 15, .mov (.t 13), none⟩,
  ⟨some 5, .mov (.t 15), none⟩]
def c_slices_Equal_I_r6 (F : String → Nat) : List LI := [⟨some 16, .mov (.t 0), none⟩,
  ⟨some 17, .mov (.t 5), none⟩,
  ⟨some 18, .iad 1 (.t 16) (.t 17), none⟩,
  ⟨some 19, .load false 1 (.t 18), none⟩,
  ⟨some 20, .mov (.t 1), none⟩,
  ⟨some 21, .mov (.t 5), none⟩,
  ⟨some 22, .iad 1 (.t 20) (.t 21), none⟩,
  ⟨some 23, .load false 1 (.t 22), none⟩,
  ⟨some 24, .bin .neq (.t 19) (.t 23), none⟩]
def c_slices_Equal_I_r7 (F : String → Nat) : List LI := [⟨some 4, .mov (.k (.bool false)), none⟩]
def c_slices_Equal_I_r8 (F : String → Nat) : List LI := [⟨some 25, .bin .add (.t 13) (.k (.int .i64 (1))), none⟩,
  ⟨some 13, .mov (.t 25), none⟩]
def c_slices_Equal_I_b9 (F : String → Nat) : LC := (.seq (.reg (c_slices_Equal_I_r4 F) [0, 1, 12, 13, 14]) (.seq (.cond (.t 14) .skip (.exit 0)) (.seq (.block 1 (.seq (.reg (c_slices_Equal_I_r5 F) [0, 1, 5, 12, 13]) (.seq (.dreg [] (c_slices_Equal_I_r6 F) [0, 1, 12, 13, 24]) (.cond (.t 24) (.seq (.reg (c_slices_Equal_I_r7 F) [4]) .ret) .skip)))) (.reg (c_slices_Equal_I_r8 F) [0, 1, 12, 13]))))
def c_slices_Equal_I_r10 (F : String → Nat) : List LI := [⟨some 4, .mov (.k (.bool true)), none⟩]
def c_slices_Equal_I (F : String → Nat) : LC := (.seq (.reg (c_slices_Equal_I_r0 F) [0, 1]) (.seq (.seq (.reg (c_slices_Equal_I_r1 F) [0, 1, 10]) (.cond (.t 10) (.seq (.reg (c_slices_Equal_I_r2 F) [4]) .ret) .skip)) (.seq (.seq (.reg (c_slices_Equal_I_r3 F) [0, 1, 12, 13]) (.block 0 (.loop [0, 1, 12, 13] (c_slices_Equal_I_b9 F)))) (.seq (.reg (c_slices_Equal_I_r10 F) [4]) .ret))))
def h_slices_Equal_I : Hints := ⟨[], fun _ => [], tab [(0, [0, 1]), (1, [0, 1, 10]), (2, [4]), (3, [0, 1, 12, 13]), (4, [0, 1, 12, 13, 14]), (5, [0, 1, 5, 12, 13]), (6, [0, 1, 12, 13, 24]), (7, [4]), (8, [0, 1, 12, 13]), (9, [4])], tab [(4, [0, 1, 12, 13])]⟩

attribute [go_sem] c_r05_Valid_r0 c_r05_Valid_r1 c_r05_Valid_r2 c_r05_Valid_r3 c_r05_Valid_r4 c_r05_Valid_r5 c_r05_Valid_r6 c_r05_Valid_r7 c_r05_Valid_r9 c_r05_Valid_r10 c_r05_Valid_r11 c_r05_Valid_r12 c_r05_Valid_r13 c_r05_Valid_r15 c_r05_Valid c_r05_Same_r0 c_r05_Same_r1 c_r05_Same_r2 c_r05_Same_r3 c_r05_Same_r4 c_r05_Same_r5 c_r05_Same_r6 c_r05_Same_r7 c_r05_Same_r9 c_r05_Same c_slices_Equal_I_r0 c_slices_Equal_I_r1 c_slices_Equal_I_r2 c_slices_Equal_I_r3 c_slices_Equal_I_r4 c_slices_Equal_I_r5 c_slices_Equal_I_r6 c_slices_Equal_I_r7 c_slices_Equal_I_r8 c_slices_Equal_I_r10 c_slices_Equal_I
section
variable {P : Program} {F : String → Nat} {α : Type}
theorem eqE (a b : E) : a = b ↔ a.t = b.t ∧ a.f = b.f ∧ a.o = b.o := by
  cases a; cases b; simp
theorem asc_gt (n : Int) : ∀ (l : List Int) (p : Option Int), ascG n p l = 0 → (∀ x, x ∈ l → 0 ≤ x ∧ x ≤ n - 1) ∧ (∀ q, p = some q → ∀ x, x ∈ l → q < x) ∧ l.Pairwise (· < ·)
  | [], p, _ => by simp
  | x :: l, p, h => by
    simp only [ascG] at h
    split at h
    case isFalse => simp at h
    rename_i hx
    by_cases hp : leO x p = true
    · rw [if_pos hp] at h; simp at h
    · rw [if_neg hp] at h
      obtain ⟨h1, h2, h3⟩ := asc_gt n l (some x) h
      refine ⟨by simpa using ⟨hx, h1⟩, ?_, ?_⟩
      · rintro q rfl y hy
        simp only [leO, decide_eq_true_eq] at hp
        rcases List.mem_cons.1 hy with rfl | hy
        · omega
        · have := h2 x rfl y hy; omega
      · simpa using ⟨fun y hy => h2 x rfl y hy, h3⟩
theorem w_slices_Equal_I (a b : List Int) (hl : a.length ≤ maxL) : W P (c_slices_Equal_I F) (Done [.t 4] [] (.bool (decide (a = b))) []) (init [.lst 1 (ints a), .lst 1 (ints b)]) := by
  refine W_of ?_
  unfold maxL at hl
  simp (config := { maxSteps := 1000000 }) (disch := first | omega | (simp only [go_sem]; omega)) only [go_sem, ↓reduceIte]
  refine bran_ndec (fun h => ?_) (fun h => ?_)
  · simp (config := { maxSteps := 1000000 }) (disch := first | omega | (simp only [go_sem]; omega)) only [go_sem, ↓reduceIte]
    have : a ≠ b := fun e => h (by rw [e])
    simp [this]
  · have h' : a.length = b.length := by omega
    simp (config := { maxSteps := 1000000 }) (disch := first | omega | (simp only [go_sem]; omega)) only [go_sem, ↓reduceIte]
    refine W_loop (fun i : Nat => ⟨[(0, .lst 1 (ints a)), (1, .lst 1 (ints b)), (12, .int .i64 a.length), (13, .int .i64 i)], [], 0⟩) (fun i => i ≤ a.length ∧ a.take i = b.take i) (fun i => a.length - i) 0 ?_ ?_ ?_
    · simp (config := { maxSteps := 1000000 }) (disch := first | omega | (simp only [go_sem]; omega)) only [go_sem, ↓reduceIte]
      rfl
    · simp
    · intro i hi
      simp (config := { maxSteps := 1000000 }) (disch := first | omega | (simp only [go_sem]; omega)) only [go_sem, ↓reduceIte, c_slices_Equal_I_b9]
      refine bran_dec (fun c => ?_) (fun c => ?_)
      · simp (config := { maxSteps := 1000000 }) (disch := first | omega | (simp only [go_sem]; omega)) only [go_sem, ↓reduceIte]
        refine bran_ndec (fun d => ?_) (fun d => ?_)
        · simp (config := { maxSteps := 1000000 }) (disch := first | omega | (simp only [go_sem]; omega)) only [go_sem, ↓reduceIte]
          have : a ≠ b := fun e => d (by rw [e])
          simp [this]
        · simp (config := { maxSteps := 1000000 }) (disch := first | omega | (simp only [go_sem]; omega)) only [go_sem, ↓reduceIte]
          exact ⟨i + 1, by simp, ⟨by omega, by rw [take_gt (by omega), take_gt (by omega), hi.2, d]⟩, by omega⟩
      · simp (config := { maxSteps := 1000000 }) (disch := first | omega | (simp only [go_sem]; omega)) only [go_sem, ↓reduceIte]
        obtain rfl : i = a.length := by omega
        have := hi.2
        rw [List.take_length, List.take_of_length_le (by omega)] at this
        simp [this]
theorem w_r05_Same (hs : K_r05_SameInts P F) (a b : G) (h1 : a.n.length ≤ maxL) (h2 : a.e.length ≤ maxL) : W P (c_r05_Same F) (Done [.t 4] [] (.bool (decide (a = b))) []) (init [gD a, gD b]) := by
  refine W_of ?_
  obtain ⟨an, ae⟩ := a
  obtain ⟨bn, be⟩ := b
  simp only at h1 h2
  simp (config := { maxSteps := 1000000 }) (disch := first | omega | (simp only [go_sem]; omega)) only [go_sem, ↓reduceIte, gD]
  refine call_by (hs _ _ h1) ?_
  simp (config := { maxSteps := 1000000 }) (disch := first | omega | (simp only [go_sem]; omega)) only [go_sem, ↓reduceIte]
  refine bran_ndec (fun c => ?_) (fun c => ?_)
  · simp (config := { maxSteps := 1000000 }) (disch := first | omega | (simp only [go_sem]; omega)) only [go_sem, ↓reduceIte, c]
    simp [c]
  · subst c
    simp (config := { maxSteps := 1000000 }) (disch := first | omega | (simp only [go_sem]; omega)) only [go_sem, ↓reduceIte]
    refine bran_ndec (fun d => ?_) (fun d => ?_)
    · simp (config := { maxSteps := 1000000 }) (disch := first | omega | (simp only [go_sem]; omega)) only [go_sem, ↓reduceIte]
      have : ae ≠ be := fun e => d (by rw [e])
      simp [this]
    · have d' : ae.length = be.length := by omega
      unfold maxL at h2
      simp (config := { maxSteps := 1000000 }) (disch := first | omega | (simp only [go_sem]; omega)) only [go_sem, ↓reduceIte]
      refine W_loop (fun i : Nat => ⟨[(2, .pt 0 0), (3, .pt 1 0), (5, .int .i64 i)], [(0, .box [.lst 1 (ints an), .lst 3 (eds ae)]), (1, .box [.lst 1 (ints an), .lst 3 (eds be)])], 2⟩) (fun i => i ≤ ae.length ∧ ae.take i = be.take i) (fun i => ae.length - i) 0 ?_ ?_ ?_
      · simp (config := { maxSteps := 1000000 }) (disch := first | omega | (simp only [go_sem]; omega)) only [go_sem, ↓reduceIte]
        rfl
      · simp
      · intro i hi
        simp (config := { maxSteps := 1000000 }) (disch := first | omega | (simp only [go_sem]; omega)) only [go_sem, ↓reduceIte, c_r05_Same_b8]
        refine bran_dec (fun f => ?_) (fun f => ?_)
        · have he : (decide ((gt ae i).t = (gt be i).t) && (decide ((gt ae i).f = (gt be i).f) && decide ((gt ae i).o = (gt be i).o))) = decide (gt ae i = gt be i) := by
            rw [Bool.eq_iff_iff]; simp [eqE]
          simp (config := { maxSteps := 1000000 }) (disch := first | omega | (simp only [go_sem]; omega)) only [go_sem, ↓reduceIte, he]
          refine bran_ndec (fun d2 => ?_) (fun d2 => ?_)
          · simp (config := { maxSteps := 1000000 }) (disch := first | omega | (simp only [go_sem]; omega)) only [go_sem, ↓reduceIte]
            have : ae ≠ be := fun e => d2 (by rw [e])
            simp [this]
          · simp (config := { maxSteps := 1000000 }) (disch := first | omega | (simp only [go_sem]; omega)) only [go_sem, ↓reduceIte]
            exact ⟨i + 1, by simp, ⟨by omega, by rw [take_gt (by omega), take_gt (by omega), hi.2, d2]⟩, by omega⟩
        · simp (config := { maxSteps := 1000000 }) (disch := first | omega | (simp only [go_sem]; omega)) only [go_sem, ↓reduceIte]
          obtain rfl : i = ae.length := by omega
          have := hi.2
          rw [List.take_length, List.take_of_length_le (by omega)] at this
          simp [this]
theorem w_r05_Valid (hk : K_r05_kind P F) (hr : K_r05_right P F) (g : G) : W P (c_r05_Valid F) (Done [.t 2] [] (.int .i64 (validG g)) []) (init [gD g]) := by
  refine W_of ?_
  obtain ⟨ns, es⟩ := g
  simp (config := { maxSteps := 1000000 }) (disch := first | omega | (simp only [go_sem]; omega)) only [go_sem, ↓reduceIte, gD]
  refine bran_dec (fun a1 => ?_) (fun a1 => ?_)
  · simp (config := { maxSteps := 1000000 }) (disch := first | omega | (simp only [go_sem]; omega)) only [go_sem, ↓reduceIte, a1]
    simp [validG]
    omega
  · simp (config := { maxSteps := 1000000 }) (disch := first | omega | (simp only [go_sem]; omega)) only [go_sem, ↓reduceIte, a1]
    refine bran_dec (fun a2 => ?_) (fun a2 => ?_)
    · simp (config := { maxSteps := 1000000 }) (disch := first | omega | (simp only [go_sem]; omega)) only [go_sem, ↓reduceIte]
      simp [validG]
      omega
    · have hv : validG ⟨ns, es⟩ = if ns.all okN && es.all (fitsE ns.length) then 0 else 6 := by
        simp only [validG]; rw [if_neg (by omega)]
      rw [hv]
      simp (config := { maxSteps := 1000000 }) (disch := first | omega | (simp only [go_sem]; omega)) only [go_sem, ↓reduceIte]
      refine W_loop (fun i : Nat => ⟨[(1, .pt 0 0), (3, .int .i64 i)], [(0, .box [.lst 1 (ints ns), .lst 3 (eds es)])], 1⟩) (fun i => i ≤ ns.length ∧ ns.all okN = (ns.drop i).all okN) (fun i => ns.length - i) 0 ?_ ?_ ?_
      · simp (config := { maxSteps := 1000000 }) (disch := first | omega | (simp only [go_sem]; omega)) only [go_sem, ↓reduceIte]
        rfl
      · simp
      · intro i hi
        simp (config := { maxSteps := 1000000 }) (disch := first | omega | (simp only [go_sem]; omega)) only [go_sem, ↓reduceIte, c_r05_Valid_b8]
        refine bran_dec (fun f => ?_) (fun f => ?_)
        · have hd := drop_gt (l := ns) (i := i) (by omega)
          simp (config := { maxSteps := 1000000 }) (disch := first | omega | (simp only [go_sem]; omega)) only [go_sem, ↓reduceIte]
          refine call_by (hk _) ?_
          simp (config := { maxSteps := 1000000 }) (disch := first | omega | (simp only [go_sem]; omega)) only [go_sem, ↓reduceIte]
          refine bran_nby (fun d => ?_) (fun d => ?_)
          · simp (config := { maxSteps := 1000000 }) (disch := first | omega | (simp only [go_sem]; omega)) only [go_sem, ↓reduceIte]
            rw [hi.2, hd]
            simp [d]
          · simp (config := { maxSteps := 1000000 }) (disch := first | omega | (simp only [go_sem]; omega)) only [go_sem, ↓reduceIte]
            exact ⟨i + 1, by simp, ⟨by omega, by rw [hi.2, hd]; simp [d]⟩, by omega⟩
        · have hn : ns.all okN = true := by rw [hi.2, List.drop_of_length_le (by omega)]; rfl
          simp (config := { maxSteps := 1000000 }) (disch := first | omega | (simp only [go_sem]; omega)) only [go_sem, ↓reduceIte]
          refine W_loop (fun i : Nat => ⟨[(1, .pt 0 0), (4, .int .i64 i)], [(0, .box [.lst 1 (ints ns), .lst 3 (eds es)])], 1⟩) (fun i => i ≤ es.length ∧ es.all (fitsE ns.length) = (es.drop i).all (fitsE ns.length)) (fun i => es.length - i) 0 ?_ ?_ ?_
          · simp (config := { maxSteps := 1000000 }) (disch := first | omega | (simp only [go_sem]; omega)) only [go_sem, ↓reduceIte]
            rfl
          · simp
          · intro i hi
            simp (config := { maxSteps := 1000000 }) (disch := first | omega | (simp only [go_sem]; omega)) only [go_sem, ↓reduceIte, c_r05_Valid_b14]
            refine bran_dec (fun f => ?_) (fun f => ?_)
            · have hd := drop_gt (l := es) (i := i) (by omega)
              simp (config := { maxSteps := 1000000 }) (disch := first | omega | (simp only [go_sem]; omega)) only [go_sem, ↓reduceIte]
              refine call_by (hr _ _) ?_
              simp (config := { maxSteps := 1000000 }) (disch := first | omega | (simp only [go_sem]; omega)) only [go_sem, ↓reduceIte]
              refine bran_nby (fun d => ?_) (fun d => ?_)
              · simp (config := { maxSteps := 1000000 }) (disch := first | omega | (simp only [go_sem]; omega)) only [go_sem, ↓reduceIte]
                rw [hi.2, hd]
                simp [d]
              · simp (config := { maxSteps := 1000000 }) (disch := first | omega | (simp only [go_sem]; omega)) only [go_sem, ↓reduceIte]
                exact ⟨i + 1, by simp, ⟨by omega, by rw [hi.2, hd]; simp [d]⟩, by omega⟩
            · simp (config := { maxSteps := 1000000 }) (disch := first | omega | (simp only [go_sem]; omega)) only [go_sem, ↓reduceIte]
              rw [hi.2, List.drop_of_length_le (by omega), hn]
              rfl
end
end Go.Am
namespace Go.Am
open Go
set_option linter.unusedVariables false
set_option linter.unusedSimpArgs false
def u8s (l : List Int) : List D := l.map fun x => .int .u8 x
def trs (l : List E) : List D := l.map fun x => .agg [.int .u8 x.t, .int .u8 x.f, .int .u8 x.o]
theorem u8s_length (l : List Int) : (u8s l).length = l.length := by simp [u8s]
theorem trs_length (l : List E) : (trs l).length = l.length := by simp [trs]
theorem u8s_atn {l : List Int} {i : Nat} (h : i < l.length) : (u8s l)[i]? = some (.int .u8 (gt l (i : Int))) := by
  rw [gt_nat h]; simp [u8s, h]
theorem trs_atn {l : List E} {i : Nat} (h : i < l.length) : (trs l)[i]? = some (.agg [.int .u8 (gt l (i : Int)).t, .int .u8 (gt l (i : Int)).f, .int .u8 (gt l (i : Int)).o]) := by
  rw [gt_nat h]; simp [trs, h]
theorem flat_u8s (l : List Int) : (u8s l).all D.flatE = true := by simp [u8s, D.flatE, D.flat0]
theorem flat_trs (l : List E) : (trs l).all D.flatE = true := by simp [trs, D.flatE, D.flat0]
attribute [go_sem] u8s_length trs_length u8s_atn trs_atn flat_u8s flat_trs
/-- A draft: types of nodes, and edges. -/
structure Dr where
  n : List Int
  e : List E
  deriving DecidableEq, Inhabited
def Byte (x : Int) : Prop := 0 ≤ x ∧ x ≤ 255
def Dr.ok (x : Dr) : Prop := (∀ v ∈ x.n, Byte v) ∧ ∀ v ∈ x.e, Byte v.t ∧ Byte v.f ∧ Byte v.o
section
variable (P : Program) (F : String → Nat)
end
def Mo.sm (m : Mo) : Prop := m.n.length ≤ maxL ∧ m.e.length ≤ maxL
section
variable {P : Program} {F : String → Nat} {α : Type}
theorem valid_spec {g : G} (h : validG g = 0) : g.n.length ≤ 40 ∧ g.e.length ≤ 80 ∧ (∀ x, x ∈ g.n → okN x = true) ∧ ∀ x, x ∈ g.e → fitsE g.n.length x = true := by
  unfold validG at h
  split at h
  · simp at h
  · rename_i h1
    split at h
    · rename_i h2
      simp only [Bool.and_eq_true, List.all_eq_true] at h2
      exact ⟨by omega, by omega, h2.1, h2.2⟩
    · simp at h
theorem fits_spec {n : Int} {x : E} (h : fitsE n x = true) : (0 ≤ x.t ∧ x.t ≤ 99) ∧ (0 ≤ x.f ∧ x.f < n) ∧ (0 ≤ x.o ∧ x.o < n) := by
  simp only [fitsE, Bool.and_eq_true, decide_eq_true_eq] at h
  omega
theorem fits_mk {n : Int} {x : E} (h1 : 0 ≤ x.t ∧ x.t ≤ 99) (h2 : 0 ≤ x.f ∧ x.f < n) (h3 : 0 ≤ x.o ∧ x.o < n) : fitsE n x = true := by
  simp only [fitsE, Bool.and_eq_true, decide_eq_true_eq]
  omega
end
end Go.Am
