/- slices.Concat; disjoint unions. -/
import Derived.Test.YtfkkngepnnkloaaSkV
namespace Go.Am
open Go
set_option linter.unusedVariables false
set_option linter.unusedSimpArgs false
/- slices.Grow.I -/
def c_slices_Grow_I_r0 (F : String → Nat) : List LI := [⟨some 4, .mov (.k (.nl 1)), none⟩]
def c_slices_Grow_I_r1 (F : String → Nat) : List LI := [⟨some 5, .mov (.t 1), none⟩,
  ⟨some 6, .bin .lss (.t 5) (.k (.int .i64 (0))), none⟩]
def c_slices_Grow_I_r2 (F : String → Nat) : List LI := [⟨some 7, .bad, none⟩,
  ⟨none, .bad, none⟩]
def c_slices_Grow_I_r3 (F : String → Nat) : List LI := [⟨some 8, .mov (.t 1), none⟩,
  ⟨some 9, .mov (.t 0), none⟩,
  ⟨some 10, .cap (.t 9), none⟩,
  ⟨some 11, .mov (.t 0), none⟩,
  ⟨some 12, .len (.t 11), none⟩,
  ⟨some 13, .bin .sub (.t 10) (.t 12), none⟩,
  ⟨some 14, .bin .sub (.t 8) (.t 13), none⟩,
  ⟨some 1, .mov (.t 14), none⟩]
def c_slices_Grow_I_r4 (F : String → Nat) : List LI := [⟨some 15, .mov (.t 1), none⟩,
  ⟨some 16, .bin .gtr (.t 15) (.k (.int .i64 (0))), none⟩]
def c_slices_Grow_I_r5 (F : String → Nat) : List LI := [⟨some 17, .mov (.t 0), none⟩,
  ⟨some 18, .mov (.t 0), none⟩,
  ⟨some 19, .cap (.t 18), none⟩,
  ⟨some 20, .slc 1 (.t 17) none (some (.t 19)), none⟩,
  ⟨some 21, .mov (.t 1), none⟩,
  ⟨some 22, .appz 1 8 (.int .i64 (0)) (.t 20) (.t 21), none⟩,
  ⟨some 23, .mov (.t 0), none⟩,
  ⟨some 24, .len (.t 23), none⟩,
  ⟨some 25, .slc 1 (.t 22) none (some (.t 24)), none⟩,
  ⟨some 0, .mov (.t 25), none⟩]
def c_slices_Grow_I_r6 (F : String → Nat) : List LI := [⟨some 26, .mov (.t 0), none⟩,
  ⟨some 4, .mov (.t 26), none⟩]
def c_slices_Grow_I (F : String → Nat) : LC := (.seq (.reg (c_slices_Grow_I_r0 F) [0, 1]) (.seq (.seq (.reg (c_slices_Grow_I_r1 F) [0, 1, 6]) (.cond (.t 6) (.reg (c_slices_Grow_I_r2 F) [0, 1]) .skip)) (.seq (.seq (.reg (c_slices_Grow_I_r3 F) [0, 1]) (.seq (.reg (c_slices_Grow_I_r4 F) [0, 1, 16]) (.cond (.t 16) (.reg (c_slices_Grow_I_r5 F) [0]) .skip))) (.seq (.reg (c_slices_Grow_I_r6 F) [4]) .ret))))
def h_slices_Grow_I : Hints := ⟨[], fun _ => [], tab [(0, [0, 1]), (1, [0, 1, 6]), (2, [0, 1]), (3, [0, 1]), (4, [0, 1, 16]), (5, [0]), (6, [4])], tab []⟩

/- slices.Concat.I -/
def c_slices_Concat_I_r0 (F : String → Nat) : List LI := [⟨some 2, .mov (.k (.nl 1)), none⟩]
def c_slices_Concat_I_r1 (F : String → Nat) : List LI := [⟨some 3, .mov (.k (.int .i64 (0))), none⟩]
def c_slices_Concat_I_r2 (F : String → Nat) : List LI := [⟨some 9, .mov (.t 0), none⟩,
  ⟨some 10, .len (.t 9), none⟩,
  ⟨some 11, .mov (.k (.int .i64 (0))), none⟩]
def c_slices_Concat_I_r3 (F : String → Nat) : List LI := [⟨some 12, .bin .lss (.t 11) (.t 10), none⟩]
def c_slices_Concat_I_r4 (F : String → Nat) : List LI := [⟨some 13, .iad 1 (.t 9) (.t 11), none⟩,
  ⟨some 14, .load false 1 (.t 13), none⟩,
  ⟨some 5, .mov (.t 14), none⟩]
def c_slices_Concat_I_r5 (F : String → Nat) : List LI := [⟨some 15, .mov (.t 3), none⟩,
  ⟨some 16, .mov (.t 5), none⟩,
  ⟨some 17, .len (.t 16), none⟩,
  ⟨some 18, .bin .add (.t 15) (.t 17), none⟩,
  ⟨some 3, .mov (.t 18), none⟩]
def c_slices_Concat_I_r6 (F : String → Nat) : List LI := [⟨some 19, .mov (.t 3), none⟩,
  ⟨some 20, .bin .lss (.t 19) (.k (.int .i64 (0))), none⟩]
def c_slices_Concat_I_r7 (F : String → Nat) : List LI := [⟨some 21, .bad, none⟩,
  ⟨none, .bad, none⟩]
def c_slices_Concat_I_r8 (F : String → Nat) : List LI := [⟨some 22, .bin .add (.t 11) (.k (.int .i64 (1))), none⟩,
  ⟨some 11, .mov (.t 22), none⟩]
def c_slices_Concat_I_b9 (F : String → Nat) : LC := (.seq (.reg (c_slices_Concat_I_r3 F) [0, 3, 9, 10, 11, 12]) (.seq (.cond (.t 12) .skip (.exit 0)) (.seq (.block 1 (.seq (.reg (c_slices_Concat_I_r4 F) [0, 3, 5, 9, 10, 11]) (.seq (.reg (c_slices_Concat_I_r5 F) [0, 3, 9, 10, 11]) (.seq (.reg (c_slices_Concat_I_r6 F) [0, 3, 9, 10, 11, 20]) (.cond (.t 20) (.reg (c_slices_Concat_I_r7 F) [0, 3, 9, 10, 11]) .skip))))) (.reg (c_slices_Concat_I_r8 F) [0, 3, 9, 10, 11]))))
def c_slices_Concat_I_r10 (F : String → Nat) : List LI := [⟨some 23, .mov (.t 3), none⟩,
  ⟨some 24, .call (F "slices.Grow.I") [.k (.nl 0), .t 23] [], none⟩,
  ⟨some 6, .mov (.t 24), none⟩]
def c_slices_Concat_I_r11 (F : String → Nat) : List LI := [⟨some 25, .mov (.t 0), none⟩,
  ⟨some 26, .len (.t 25), none⟩,
  ⟨some 27, .mov (.k (.int .i64 (0))), none⟩]
def c_slices_Concat_I_r12 (F : String → Nat) : List LI := [⟨some 28, .bin .lss (.t 27) (.t 26), none⟩]
def c_slices_Concat_I_r13 (F : String → Nat) : List LI := [⟨some 29, .iad 1 (.t 25) (.t 27), none⟩,
  ⟨some 30, .load false 1 (.t 29), none⟩,
  ⟨some 8, .mov (.t 30), none⟩]
def c_slices_Concat_I_r14 (F : String → Nat) : List LI := [⟨some 31, .mov (.t 6), none⟩,
  ⟨some 32, .mov (.t 8), none⟩,
  ⟨some 33, .app 1 8 (.t 31) (.t 32), none⟩,
  ⟨some 6, .mov (.t 33), none⟩]
def c_slices_Concat_I_r15 (F : String → Nat) : List LI := [⟨some 34, .bin .add (.t 27) (.k (.int .i64 (1))), none⟩,
  ⟨some 27, .mov (.t 34), none⟩]
def c_slices_Concat_I_b16 (F : String → Nat) : LC := (.seq (.reg (c_slices_Concat_I_r12 F) [6, 25, 26, 27, 28]) (.seq (.cond (.t 28) .skip (.exit 2)) (.seq (.block 3 (.seq (.reg (c_slices_Concat_I_r13 F) [6, 8, 25, 26, 27]) (.reg (c_slices_Concat_I_r14 F) [6, 25, 26, 27]))) (.reg (c_slices_Concat_I_r15 F) [6, 25, 26, 27]))))
def c_slices_Concat_I_r17 (F : String → Nat) : List LI := [⟨some 35, .mov (.t 6), none⟩,
  ⟨some 2, .mov (.t 35), none⟩]
def c_slices_Concat_I (F : String → Nat) : LC := (.seq (.reg (c_slices_Concat_I_r0 F) [0]) (.seq (.reg (c_slices_Concat_I_r1 F) [0, 3]) (.seq (.seq (.reg (c_slices_Concat_I_r2 F) [0, 3, 9, 10, 11]) (.block 0 (.loop [0, 3, 9, 10, 11] (c_slices_Concat_I_b9 F)))) (.seq (.reg (c_slices_Concat_I_r10 F) [0, 6]) (.seq (.seq (.reg (c_slices_Concat_I_r11 F) [6, 25, 26, 27]) (.block 2 (.loop [6, 25, 26, 27] (c_slices_Concat_I_b16 F)))) (.seq (.reg (c_slices_Concat_I_r17 F) [2]) .ret))))))
def h_slices_Concat_I : Hints := ⟨[], fun _ => [], tab [(0, [0]), (1, [0, 3]), (2, [0, 3, 9, 10, 11]), (3, [0, 3, 9, 10, 11, 12]), (4, [0, 3, 5, 9, 10, 11]), (5, [0, 3, 9, 10, 11]), (6, [0, 3, 9, 10, 11, 20]), (7, [0, 3, 9, 10, 11]), (8, [0, 3, 9, 10, 11]), (9, [0, 6]), (10, [6, 25, 26, 27]), (11, [6, 25, 26, 27, 28]), (12, [6, 8, 25, 26, 27]), (13, [6, 25, 26, 27]), (14, [6, 25, 26, 27]), (15, [2])], tab [(3, [0, 3, 9, 10, 11]), (11, [6, 25, 26, 27])]⟩

/- graph.Union -/
def c_graph_Union_r0 (F : String → Nat) : List LI := [⟨some 2, .bx (.t 0), none⟩,
  ⟨some 3, .bx (.t 1), none⟩,
  ⟨some 4, .alloc [.nl 1, .nl 3], none⟩,
  ⟨some 5, .alloc [.nl 1, .nl 1], none⟩,
  ⟨some 6, .alloc [.nl 1, .nl 1], none⟩,
  ⟨some 7, .mov (.k (.int .i64 (0))), none⟩]
def c_graph_Union_r1 (F : String → Nat) : List LI := [⟨some 18, .load true 2 (.t 2), none⟩,
  ⟨some 19, .load true 2 (.t 3), none⟩,
  ⟨some 20, .buildSl 2 48 (.agg [.lst 1 [], .lst 3 []]) 2 [(0, .t 18), (1, .t 19)], none⟩,
  ⟨some 21, .len (.t 20), none⟩,
  ⟨some 22, .mov (.k (.int .i64 (0))), none⟩]
def c_graph_Union_r2 (F : String → Nat) : List LI := [⟨some 23, .bin .lss (.t 22) (.t 21), none⟩]
def c_graph_Union_r3 (F : String → Nat) : List LI := [⟨some 24, .iad 2 (.t 20) (.t 22), none⟩,
  ⟨some 25, .load true 2 (.t 24), none⟩,
  ⟨some 9, .alloc [.nl 1, .nl 3], none⟩,
  ⟨none, .store 2 (.t 9) (.t 25), none⟩]
def c_graph_Union_r4 (F : String → Nat) : List LI := [⟨some 26, .load true 2 (.t 9), none⟩,
  ⟨some 27, .call (F "graph.Valid") [.t 26] [], none⟩,
  ⟨some 10, .mov (.t 27), none⟩]
def c_graph_Union_r5 (F : String → Nat) : List LI := [⟨some 28, .mov (.t 10), none⟩,
  ⟨some 29, .bin .neq (.t 28) (.k (.int .i64 (0))), none⟩]
def c_graph_Union_r6 (F : String → Nat) : List LI := [⟨some 30, .build [.nl 1, .nl 3] [], none⟩,
  ⟨some 31, .build [.nl 1, .nl 1] [], none⟩,
  ⟨some 32, .build [.nl 1, .nl 1] [], none⟩,
  ⟨some 33, .mov (.t 10), none⟩,
  ⟨none, .store 2 (.t 4) (.t 30), none⟩,
  ⟨none, .store 2 (.t 5) (.t 31), none⟩,
  ⟨none, .store 2 (.t 6) (.t 32), none⟩,
  ⟨some 7, .mov (.t 33), none⟩]
def c_graph_Union_r7 (F : String → Nat) : List LI := [⟨some 34, .bin .add (.t 22) (.k (.int .i64 (1))), none⟩,
  ⟨some 22, .mov (.t 34), none⟩]
def c_graph_Union_b8 (F : String → Nat) : LC := (.seq (.reg (c_graph_Union_r2 F) [2, 3, 4, 5, 6, 20, 21, 22, 23]) (.seq (.cond (.t 23) .skip (.exit 0)) (.seq (.block 1 (.seq (.reg (c_graph_Union_r3 F) [2, 3, 4, 5, 6, 9, 20, 21, 22]) (.seq (.reg (c_graph_Union_r4 F) [2, 3, 4, 5, 6, 10, 20, 21, 22]) (.seq (.reg (c_graph_Union_r5 F) [2, 3, 4, 5, 6, 10, 20, 21, 22, 29]) (.cond (.t 29) (.seq (.reg (c_graph_Union_r6 F) [4, 5, 6, 7]) .ret) .skip))))) (.reg (c_graph_Union_r7 F) [2, 3, 4, 5, 6, 20, 21, 22]))))
def c_graph_Union_r9 (F : String → Nat) : List LI := [⟨some 35, .fad 0 (.t 2), none⟩,
  ⟨some 36, .load false 1 (.t 35), none⟩,
  ⟨some 37, .len (.t 36), none⟩,
  ⟨some 38, .fad 1 (.t 2), none⟩,
  ⟨some 39, .load false 1 (.t 38), none⟩,
  ⟨some 40, .len (.t 39), none⟩,
  ⟨some 11, .mov (.t 37), none⟩,
  ⟨some 12, .mov (.t 40), none⟩]
def c_graph_Union_r10 (F : String → Nat) : List LI := [⟨some 41, .mov (.t 11), none⟩,
  ⟨some 42, .fad 0 (.t 3), none⟩,
  ⟨some 43, .load false 1 (.t 42), none⟩,
  ⟨some 44, .len (.t 43), none⟩,
  ⟨some 45, .bin .add (.t 41) (.t 44), none⟩,
  ⟨some 46, .bin .gtr (.t 45) (.k (.int .i64 (40))), none⟩,
  ⟨some 47, .mov (.t 46), none⟩,
  ⟨some 48, .mov (.t 12), some (47, false)⟩,
  ⟨some 49, .fad 1 (.t 3), some (47, false)⟩,
  ⟨some 50, .load false 1 (.t 49), some (47, false)⟩,
  ⟨some 51, .len (.t 50), some (47, false)⟩,
  ⟨some 52, .bin .add (.t 48) (.t 51), some (47, false)⟩,
  ⟨some 53, .bin .gtr (.t 52) (.k (.int .i64 (80))), some (47, false)⟩,
  ⟨some 54, .pick (.t 47) (.k (.bool true)) (.t 53), none⟩]
def c_graph_Union_r11 (F : String → Nat) : List LI := [⟨some 55, .build [.nl 1, .nl 3] [], none⟩,
  ⟨some 56, .build [.nl 1, .nl 1] [], none⟩,
  ⟨some 57, .build [.nl 1, .nl 1] [], none⟩,
  ⟨none, .store 2 (.t 4) (.t 55), none⟩,
  ⟨none, .store 2 (.t 5) (.t 56), none⟩,
  ⟨none, .store 2 (.t 6) (.t 57), none⟩,
  ⟨some 7, .mov (.k (.int .i64 (3))), none⟩]
def c_graph_Union_r12 (F : String → Nat) : List LI := [⟨some 58, .fad 0 (.t 2), none⟩,
  ⟨some 59, .load false 1 (.t 58), none⟩,
  ⟨some 60, .fad 0 (.t 3), none⟩,
  ⟨some 61, .load false 1 (.t 60), none⟩,
  ⟨some 62, .buildSl 1 24 (.lst 1 []) 2 [(0, .t 59), (1, .t 61)], none⟩,
  ⟨some 63, .call (F "slices.Concat.I") [.t 62] [], none⟩,
  ⟨some 64, .fad 1 (.t 2), none⟩,
  ⟨some 65, .load false 1 (.t 64), none⟩,
  ⟨some 66, .call (F "slices.Clone.E") [.t 65] [], none⟩,
  ⟨some 67, .build [.nl 1, .nl 3] [(0, 1, .t 63), (1, 1, .t 66)], none⟩,
  ⟨some 13, .alloc [.nl 1, .nl 3], none⟩,
  ⟨none, .store 2 (.t 13) (.t 67), none⟩]
def c_graph_Union_r13 (F : String → Nat) : List LI := [⟨some 68, .fad 1 (.t 3), none⟩,
  ⟨some 69, .load false 1 (.t 68), none⟩,
  ⟨some 70, .len (.t 69), none⟩,
  ⟨some 71, .mov (.k (.int .i64 (0))), none⟩]
def c_graph_Union_r14 (F : String → Nat) : List LI := [⟨some 72, .bin .lss (.t 71) (.t 70), none⟩]
def c_graph_Union_r15 (F : String → Nat) : List LI := [⟨some 73, .iad 3 (.t 69) (.t 71), none⟩,
  ⟨some 74, .load true 3 (.t 73), none⟩,
  ⟨some 15, .alloc [.int .i64 (0), .int .i64 (0), .int .i64 (0)], none⟩,
  ⟨none, .store 3 (.t 15) (.t 74), none⟩]
def c_graph_Union_r16 (F : String → Nat) : List LI := [⟨some 75, .fad 1 (.t 13), none⟩,
  ⟨some 76, .load false 1 (.t 75), none⟩,
  ⟨some 77, .fad 0 (.t 15), none⟩,
  ⟨some 78, .load false 1 (.t 77), none⟩,
  ⟨some 79, .fad 1 (.t 15), none⟩,
  ⟨some 80, .load false 1 (.t 79), none⟩,
  ⟨some 81, .mov (.t 11), none⟩,
  ⟨some 82, .bin .add (.t 80) (.t 81), none⟩,
  ⟨some 83, .fad 2 (.t 15), none⟩,
  ⟨some 84, .load false 1 (.t 83), none⟩,
  ⟨some 85, .mov (.t 11), none⟩,
  ⟨some 86, .bin .add (.t 84) (.t 85), none⟩,
  ⟨some 87, .build [.int .i64 (0), .int .i64 (0), .int .i64 (0)] [(0, 1, .t 78), (1, 1, .t 82), (2, 1, .t 86)], none⟩,
  ⟨some 88, .buildSl 3 24 (.agg [.int .i64 (0), .int .i64 (0), .int .i64 (0)]) 1 [(0, .t 87)], none⟩,
  ⟨some 89, .app 3 24 (.t 76) (.t 88), none⟩,
  ⟨some 90, .fad 1 (.t 13), none⟩,
  ⟨none, .store 1 (.t 90) (.t 89), none⟩]
def c_graph_Union_r17 (F : String → Nat) : List LI := [⟨some 91, .bin .add (.t 71) (.k (.int .i64 (1))), none⟩,
  ⟨some 71, .mov (.t 91), none⟩]
def c_graph_Union_b18 (F : String → Nat) : LC := (.seq (.reg (c_graph_Union_r14 F) [3, 4, 5, 6, 11, 12, 13, 69, 70, 71, 72]) (.seq (.cond (.t 72) .skip (.exit 2)) (.seq (.block 3 (.seq (.reg (c_graph_Union_r15 F) [3, 4, 5, 6, 11, 12, 13, 15, 69, 70, 71]) (.reg (c_graph_Union_r16 F) [3, 4, 5, 6, 11, 12, 13, 69, 70, 71]))) (.reg (c_graph_Union_r17 F) [3, 4, 5, 6, 11, 12, 13, 69, 70, 71]))))
def c_graph_Union_r19 (F : String → Nat) : List LI := [⟨some 92, .mov (.t 11), none⟩,
  ⟨some 93, .call (F "graph.numbers") [.k (.int .i64 (0)), .t 92] [], none⟩,
  ⟨some 94, .mov (.t 12), none⟩,
  ⟨some 95, .call (F "graph.numbers") [.k (.int .i64 (0)), .t 94] [], none⟩,
  ⟨some 96, .build [.nl 1, .nl 1] [(0, 1, .t 93), (1, 1, .t 95)], none⟩,
  ⟨some 16, .alloc [.nl 1, .nl 1], none⟩,
  ⟨none, .store 2 (.t 16) (.t 96), none⟩]
def c_graph_Union_r20 (F : String → Nat) : List LI := [⟨some 97, .mov (.t 11), none⟩,
  ⟨some 98, .fad 0 (.t 3), none⟩,
  ⟨some 99, .load false 1 (.t 98), none⟩,
  ⟨some 100, .len (.t 99), none⟩,
  ⟨some 101, .call (F "graph.numbers") [.t 97, .t 100] [], none⟩,
  ⟨some 102, .mov (.t 12), none⟩,
  ⟨some 103, .fad 1 (.t 3), none⟩,
  ⟨some 104, .load false 1 (.t 103), none⟩,
  ⟨some 105, .len (.t 104), none⟩,
  ⟨some 106, .call (F "graph.numbers") [.t 102, .t 105] [], none⟩,
  ⟨some 107, .build [.nl 1, .nl 1] [(0, 1, .t 101), (1, 1, .t 106)], none⟩,
  ⟨some 17, .alloc [.nl 1, .nl 1], none⟩,
  ⟨none, .store 2 (.t 17) (.t 107), none⟩]
def c_graph_Union_r21 (F : String → Nat) : List LI := [⟨some 108, .load true 2 (.t 13), none⟩,
  ⟨some 109, .load true 2 (.t 16), none⟩,
  ⟨some 110, .load true 2 (.t 17), none⟩,
  ⟨none, .store 2 (.t 4) (.t 108), none⟩,
  ⟨none, .store 2 (.t 5) (.t 109), none⟩,
  ⟨none, .store 2 (.t 6) (.t 110), none⟩,
  ⟨some 7, .mov (.k (.int .i64 (0))), none⟩]
def c_graph_Union (F : String → Nat) : LC := (.seq (.reg (c_graph_Union_r0 F) [2, 3, 4, 5, 6]) (.seq (.seq (.reg (c_graph_Union_r1 F) [2, 3, 4, 5, 6, 20, 21, 22]) (.block 0 (.loop [2, 3, 4, 5, 6, 20, 21, 22] (c_graph_Union_b8 F)))) (.seq (.dreg [] (c_graph_Union_r9 F) [2, 3, 4, 5, 6, 11, 12]) (.seq (.seq (.reg (c_graph_Union_r10 F) [2, 3, 4, 5, 6, 11, 12, 54]) (.cond (.t 54) (.seq (.reg (c_graph_Union_r11 F) [4, 5, 6, 7]) .ret) .skip)) (.seq (.dreg [(4, none, [], true), (5, none, [], true), (7, (some 64), [4, 5], false)] (c_graph_Union_r12 F) [3, 4, 5, 6, 11, 12, 13]) (.seq (.seq (.reg (c_graph_Union_r13 F) [3, 4, 5, 6, 11, 12, 13, 69, 70, 71]) (.block 2 (.loop [3, 4, 5, 6, 11, 12, 13, 69, 70, 71] (c_graph_Union_b18 F)))) (.seq (.reg (c_graph_Union_r19 F) [3, 4, 5, 6, 11, 12, 13, 16]) (.seq (.dreg [(4, none, [], true), (7, (some 64), [4], false)] (c_graph_Union_r20 F) [4, 5, 6, 13, 16, 17]) (.seq (.dreg [(1, none, [], true), (2, none, [], true), (3, none, [1, 2], false), (4, none, [2], false)] (c_graph_Union_r21 F) [4, 5, 6, 7]) .ret)))))))))
def h_graph_Union : Hints := ⟨[], fun _ => [], tab [(0, [2, 3, 4, 5, 6]), (1, [2, 3, 4, 5, 6, 20, 21, 22]), (2, [2, 3, 4, 5, 6, 20, 21, 22, 23]), (3, [2, 3, 4, 5, 6, 9, 20, 21, 22]), (4, [2, 3, 4, 5, 6, 10, 20, 21, 22]), (5, [2, 3, 4, 5, 6, 10, 20, 21, 22, 29]), (6, [4, 5, 6, 7]), (7, [2, 3, 4, 5, 6, 20, 21, 22]), (8, [2, 3, 4, 5, 6, 11, 12]), (9, [2, 3, 4, 5, 6, 11, 12, 54]), (10, [4, 5, 6, 7]), (11, [3, 4, 5, 6, 11, 12, 13]), (12, [3, 4, 5, 6, 11, 12, 13, 69, 70, 71]), (13, [3, 4, 5, 6, 11, 12, 13, 69, 70, 71, 72]), (14, [3, 4, 5, 6, 11, 12, 13, 15, 69, 70, 71]), (15, [3, 4, 5, 6, 11, 12, 13, 69, 70, 71]), (16, [3, 4, 5, 6, 11, 12, 13, 69, 70, 71]), (17, [3, 4, 5, 6, 11, 12, 13, 16]), (18, [4, 5, 6, 13, 16, 17]), (19, [4, 5, 6, 7])], tab [(2, [2, 3, 4, 5, 6, 20, 21, 22]), (13, [3, 4, 5, 6, 11, 12, 13, 69, 70, 71])]⟩

attribute [go_sem] c_slices_Grow_I_r0 c_slices_Grow_I_r1 c_slices_Grow_I_r2 c_slices_Grow_I_r3 c_slices_Grow_I_r4 c_slices_Grow_I_r5 c_slices_Grow_I_r6 c_slices_Grow_I c_slices_Concat_I_r0 c_slices_Concat_I_r1 c_slices_Concat_I_r2 c_slices_Concat_I_r3 c_slices_Concat_I_r4 c_slices_Concat_I_r5 c_slices_Concat_I_r6 c_slices_Concat_I_r7 c_slices_Concat_I_r8 c_slices_Concat_I_r10 c_slices_Concat_I_r11 c_slices_Concat_I_r12 c_slices_Concat_I_r13 c_slices_Concat_I_r14 c_slices_Concat_I_r15 c_slices_Concat_I_r17 c_slices_Concat_I c_graph_Union_r0 c_graph_Union_r1 c_graph_Union_r2 c_graph_Union_r3 c_graph_Union_r4 c_graph_Union_r5 c_graph_Union_r6 c_graph_Union_r7 c_graph_Union_r9 c_graph_Union_r10 c_graph_Union_r11 c_graph_Union_r12 c_graph_Union_r13 c_graph_Union_r14 c_graph_Union_r15 c_graph_Union_r16 c_graph_Union_r17 c_graph_Union_r19 c_graph_Union_r20 c_graph_Union_r21 c_graph_Union
def shE1 (n : Int) (x : E) : E := ⟨x.t, x.f + n, x.o + n⟩
def uniG (a b : G) : G × Mo × Mo × Int :=
  if validG a ≠ 0 then (⟨[], []⟩, ⟨[], []⟩, ⟨[], []⟩, validG a) else if validG b ≠ 0 then (⟨[], []⟩, ⟨[], []⟩, ⟨[], []⟩, validG b)
  else if 40 < a.n.length + b.n.length ∨ 80 < a.e.length + b.e.length then (⟨[], []⟩, ⟨[], []⟩, ⟨[], []⟩, 3)
  else (⟨a.n ++ b.n, a.e ++ b.e.map (shE1 a.n.length)⟩, ⟨nums 0 a.n.length, nums 0 a.e.length⟩, ⟨nums a.n.length b.n.length, nums a.e.length b.e.length⟩, 0)
def uniD (r : G × Mo × Mo × Int) : D := .tup [gA r.1, mA r.2.1, mA r.2.2.1, .int .i64 r.2.2.2]
section
variable (P : Program) (F : String → Nat)
def K_graph_Union : Prop := ∀ a b : G, FC P (F "graph.Union") [gD a, gD b] (uniD (uniG a b)) []
def K_slices_Grow_I : Prop := ∀ n : Nat, n ≤ 10000000000000 → FC P (F "slices.Grow.I") [.nl 1, .int .i64 n] (.arr 1 []) []
def K_slices_Concat_I : Prop := ∀ a b : List Int, a.length ≤ 1000000000000 → b.length ≤ 1000000000000 → FC P (F "slices.Concat.I") [.lst 1 [.lst 1 (ints a), .lst 1 (ints b)]] (.arr 1 (ints (a ++ b))) []
end
section
variable {P : Program} {F : String → Nat} {α : Type}
def catL (a b : List Int) : Nat → List Int
  | 0 => []
  | 1 => a
  | _ => a ++ b
theorem FC.nl {P : Program} {f a b : Nat} {args : List D} {r : D} {outs : List (Nat × D)} (h : FC P f (.nl a :: args) r outs) : FC P f (.nl b :: args) r outs := by
  unfold FC at *
  simp only [DRs, DR] at *
  exact h
theorem w_slices_Grow_I (n : Nat) (hn : n ≤ 10000000000000) : W P (c_slices_Grow_I F) (Done [.t 4] [] (.arr 1 []) []) (init [.nl 1, .int .i64 n]) := by
  refine W_of ?_
  simp (config := { maxSteps := 1000000 }) (disch := first | omega | (simp only [go_sem]; omega)) only [go_sem, ↓reduceIte]
  refine bran_dec (fun c => ?_) (fun c => ?_)
  · omega
  · simp (config := { maxSteps := 1000000 }) (disch := first | omega | (simp only [go_sem]; omega)) only [go_sem, ↓reduceIte]
    refine bran_dec (fun c => ?_) (fun c => ?_)
    · simp (config := { maxSteps := 1000000 }) (disch := first | omega | (simp only [go_sem]; omega)) only [go_sem, ↓reduceIte]
      rw [if_neg (by omega)]
      rfl
    · simp (config := { maxSteps := 1000000 }) (disch := first | omega | (simp only [go_sem]; omega)) only [go_sem, ↓reduceIte]
theorem w_slices_Concat_I (hg : K_slices_Grow_I P F) (a b : List Int) (ha : a.length ≤ 1000000000000) (hb : b.length ≤ 1000000000000) : W P (c_slices_Concat_I F) (Done [.t 2] [] (.arr 1 (ints (a ++ b))) []) (init [.lst 1 [.lst 1 (ints a), .lst 1 (ints b)]]) := by
  refine W_of ?_
  simp (config := { maxSteps := 1000000 }) (disch := first | omega | (simp only [go_sem]; omega)) only [go_sem, ↓reduceIte]
  refine W_loop (fun i : Nat => ⟨[(0, D.lst 1 [D.lst 1 (ints a), D.lst 1 (ints b)]), (3, D.int IntKind.i64 (catL a b i).length), (9, D.lst 1 [D.lst 1 (ints a), D.lst 1 (ints b)]), (10, D.int IntKind.i64 (2 : Nat)), (11, D.int IntKind.i64 i)], [], 0⟩) (fun i => i ≤ 2) (fun i => 2 - i) 0 ?_ ?_ ?_
  · simp (config := { maxSteps := 1000000 }) (disch := first | omega | (simp only [go_sem]; omega)) only [go_sem, ↓reduceIte]
    rfl
  · omega
  · intro i hi
    have h3 : i = 0 ∨ i = 1 ∨ i = 2 := by omega
    rcases h3 with rfl | rfl | rfl
    · simp (config := { maxSteps := 1000000 }) (disch := first | omega | (simp only [go_sem]; omega)) only [go_sem, ↓reduceIte, c_slices_Concat_I_b9, catL]
      refine bran_dec (fun c => ?_) (fun c => absurd c (by omega))
      simp (config := { maxSteps := 1000000 }) (disch := first | omega | (simp only [go_sem]; omega)) only [go_sem, ↓reduceIte, catL]
      refine bran_dec (fun c => by omega) (fun c => ?_)
      simp (config := { maxSteps := 1000000 }) (disch := first | omega | (simp only [go_sem]; omega)) only [go_sem, ↓reduceIte]
      exact ⟨1, by simp [catL], by omega, by omega⟩
    · simp (config := { maxSteps := 1000000 }) (disch := first | omega | (simp only [go_sem]; omega)) only [go_sem, ↓reduceIte, c_slices_Concat_I_b9, catL]
      refine bran_dec (fun c => ?_) (fun c => absurd c (by omega))
      simp (config := { maxSteps := 1000000 }) (disch := first | omega | (simp only [go_sem]; omega)) only [go_sem, ↓reduceIte, catL]
      refine bran_dec (fun c => by omega) (fun c => ?_)
      simp (config := { maxSteps := 1000000 }) (disch := first | omega | (simp only [go_sem]; omega)) only [go_sem, ↓reduceIte]
      exact ⟨2, by simp [catL], by omega, by omega⟩
    · simp (config := { maxSteps := 1000000 }) (disch := first | omega | (simp only [go_sem]; omega)) only [go_sem, ↓reduceIte, c_slices_Concat_I_b9]
      refine bran_dec (fun c => absurd c (by omega)) (fun c => ?_)
      simp (config := { maxSteps := 1000000 }) (disch := first | omega | (simp only [go_sem]; omega)) only [go_sem, ↓reduceIte]
      have r := FC.nl (b := 0) (hg (catL a b 2).length (by simp [catL]; omega))
      refine call_by r ?_
      simp (config := { maxSteps := 1000000 }) (disch := first | omega | (simp only [go_sem]; omega)) only [go_sem, ↓reduceIte]
      refine W_loop (fun i : Nat => ⟨[(6, D.sl 0 0 (catL a b i).length), (25, D.lst 1 [D.lst 1 (ints a), D.lst 1 (ints b)]), (26, D.int IntKind.i64 (2 : Nat)), (27, D.int IntKind.i64 i)], [(0, Ent.arr 1 (ints (catL a b i)))], 1⟩) (fun i => i ≤ 2) (fun i => 2 - i) 0 ?_ ?_ ?_
      · simp (config := { maxSteps := 1000000 }) (disch := first | omega | (simp only [go_sem]; omega)) only [go_sem, ↓reduceIte]
        rfl
      · omega
      · intro i hi
        have h3 : i = 0 ∨ i = 1 ∨ i = 2 := by omega
        rcases h3 with rfl | rfl | rfl
        · simp (config := { maxSteps := 1000000 }) (disch := first | omega | (simp only [go_sem]; omega)) only [go_sem, ↓reduceIte, c_slices_Concat_I_b16, catL]
          refine bran_dec (fun c => ?_) (fun c => absurd c (by omega))
          simp (config := { maxSteps := 1000000 }) (disch := first | omega | (simp only [go_sem]; omega)) only [go_sem, ↓reduceIte, catL]
          exact ⟨1, by simp, by omega, by omega⟩
        · simp (config := { maxSteps := 1000000 }) (disch := first | omega | (simp only [go_sem]; omega)) only [go_sem, ↓reduceIte, c_slices_Concat_I_b16, catL]
          refine bran_dec (fun c => ?_) (fun c => absurd c (by omega))
          simp (config := { maxSteps := 1000000 }) (disch := first | omega | (simp only [go_sem]; omega)) only [go_sem, ↓reduceIte, catL]
          exact ⟨2, by simp, by omega, by omega⟩
        · simp (config := { maxSteps := 1000000 }) (disch := first | omega | (simp only [go_sem]; omega)) only [go_sem, ↓reduceIte, c_slices_Concat_I_b16, catL]
          refine bran_dec (fun c => absurd c (by omega)) (fun c => ?_)
          simp (config := { maxSteps := 1000000 }) (disch := first | omega | (simp only [go_sem]; omega)) only [go_sem, ↓reduceIte, catL]
theorem w_graph_Union (hv : K_graph_Valid P F) (hc : K_slices_Concat_I P F) (hcl : K_slices_Clone_E P F) (hn : K_graph_numbers P F) (a b : G) : W P (c_graph_Union F) (Done [.c 4 true 2, .c 5 true 2, .c 6 true 2, .t 7] [] (uniD (uniG a b)) []) (init [gD a, gD b]) := by
  refine W_of ?_
  obtain ⟨an, ae⟩ := a
  obtain ⟨bn, be⟩ := b
  simp (config := { maxSteps := 1000000 }) (disch := first | omega | (simp only [go_sem]; omega)) only [go_sem, ↓reduceIte, gD]
  refine W_loop (fun i : Nat => ⟨[(2, D.pt 0 0), (3, D.pt 1 0), (4, D.pt 4 0), (5, D.pt 7 0), (6, D.pt 10 0), (20, D.sl 11 0 2), (21, D.int IntKind.i64 (2 : Nat)), (22, D.int IntKind.i64 i)],
      [(0, Ent.box [D.lst 1 (ints an), D.lst 3 (eds ae)]), (1, Ent.box [D.lst 1 (ints bn), D.lst 3 (eds be)]),
        (2, Ent.arr 1 []), (3, Ent.arr 3 []), (4, Ent.box [D.sl 2 0 0, D.sl 3 0 0]), (5, Ent.arr 1 []),
        (6, Ent.arr 1 []), (7, Ent.box [D.sl 5 0 0, D.sl 6 0 0]), (8, Ent.arr 1 []), (9, Ent.arr 1 []),
        (10, Ent.box [D.sl 8 0 0, D.sl 9 0 0]),
        (11, Ent.arr 2 [D.agg [D.lst 1 (ints an), D.lst 3 (eds ae)], D.agg [D.lst 1 (ints bn), D.lst 3 (eds be)]])], 12⟩)
    (fun i => i ≤ 2 ∧ (1 ≤ i → validG ⟨an, ae⟩ = 0) ∧ (2 ≤ i → validG ⟨bn, be⟩ = 0)) (fun i => 2 - i) 0 ?_ ?_ ?_
  · simp (config := { maxSteps := 1000000 }) (disch := first | omega | (simp only [go_sem]; omega)) only [go_sem, ↓reduceIte]
    rfl
  · simp
  · rintro i ⟨hi, p1, p2⟩
    have h3 : i = 0 ∨ i = 1 ∨ i = 2 := by omega
    rcases h3 with rfl | rfl | rfl
    · simp (config := { maxSteps := 1000000 }) (disch := first | omega | (simp only [go_sem]; omega)) only [go_sem, ↓reduceIte, c_graph_Union_b8]
      refine bran_dec (fun c => ?_) (fun c => absurd c (by omega))
      simp (config := { maxSteps := 1000000 }) (disch := first | omega | (simp only [go_sem]; omega)) only [go_sem, ↓reduceIte]
      refine call_by (hv ⟨an, ae⟩) ?_
      simp (config := { maxSteps := 1000000 }) (disch := first | omega | (simp only [go_sem]; omega)) only [go_sem, ↓reduceIte]
      refine bran_ndec (fun c1 => ?_) (fun c1 => ?_)
      · simp (config := { maxSteps := 1000000 }) (disch := first | omega | (simp only [go_sem]; omega)) only [go_sem, ↓reduceIte]
        simp [uniG, c1, uniD, gA, mA, ints, eds]
      · simp (config := { maxSteps := 1000000 }) (disch := first | omega | (simp only [go_sem]; omega)) only [go_sem, ↓reduceIte]
        exact ⟨1, by simp, ⟨by omega, fun _ => c1, by omega⟩, by omega⟩
    · have c1 := p1 (by omega)
      simp (config := { maxSteps := 1000000 }) (disch := first | omega | (simp only [go_sem]; omega)) only [go_sem, ↓reduceIte, c_graph_Union_b8]
      refine bran_dec (fun c => ?_) (fun c => absurd c (by omega))
      simp (config := { maxSteps := 1000000 }) (disch := first | omega | (simp only [go_sem]; omega)) only [go_sem, ↓reduceIte]
      refine call_by (hv ⟨bn, be⟩) ?_
      simp (config := { maxSteps := 1000000 }) (disch := first | omega | (simp only [go_sem]; omega)) only [go_sem, ↓reduceIte]
      refine bran_ndec (fun c2 => ?_) (fun c2 => ?_)
      · simp (config := { maxSteps := 1000000 }) (disch := first | omega | (simp only [go_sem]; omega)) only [go_sem, ↓reduceIte]
        simp [uniG, c1, c2, uniD, gA, mA, ints, eds]
      · simp (config := { maxSteps := 1000000 }) (disch := first | omega | (simp only [go_sem]; omega)) only [go_sem, ↓reduceIte]
        exact ⟨2, by simp, ⟨by omega, fun _ => c1, fun _ => c2⟩, by omega⟩
    · have c1 := p1 (by omega)
      have c2 := p2 (by omega)
      obtain ⟨v1, v2, v3, v4⟩ := valid_spec c1
      simp only at v1 v2 v3 v4
      obtain ⟨u1, u2, u3, u4⟩ := valid_spec c2
      simp only at u1 u2 u3 u4
      simp (config := { maxSteps := 1000000 }) (disch := first | omega | (simp only [go_sem]; omega)) only [go_sem, ↓reduceIte, c_graph_Union_b8]
      refine bran_dec (fun c => absurd c (by omega)) (fun c => ?_)
      simp (config := { maxSteps := 1000000 }) (disch := first | omega | (simp only [go_sem]; omega)) only [go_sem, ↓reduceIte]
      have big : 40 < an.length + bn.length ∨ 80 < ae.length + be.length → uniG ⟨an, ae⟩ ⟨bn, be⟩ = (⟨[], []⟩, ⟨[], []⟩, ⟨[], []⟩, 3) := fun h => by
        simp only [uniG, c1, c2, ne_eq, not_true_eq_false, if_false, if_pos h]
      refine bran_dec (fun c3 => ?_) (fun c3 => ?_)
      · simp (config := { maxSteps := 1000000 }) (disch := first | omega | (simp only [go_sem]; omega)) only [go_sem, ↓reduceIte, c3]
        rw [big (by omega)]
        simp [uniD, gA, mA, ints, eds]
      · simp (config := { maxSteps := 1000000 }) (disch := first | omega | (simp only [go_sem]; omega)) only [go_sem, ↓reduceIte, c3]
        refine bran_dec (fun c4 => ?_) (fun c4 => ?_)
        · simp (config := { maxSteps := 1000000 }) (disch := first | omega | (simp only [go_sem]; omega)) only [go_sem, ↓reduceIte]
          rw [big (by omega)]
          simp [uniD, gA, mA, ints, eds]
        · have hg : uniG ⟨an, ae⟩ ⟨bn, be⟩ = (⟨an ++ bn, ae ++ be.map (shE1 an.length)⟩, ⟨nums 0 an.length, nums 0 ae.length⟩, ⟨nums an.length bn.length, nums ae.length be.length⟩, 0) := by
            simp only [uniG, c1, c2, ne_eq, not_true_eq_false, if_false]
            rw [if_neg (by omega)]
          simp (config := { maxSteps := 1000000 }) (disch := first | omega | (simp only [go_sem]; omega)) only [go_sem, ↓reduceIte]
          refine call_by (hc an bn (by omega) (by omega)) ?_
          simp (config := { maxSteps := 1000000 }) (disch := first | omega | (simp only [go_sem]; omega)) only [go_sem, ↓reduceIte]
          refine call_by (hcl ae (by omega)) ?_
          simp (config := { maxSteps := 1000000 }) (disch := first | omega | (simp only [go_sem]; omega)) only [go_sem, ↓reduceIte]
          refine W_loop (fun i : Nat => ⟨[(3, D.pt 0 0), (4, D.pt 3 0), (5, D.pt 6 0), (6, D.pt 9 0), (11, D.int IntKind.i64 an.length),
              (12, D.int IntKind.i64 ae.length), (13, D.pt 12 0), (69, D.lst 3 (eds be)), (70, D.int IntKind.i64 be.length), (71, D.int IntKind.i64 i)],
            [(0, Ent.box [D.lst 1 (ints bn), D.lst 3 (eds be)]), (1, Ent.arr 1 []), (2, Ent.arr 3 []), (3, Ent.box [D.sl 1 0 0, D.sl 2 0 0]), (4, Ent.arr 1 []), (5, Ent.arr 1 []), (6, Ent.box [D.sl 4 0 0, D.sl 5 0 0]),
              (7, Ent.arr 1 []), (8, Ent.arr 1 []), (9, Ent.box [D.sl 7 0 0, D.sl 8 0 0]), (10, Ent.arr 1 (ints (an ++ bn))), (11, Ent.arr 3 (eds (ae ++ (be.take i).map (shE1 an.length)))),
              (12, Ent.box [D.sl 10 0 (an.length + bn.length), D.sl 11 0 (ae.length + i)])], 13⟩) (fun i => i ≤ be.length) (fun i => be.length - i) 0 ?_ ?_ ?_
          · simp (config := { maxSteps := 1000000 }) (disch := first | omega | (simp only [go_sem]; omega)) only [go_sem, ↓reduceIte]
            simp
          · omega
          · intro i hi
            have el : (ae ++ (be.take i).map (shE1 an.length)).length = ae.length + i := by simp; omega
            simp (config := { maxSteps := 1000000 }) (disch := first | omega | (simp only [go_sem]; omega)) only [go_sem, ↓reduceIte, c_graph_Union_b18]
            refine bran_dec (fun c => ?_) (fun c => ?_)
            · have hf := fits_spec (u4 _ (gt_mem (by omega) c))
              simp (config := { maxSteps := 1000000 }) (disch := first | omega | (simp only [go_sem]; omega)) only [go_sem, ↓reduceIte, el]
              exact ⟨i + 1, by rw [take_gt (by omega)]; simp [shE1, Nat.add_assoc], by omega, by omega⟩
            · obtain rfl : i = be.length := by omega
              simp (config := { maxSteps := 1000000 }) (disch := first | omega | (simp only [go_sem]; omega)) only [go_sem, ↓reduceIte, el]
              refine call_by (hn _ _ (by omega) (by omega) (by omega)) ?_
              simp (config := { maxSteps := 1000000 }) (disch := first | omega | (simp only [go_sem]; omega)) only [go_sem, ↓reduceIte, nums_len]
              refine call_by (hn _ _ (by omega) (by omega) (by omega)) ?_
              simp (config := { maxSteps := 1000000 }) (disch := first | omega | (simp only [go_sem]; omega)) only [go_sem, ↓reduceIte, nums_len]
              refine call_by (hn _ _ (by omega) (by omega) (by omega)) ?_
              simp (config := { maxSteps := 1000000 }) (disch := first | omega | (simp only [go_sem]; omega)) only [go_sem, ↓reduceIte, nums_len]
              refine call_by (hn _ _ (by omega) (by omega) (by omega)) ?_
              simp (config := { maxSteps := 1000000 }) (disch := first | omega | (simp only [go_sem]; omega)) only [go_sem, ↓reduceIte, nums_len, List.length_map]
              rw [hg]
              simp [uniD, gA, mA]
end
end Go.Am
