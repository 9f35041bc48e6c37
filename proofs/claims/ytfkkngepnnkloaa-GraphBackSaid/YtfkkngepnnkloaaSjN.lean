/- Reorder. -/
import Derived.Test.YtfkkngepnnkloaaSjM
namespace Go.Am
open Go
set_option linter.unusedVariables false
set_option linter.unusedSimpArgs false
/- graph.permutation -/
def c_graph_permutation_r0 (F : String → Nat) : List LI := [⟨some 3, .bx (.t 1), none⟩,
  ⟨some 4, .mov (.k (.int .i64 (0))), none⟩]
def c_graph_permutation_r1 (F : String → Nat) : List LI := [⟨some 7, .mov (.t 0), none⟩,
  ⟨some 8, .len (.t 7), none⟩,
  ⟨some 9, .load false 1 (.t 3), none⟩,
  ⟨some 10, .bin .neq (.t 8) (.t 9), none⟩]
def c_graph_permutation_r2 (F : String → Nat) : List LI := [⟨some 4, .mov (.k (.int .i64 (20))), none⟩]
def c_graph_permutation_r3 (F : String → Nat) : List LI := [⟨some 11, .mov (.t 0), none⟩,
  ⟨some 12, .mkf (F "graph.permutation.1") [.t 3], none⟩,
  ⟨some 13, .call (F "slices.ContainsFunc.I") [.t 11, .t 12] [], none⟩]
def c_graph_permutation_r4 (F : String → Nat) : List LI := [⟨some 4, .mov (.k (.int .i64 (6))), none⟩]
def c_graph_permutation_r5 (F : String → Nat) : List LI := [⟨some 14, .mov (.t 0), none⟩,
  ⟨some 15, .len (.t 14), none⟩,
  ⟨some 16, .mov (.k (.int .i64 (0))), none⟩]
def c_graph_permutation_r6 (F : String → Nat) : List LI := [⟨some 17, .bin .lss (.t 16) (.t 15), none⟩]
def c_graph_permutation_r7 (F : String → Nat) : List LI := [⟨some 18, .mov (.t 16), none⟩,
  ⟨some 19, .iad 1 (.t 14) (.t 16), none⟩,
  ⟨some 20, .load false 1 (.t 19), none⟩,
  ⟨some 5, .mov (.t 18), none⟩,
  ⟨some 6, .mov (.t 20), none⟩]
def c_graph_permutation_r8 (F : String → Nat) : List LI := [⟨some 21, .mov (.t 0), none⟩,
  ⟨some 22, .mov (.t 5), none⟩,
  ⟨some 23, .slc 1 (.t 21) none (some (.t 22)), none⟩,
  ⟨some 24, .mov (.t 6), none⟩,
  ⟨some 25, .call (F "slices.Contains.I") [.t 23, .t 24] [], none⟩]
def c_graph_permutation_r9 (F : String → Nat) : List LI := [⟨some 4, .mov (.k (.int .i64 (5))), none⟩]
def c_graph_permutation_r10 (F : String → Nat) : List LI := [⟨some 26, .bin .add (.t 16) (.k (.int .i64 (1))), none⟩,
  ⟨some 16, .mov (.t 26), none⟩]
def c_graph_permutation_b11 (F : String → Nat) : LC := (.seq (.reg (c_graph_permutation_r6 F) [0, 14, 15, 16, 17]) (.seq (.cond (.t 17) .skip (.exit 0)) (.seq (.block 1 (.seq (.reg (c_graph_permutation_r7 F) [0, 5, 6, 14, 15, 16]) (.seq (.reg (c_graph_permutation_r8 F) [0, 14, 15, 16, 25]) (.cond (.t 25) (.seq (.reg (c_graph_permutation_r9 F) [4]) .ret) .skip)))) (.reg (c_graph_permutation_r10 F) [0, 14, 15, 16]))))
def c_graph_permutation_r12 (F : String → Nat) : List LI := [⟨some 4, .mov (.k (.int .i64 (0))), none⟩]
def c_graph_permutation (F : String → Nat) : LC := (.seq (.reg (c_graph_permutation_r0 F) [0, 3]) (.seq (.seq (.reg (c_graph_permutation_r1 F) [0, 3, 10]) (.cond (.t 10) (.seq (.reg (c_graph_permutation_r2 F) [4]) .ret) .skip)) (.seq (.seq (.reg (c_graph_permutation_r3 F) [0, 13]) (.cond (.t 13) (.seq (.reg (c_graph_permutation_r4 F) [4]) .ret) .skip)) (.seq (.seq (.reg (c_graph_permutation_r5 F) [0, 14, 15, 16]) (.block 0 (.loop [0, 14, 15, 16] (c_graph_permutation_b11 F)))) (.seq (.reg (c_graph_permutation_r12 F) [4]) .ret)))))
def h_graph_permutation : Hints := ⟨[], fun _ => [], tab [(0, [0, 3]), (1, [0, 3, 10]), (2, [4]), (3, [0, 13]), (4, [4]), (5, [0, 14, 15, 16]), (6, [0, 14, 15, 16, 17]), (7, [0, 5, 6, 14, 15, 16]), (8, [0, 14, 15, 16, 25]), (9, [4]), (10, [0, 14, 15, 16]), (11, [4])], tab [(6, [0, 14, 15, 16])]⟩

/- graph.permutation.1 -/
def c_graph_permutation_1_r0 (F : String → Nat) : List LI := [⟨some 3, .mov (.k (.bool false)), none⟩]
def c_graph_permutation_1_r1 (F : String → Nat) : List LI := [⟨some 4, .mov (.t 0), none⟩,
  ⟨some 5, .load false 1 (.t 1), none⟩,
  ⟨some 6, .bin .sub (.t 5) (.k (.int .i64 (1))), none⟩,
  ⟨some 7, .call (F "graph.within") [.t 4, .t 6] [], none⟩,
  ⟨some 8, .not (.t 7), none⟩,
  ⟨some 3, .mov (.t 8), none⟩]
def c_graph_permutation_1 (F : String → Nat) : LC := (.seq (.reg (c_graph_permutation_1_r0 F) [0, 1]) (.seq (.reg (c_graph_permutation_1_r1 F) [3]) .ret))
def h_graph_permutation_1 : Hints := ⟨[], fun _ => [], tab [(0, [0, 1]), (1, [3])], tab []⟩

/- graph.Reorder -/
def c_graph_Reorder_r0 (F : String → Nat) : List LI := [⟨some 2, .bx (.t 0), none⟩,
  ⟨some 3, .bx (.t 1), none⟩,
  ⟨some 4, .alloc [.nl 1, .nl 3], none⟩,
  ⟨some 5, .mov (.k (.int .i64 (0))), none⟩]
def c_graph_Reorder_r1 (F : String → Nat) : List LI := [⟨some 14, .load true 2 (.t 2), none⟩,
  ⟨some 15, .call (F "graph.Valid") [.t 14] [], none⟩,
  ⟨some 6, .mov (.t 15), none⟩]
def c_graph_Reorder_r2 (F : String → Nat) : List LI := [⟨some 16, .mov (.t 6), none⟩,
  ⟨some 17, .bin .neq (.t 16) (.k (.int .i64 (0))), none⟩]
def c_graph_Reorder_r3 (F : String → Nat) : List LI := [⟨some 18, .build [.nl 1, .nl 3] [], none⟩,
  ⟨some 19, .mov (.t 6), none⟩,
  ⟨none, .store 2 (.t 4) (.t 18), none⟩,
  ⟨some 5, .mov (.t 19), none⟩]
def c_graph_Reorder_r4 (F : String → Nat) : List LI := [⟨some 20, .fad 0 (.t 3), none⟩,
  ⟨some 21, .load false 1 (.t 20), none⟩,
  ⟨some 22, .len (.t 21), none⟩,
  ⟨some 23, .fad 0 (.t 2), none⟩,
  ⟨some 24, .load false 1 (.t 23), none⟩,
  ⟨some 25, .len (.t 24), none⟩,
  ⟨some 26, .bin .neq (.t 22) (.t 25), none⟩,
  ⟨some 27, .mov (.t 26), none⟩,
  ⟨some 28, .fad 1 (.t 3), some (27, false)⟩,
  ⟨some 29, .load false 1 (.t 28), some (27, false)⟩,
  ⟨some 30, .len (.t 29), some (27, false)⟩,
  ⟨some 31, .fad 1 (.t 2), some (27, false)⟩,
  ⟨some 32, .load false 1 (.t 31), some (27, false)⟩,
  ⟨some 33, .len (.t 32), some (27, false)⟩,
  ⟨some 34, .bin .neq (.t 30) (.t 33), some (27, false)⟩,
  ⟨some 35, .pick (.t 27) (.k (.bool true)) (.t 34), none⟩]
def c_graph_Reorder_r5 (F : String → Nat) : List LI := [⟨some 36, .build [.nl 1, .nl 3] [], none⟩,
  ⟨none, .store 2 (.t 4) (.t 36), none⟩,
  ⟨some 5, .mov (.k (.int .i64 (20))), none⟩]
def c_graph_Reorder_r6 (F : String → Nat) : List LI := [⟨some 37, .fad 0 (.t 3), none⟩,
  ⟨some 38, .load false 1 (.t 37), none⟩,
  ⟨some 39, .fad 0 (.t 2), none⟩,
  ⟨some 40, .load false 1 (.t 39), none⟩,
  ⟨some 41, .len (.t 40), none⟩,
  ⟨some 42, .call (F "graph.permutation") [.t 38, .t 41] [], none⟩,
  ⟨some 7, .mov (.t 42), none⟩]
def c_graph_Reorder_r7 (F : String → Nat) : List LI := [⟨some 43, .mov (.t 7), none⟩,
  ⟨some 44, .bin .neq (.t 43) (.k (.int .i64 (0))), none⟩]
def c_graph_Reorder_r8 (F : String → Nat) : List LI := [⟨some 45, .build [.nl 1, .nl 3] [], none⟩,
  ⟨some 46, .mov (.t 7), none⟩,
  ⟨none, .store 2 (.t 4) (.t 45), none⟩,
  ⟨some 5, .mov (.t 46), none⟩]
def c_graph_Reorder_r9 (F : String → Nat) : List LI := [⟨some 47, .fad 1 (.t 3), none⟩,
  ⟨some 48, .load false 1 (.t 47), none⟩,
  ⟨some 49, .fad 1 (.t 2), none⟩,
  ⟨some 50, .load false 1 (.t 49), none⟩,
  ⟨some 51, .len (.t 50), none⟩,
  ⟨some 52, .call (F "graph.permutation") [.t 48, .t 51] [], none⟩,
  ⟨some 8, .mov (.t 52), none⟩]
def c_graph_Reorder_r10 (F : String → Nat) : List LI := [⟨some 53, .mov (.t 8), none⟩,
  ⟨some 54, .bin .neq (.t 53) (.k (.int .i64 (0))), none⟩]
def c_graph_Reorder_r11 (F : String → Nat) : List LI := [⟨some 55, .build [.nl 1, .nl 3] [], none⟩,
  ⟨some 56, .mov (.t 8), none⟩,
  ⟨none, .store 2 (.t 4) (.t 55), none⟩,
  ⟨some 5, .mov (.t 56), none⟩]
def c_graph_Reorder_r12 (F : String → Nat) : List LI := [⟨some 57, .fad 0 (.t 2), none⟩,
  ⟨some 58, .load false 1 (.t 57), none⟩,
  ⟨some 59, .len (.t 58), none⟩,
  ⟨some 60, .makeSl 1 8 (.int .i64 (0)) (.t 59), none⟩,
  ⟨some 61, .fad 1 (.t 2), none⟩,
  ⟨some 62, .load false 1 (.t 61), none⟩,
  ⟨some 63, .len (.t 62), none⟩,
  ⟨some 64, .makeSl 3 24 (.agg [.int .i64 (0), .int .i64 (0), .int .i64 (0)]) (.t 63), none⟩,
  ⟨some 65, .build [.nl 1, .nl 3] [(0, 1, .t 60), (1, 1, .t 64)], none⟩,
  ⟨some 9, .alloc [.nl 1, .nl 3], none⟩,
  ⟨none, .store 2 (.t 9) (.t 65), none⟩]
def c_graph_Reorder_r13 (F : String → Nat) : List LI := [⟨some 66, .fad 0 (.t 2), none⟩,
  ⟨some 67, .load false 1 (.t 66), none⟩,
  ⟨some 68, .len (.t 67), none⟩,
  ⟨some 69, .mov (.k (.int .i64 (0))), none⟩]
def c_graph_Reorder_r14 (F : String → Nat) : List LI := [⟨some 70, .bin .lss (.t 69) (.t 68), none⟩]
def c_graph_Reorder_r15 (F : String → Nat) : List LI := [⟨some 71, .mov (.t 69), none⟩,
  ⟨some 72, .iad 1 (.t 67) (.t 69), none⟩,
  ⟨some 73, .load false 1 (.t 72), none⟩,
  ⟨some 10, .mov (.t 71), none⟩,
  ⟨some 11, .mov (.t 73), none⟩]
def c_graph_Reorder_r16 (F : String → Nat) : List LI := [⟨some 74, .fad 0 (.t 9), none⟩,
  ⟨some 75, .load false 1 (.t 74), none⟩,
  ⟨some 76, .fad 0 (.t 3), none⟩,
  ⟨some 77, .load false 1 (.t 76), none⟩,
  ⟨some 78, .mov (.t 10), none⟩,
  ⟨some 79, .iad 1 (.t 77) (.t 78), none⟩,
  ⟨some 80, .load false 1 (.t 79), none⟩,
  ⟨some 81, .mov (.t 11), none⟩,
  ⟨some 82, .iad 1 (.t 75) (.t 80), none⟩,
  ⟨none, .store 1 (.t 82) (.t 81), none⟩]
def c_graph_Reorder_r17 (F : String → Nat) : List LI := [⟨some 83, .bin .add (.t 69) (.k (.int .i64 (1))), none⟩,
  ⟨some 69, .mov (.t 83), none⟩]
def c_graph_Reorder_b18 (F : String → Nat) : LC := (.seq (.reg (c_graph_Reorder_r14 F) [2, 3, 4, 9, 67, 68, 69, 70]) (.seq (.cond (.t 70) .skip (.exit 0)) (.seq (.block 1 (.seq (.reg (c_graph_Reorder_r15 F) [2, 3, 4, 9, 10, 11, 67, 68, 69]) (.dreg [] (c_graph_Reorder_r16 F) [2, 3, 4, 9, 67, 68, 69]))) (.reg (c_graph_Reorder_r17 F) [2, 3, 4, 9, 67, 68, 69]))))
def c_graph_Reorder_r19 (F : String → Nat) : List LI := [⟨some 84, .fad 1 (.t 2), none⟩,
  ⟨some 85, .load false 1 (.t 84), none⟩,
  ⟨some 86, .len (.t 85), none⟩,
  ⟨some 87, .mov (.k (.int .i64 (0))), none⟩]
def c_graph_Reorder_r20 (F : String → Nat) : List LI := [⟨some 88, .bin .lss (.t 87) (.t 86), none⟩]
def c_graph_Reorder_r21 (F : String → Nat) : List LI := [⟨some 89, .mov (.t 87), none⟩,
  ⟨some 90, .iad 3 (.t 85) (.t 87), none⟩,
  ⟨some 91, .load true 3 (.t 90), none⟩,
  ⟨some 13, .alloc [.int .i64 (0), .int .i64 (0), .int .i64 (0)], none⟩,
  ⟨some 12, .mov (.t 89), none⟩,
  ⟨none, .store 3 (.t 13) (.t 91), none⟩]
def c_graph_Reorder_r22 (F : String → Nat) : List LI := [⟨some 92, .fad 1 (.t 9), none⟩,
  ⟨some 93, .load false 1 (.t 92), none⟩,
  ⟨some 94, .fad 1 (.t 3), none⟩,
  ⟨some 95, .load false 1 (.t 94), none⟩,
  ⟨some 96, .mov (.t 12), none⟩,
  ⟨some 97, .iad 1 (.t 95) (.t 96), none⟩,
  ⟨some 98, .load false 1 (.t 97), none⟩,
  ⟨some 99, .fad 0 (.t 13), none⟩,
  ⟨some 100, .load false 1 (.t 99), none⟩,
  ⟨some 101, .fad 0 (.t 3), none⟩,
  ⟨some 102, .load false 1 (.t 101), none⟩,
  ⟨some 103, .fad 1 (.t 13), none⟩,
  ⟨some 104, .load false 1 (.t 103), none⟩,
  ⟨some 105, .iad 1 (.t 102) (.t 104), none⟩,
  ⟨some 106, .load false 1 (.t 105), none⟩,
  ⟨some 107, .fad 0 (.t 3), none⟩,
  ⟨some 108, .load false 1 (.t 107), none⟩,
  ⟨some 109, .fad 2 (.t 13), none⟩,
  ⟨some 110, .load false 1 (.t 109), none⟩,
  ⟨some 111, .iad 1 (.t 108) (.t 110), none⟩,
  ⟨some 112, .load false 1 (.t 111), none⟩,
  ⟨some 113, .build [.int .i64 (0), .int .i64 (0), .int .i64 (0)] [(0, 1, .t 100), (1, 1, .t 106), (2, 1, .t 112)], none⟩,
  ⟨some 114, .iad 3 (.t 93) (.t 98), none⟩,
  ⟨none, .store 3 (.t 114) (.t 113), none⟩]
def c_graph_Reorder_r23 (F : String → Nat) : List LI := [⟨some 115, .bin .add (.t 87) (.k (.int .i64 (1))), none⟩,
  ⟨some 87, .mov (.t 115), none⟩]
def c_graph_Reorder_b24 (F : String → Nat) : LC := (.seq (.reg (c_graph_Reorder_r20 F) [3, 4, 9, 85, 86, 87, 88]) (.seq (.cond (.t 88) .skip (.exit 2)) (.seq (.block 3 (.seq (.reg (c_graph_Reorder_r21 F) [3, 4, 9, 12, 13, 85, 86, 87]) (.dreg [] (c_graph_Reorder_r22 F) [3, 4, 9, 85, 86, 87]))) (.reg (c_graph_Reorder_r23 F) [3, 4, 9, 85, 86, 87]))))
def c_graph_Reorder_r25 (F : String → Nat) : List LI := [⟨some 116, .load true 2 (.t 9), none⟩,
  ⟨none, .store 2 (.t 4) (.t 116), none⟩,
  ⟨some 5, .mov (.k (.int .i64 (0))), none⟩]
def c_graph_Reorder (F : String → Nat) : LC := (.seq (.reg (c_graph_Reorder_r0 F) [2, 3, 4]) (.seq (.seq (.reg (c_graph_Reorder_r1 F) [2, 3, 4, 6]) (.seq (.reg (c_graph_Reorder_r2 F) [2, 3, 4, 6, 17]) (.cond (.t 17) (.seq (.reg (c_graph_Reorder_r3 F) [4, 5]) .ret) .skip))) (.seq (.seq (.reg (c_graph_Reorder_r4 F) [2, 3, 4, 35]) (.cond (.t 35) (.seq (.reg (c_graph_Reorder_r5 F) [4, 5]) .ret) .skip)) (.seq (.seq (.reg (c_graph_Reorder_r6 F) [2, 3, 4, 7]) (.seq (.reg (c_graph_Reorder_r7 F) [2, 3, 4, 7, 44]) (.cond (.t 44) (.seq (.reg (c_graph_Reorder_r8 F) [4, 5]) .ret) .skip))) (.seq (.seq (.reg (c_graph_Reorder_r9 F) [2, 3, 4, 8]) (.seq (.reg (c_graph_Reorder_r10 F) [2, 3, 4, 8, 54]) (.cond (.t 54) (.seq (.reg (c_graph_Reorder_r11 F) [4, 5]) .ret) .skip))) (.seq (.dreg [(5, (some 16), [], false)] (c_graph_Reorder_r12 F) [2, 3, 4, 9]) (.seq (.seq (.reg (c_graph_Reorder_r13 F) [2, 3, 4, 9, 67, 68, 69]) (.block 0 (.loop [2, 3, 4, 9, 67, 68, 69] (c_graph_Reorder_b18 F)))) (.seq (.seq (.reg (c_graph_Reorder_r19 F) [3, 4, 9, 85, 86, 87]) (.block 2 (.loop [3, 4, 9, 85, 86, 87] (c_graph_Reorder_b24 F)))) (.seq (.reg (c_graph_Reorder_r25 F) [4, 5]) .ret)))))))))
def h_graph_Reorder : Hints := ⟨[], fun _ => [], tab [(0, [2, 3, 4]), (1, [2, 3, 4, 6]), (2, [2, 3, 4, 6, 17]), (3, [4, 5]), (4, [2, 3, 4, 35]), (5, [4, 5]), (6, [2, 3, 4, 7]), (7, [2, 3, 4, 7, 44]), (8, [4, 5]), (9, [2, 3, 4, 8]), (10, [2, 3, 4, 8, 54]), (11, [4, 5]), (12, [2, 3, 4, 9]), (13, [2, 3, 4, 9, 67, 68, 69]), (14, [2, 3, 4, 9, 67, 68, 69, 70]), (15, [2, 3, 4, 9, 10, 11, 67, 68, 69]), (16, [2, 3, 4, 9, 67, 68, 69]), (17, [2, 3, 4, 9, 67, 68, 69]), (18, [3, 4, 9, 85, 86, 87]), (19, [3, 4, 9, 85, 86, 87, 88]), (20, [3, 4, 9, 12, 13, 85, 86, 87]), (21, [3, 4, 9, 85, 86, 87]), (22, [3, 4, 9, 85, 86, 87]), (23, [4, 5])], tab [(14, [2, 3, 4, 9, 67, 68, 69]), (19, [3, 4, 9, 85, 86, 87])]⟩

attribute [go_sem] c_graph_permutation_r0 c_graph_permutation_r1 c_graph_permutation_r2 c_graph_permutation_r3 c_graph_permutation_r4 c_graph_permutation_r5 c_graph_permutation_r6 c_graph_permutation_r7 c_graph_permutation_r8 c_graph_permutation_r9 c_graph_permutation_r10 c_graph_permutation_r12 c_graph_permutation c_graph_permutation_1_r0 c_graph_permutation_1_r1 c_graph_permutation_1 c_graph_Reorder_r0 c_graph_Reorder_r1 c_graph_Reorder_r2 c_graph_Reorder_r3 c_graph_Reorder_r4 c_graph_Reorder_r5 c_graph_Reorder_r6 c_graph_Reorder_r7 c_graph_Reorder_r8 c_graph_Reorder_r9 c_graph_Reorder_r10 c_graph_Reorder_r11 c_graph_Reorder_r12 c_graph_Reorder_r13 c_graph_Reorder_r14 c_graph_Reorder_r15 c_graph_Reorder_r16 c_graph_Reorder_r17 c_graph_Reorder_r19 c_graph_Reorder_r20 c_graph_Reorder_r21 c_graph_Reorder_r22 c_graph_Reorder_r23 c_graph_Reorder_r25 c_graph_Reorder
/-- What stands in the order that `p` says. -/
def placeK {α : Type} [Inhabited α] (p : List Int) (l : List α) : Nat → List α
  | 0 => List.replicate l.length default
  | k + 1 => (placeK p l k).set (gt p k).toNat (gt l k)
def reG (g : G) (m : Mo) : G := ⟨placeK m.n g.n g.n.length, placeK m.e (g.e.map (remE m.n)) g.e.length⟩
section
variable (P : Program) (F : String → Nat)
def K_graph_permutation_1 : Prop := ∀ (x : Int) (n : Nat), n ≤ 1000000 → FC P (F "graph.permutation.1") [.int .i64 x, .ref [.int .i64 n]] (.bool (!decide (0 ≤ x ∧ x ≤ n - 1))) []
def K_graph_permutation : Prop := ∀ (l : List Int) (n : Nat), n ≤ 1000000 → l.Perm (nums 0 n) → FC P (F "graph.permutation") [.lst 1 (ints l), .int .i64 n] (.int .i64 0) []
def K_graph_Reorder : Prop := ∀ (g : G) (m : Mo), validG g = 0 → m.n.Perm (nums 0 g.n.length) → m.e.Perm (nums 0 g.e.length) → FC P (F "graph.Reorder") [gD g, mD m] (.tup [gA (reG g m), .int .i64 0]) []
end
section
variable {P : Program} {F : String → Nat} {α : Type}
theorem placeK_len [Inhabited α] (p : List Int) (l : List α) : ∀ k, (placeK p l k).length = l.length
  | 0 => by simp [placeK]
  | k + 1 => by simp [placeK, placeK_len p l k]
theorem nums_mem {n : Nat} {x : Int} : x ∈ nums 0 n ↔ 0 ≤ x ∧ x < n := by
  unfold nums
  constructor
  · intro h
    simp at h
    omega
  · intro h
    simp
    exact ⟨x.toNat, by omega, by omega⟩
theorem perm_in {l : List Int} {n : Nat} (h : l.Perm (nums 0 n)) {j : Int} (h0 : 0 ≤ j) (h1 : j < n) : 0 ≤ gt l j ∧ gt l j < n := by
  have hl : l.length = n := by rw [h.length_eq, nums_len]
  exact nums_mem.1 (h.mem_iff.1 (gt_mem h0 (by omega)))
theorem nums_nodup (n : Nat) : (nums 0 n).Nodup := by
  unfold nums
  rw [List.nodup_iff_pairwise_ne, List.pairwise_map]
  exact List.Pairwise.imp (fun h e => h (by omega)) (List.nodup_iff_pairwise_ne.1 List.nodup_range)
theorem w_graph_permutation_1 (hw : K_graph_within P F) (x : Int) (n : Nat) (hn : n ≤ 1000000) : W P (c_graph_permutation_1 F) (Done [.t 3] [] (.bool (!decide (0 ≤ x ∧ x ≤ n - 1))) []) (init [.int .i64 x, .ref [.int .i64 n]]) := by
  refine W_of ?_
  simp (config := { maxSteps := 1000000 }) (disch := first | omega | (simp only [List.length_set, List.length_append, List.length_cons, List.length_nil, List.length_replicate]; omega)) only [go_sem, Nat.reduceEqDiff, Nat.reduceBEq, Nat.reduceAdd, Nat.reduceSub, Nat.reduceMul, Nat.reduceLT, Nat.reduceLeDiff, ↓reduceIte, reduceCtorEq, Nat.reduceDiv, Nat.reducePow, Nat.reduceMod]
  refine call_by (hw _ _) ?_
  simp (config := { maxSteps := 1000000 }) (disch := first | omega | (simp only [List.length_set, List.length_append, List.length_cons, List.length_nil, List.length_replicate]; omega)) only [go_sem, Nat.reduceEqDiff, Nat.reduceBEq, Nat.reduceAdd, Nat.reduceSub, Nat.reduceMul, Nat.reduceLT, Nat.reduceLeDiff, ↓reduceIte, reduceCtorEq, Nat.reduceDiv, Nat.reducePow, Nat.reduceMod]
theorem w_graph_permutation (h1 : K_graph_permutation_1 P F) (h2 : K_slices_ContainsFunc_I P F) (h3 : K_slices_Contains_I P F) (l : List Int) (n : Nat) (hn : n ≤ 1000000) (hp : l.Perm (nums 0 n)) : W P (c_graph_permutation F) (Done [.t 4] [] (.int .i64 0) []) (init [.lst 1 (ints l), .int .i64 n]) := by
  refine W_of ?_
  have hl : l.length = n := by rw [hp.length_eq, nums_len]
  have hnd : l.Nodup := hp.symm.nodup_iff.1 (nums_nodup n)
  simp (config := { maxSteps := 1000000 }) (disch := first | omega | (simp only [List.length_set, List.length_append, List.length_cons, List.length_nil, List.length_replicate]; omega)) only [go_sem, Nat.reduceEqDiff, Nat.reduceBEq, Nat.reduceAdd, Nat.reduceSub, Nat.reduceMul, Nat.reduceLT, Nat.reduceLeDiff, ↓reduceIte, reduceCtorEq, Nat.reduceDiv, Nat.reducePow, Nat.reduceMod]
  refine bran_ndec (fun c => absurd (by omega) c) (fun c => ?_)
  simp (config := { maxSteps := 1000000 }) (disch := first | omega | (simp only [List.length_set, List.length_append, List.length_cons, List.length_nil, List.length_replicate]; omega)) only [go_sem, Nat.reduceEqDiff, Nat.reduceBEq, Nat.reduceAdd, Nat.reduceSub, Nat.reduceMul, Nat.reduceLT, Nat.reduceLeDiff, ↓reduceIte, reduceCtorEq, Nat.reduceDiv, Nat.reducePow, Nat.reduceMod]
  have r := h2 l (by unfold maxL; omega) (F "graph.permutation.1") [.ref [.int .i64 n]] rfl (fun x => !decide (0 ≤ x ∧ x ≤ (n : Int) - 1)) fun x _ => h1 x n hn
  have hany : (l.any fun x => !decide (0 ≤ x ∧ x ≤ (n : Int) - 1)) = false := by
    rw [List.any_eq_false]
    intro x hx
    have := nums_mem.1 (hp.mem_iff.1 hx)
    simp
    omega
  refine call_by r ?_
  simp (config := { maxSteps := 1000000 }) (disch := first | omega | (simp only [List.length_set, List.length_append, List.length_cons, List.length_nil, List.length_replicate]; omega)) only [go_sem, Nat.reduceEqDiff, Nat.reduceBEq, Nat.reduceAdd, Nat.reduceSub, Nat.reduceMul, Nat.reduceLT, Nat.reduceLeDiff, ↓reduceIte, reduceCtorEq, Nat.reduceDiv, Nat.reducePow, Nat.reduceMod, hany]
  refine W_loop (fun i : Nat => ⟨[(0, D.lst 1 (ints l)), (14, D.lst 1 (ints l)), (15, D.int IntKind.i64 l.length), (16, D.int IntKind.i64 i)], [], 0⟩) (fun i => i ≤ n) (fun i => n - i) 0 ?_ ?_ ?_
  · simp (config := { maxSteps := 1000000 }) (disch := first | omega | (simp only [List.length_set, List.length_append, List.length_cons, List.length_nil, List.length_replicate]; omega)) only [go_sem, Nat.reduceEqDiff, Nat.reduceBEq, Nat.reduceAdd, Nat.reduceSub, Nat.reduceMul, Nat.reduceLT, Nat.reduceLeDiff, ↓reduceIte, reduceCtorEq, Nat.reduceDiv, Nat.reducePow, Nat.reduceMod]
    rfl
  · omega
  · intro i hi
    simp (config := { maxSteps := 1000000 }) (disch := first | omega | (simp only [List.length_set, List.length_append, List.length_cons, List.length_nil, List.length_replicate]; omega)) only [go_sem, Nat.reduceEqDiff, Nat.reduceBEq, Nat.reduceAdd, Nat.reduceSub, Nat.reduceMul, Nat.reduceLT, Nat.reduceLeDiff, ↓reduceIte, reduceCtorEq, Nat.reduceDiv, Nat.reducePow, Nat.reduceMod, c_graph_permutation_b11]
    refine bran_dec (fun c => ?_) (fun c => ?_)
    · have hno : gt l i ∉ l.take i := by
        rw [gt_nat (by omega)]
        intro hm
        rw [List.mem_take_iff_getElem] at hm
        obtain ⟨j, hj, he⟩ := hm
        have := (List.nodup_iff_pairwise_ne.1 hnd)
        rw [List.pairwise_iff_getElem] at this
        exact this j i (by omega) (by omega) (by omega) he
      simp (config := { maxSteps := 1000000 }) (disch := first | omega | (simp only [List.length_set, List.length_append, List.length_cons, List.length_nil, List.length_replicate]; omega)) only [go_sem, Nat.reduceEqDiff, Nat.reduceBEq, Nat.reduceAdd, Nat.reduceSub, Nat.reduceMul, Nat.reduceLT, Nat.reduceLeDiff, ↓reduceIte, reduceCtorEq, Nat.reduceDiv, Nat.reducePow, Nat.reduceMod]
      refine call_by (h3 (l.take i) (gt l i) (by simp; unfold maxL; omega)) ?_
      simp (config := { maxSteps := 1000000 }) (disch := first | omega | (simp only [List.length_set, List.length_append, List.length_cons, List.length_nil, List.length_replicate]; omega)) only [go_sem, Nat.reduceEqDiff, Nat.reduceBEq, Nat.reduceAdd, Nat.reduceSub, Nat.reduceMul, Nat.reduceLT, Nat.reduceLeDiff, ↓reduceIte, reduceCtorEq, Nat.reduceDiv, Nat.reducePow, Nat.reduceMod, decide_eq_false hno]
      exact ⟨i + 1, by simp, by omega, by omega⟩
    · simp (config := { maxSteps := 1000000 }) (disch := first | omega | (simp only [List.length_set, List.length_append, List.length_cons, List.length_nil, List.length_replicate]; omega)) only [go_sem, Nat.reduceEqDiff, Nat.reduceBEq, Nat.reduceAdd, Nat.reduceSub, Nat.reduceMul, Nat.reduceLT, Nat.reduceLeDiff, ↓reduceIte, reduceCtorEq, Nat.reduceDiv, Nat.reducePow, Nat.reduceMod]
theorem w_graph_Reorder (hv : K_graph_Valid P F) (hp : K_graph_permutation P F) (g : G) (m : Mo) (c1 : validG g = 0) (p1 : m.n.Perm (nums 0 g.n.length)) (p2 : m.e.Perm (nums 0 g.e.length)) : W P (c_graph_Reorder F) (Done [.c 4 true 2, .t 5] [] (.tup [gA (reG g m), .int .i64 0]) []) (init [gD g, mD m]) := by
  refine W_of ?_
  obtain ⟨gn, ge⟩ := g
  obtain ⟨mn, me⟩ := m
  obtain ⟨v1, v2, v3, v4⟩ := valid_spec c1
  simp only at v1 v2 v3 v4 p1 p2
  have l1 : mn.length = gn.length := by rw [p1.length_eq, nums_len]
  have l2 : me.length = ge.length := by rw [p2.length_eq, nums_len]
  simp (config := { maxSteps := 1000000 }) (disch := first | omega | (simp only [List.length_set, List.length_append, List.length_cons, List.length_nil, List.length_replicate]; omega)) only [go_sem, Nat.reduceEqDiff, Nat.reduceBEq, Nat.reduceAdd, Nat.reduceSub, Nat.reduceMul, Nat.reduceLT, Nat.reduceLeDiff, ↓reduceIte, reduceCtorEq, Nat.reduceDiv, Nat.reducePow, Nat.reduceMod, gD, mD]
  refine call_by (hv ⟨gn, ge⟩) ?_
  have k1 : (mn.length : Int) = gn.length := by omega
  have k2 : (me.length : Int) = ge.length := by omega
  simp (config := { maxSteps := 1000000 }) (disch := first | omega | (simp only [List.length_set, List.length_append, List.length_cons, List.length_nil, List.length_replicate]; omega)) only [go_sem, Nat.reduceEqDiff, Nat.reduceBEq, Nat.reduceAdd, Nat.reduceSub, Nat.reduceMul, Nat.reduceLT, Nat.reduceLeDiff, ↓reduceIte, reduceCtorEq, Nat.reduceDiv, Nat.reducePow, Nat.reduceMod, c1, k1, k2]
  refine call_by (hp mn gn.length (by omega) p1) ?_
  simp (config := { maxSteps := 1000000 }) (disch := first | omega | (simp only [List.length_set, List.length_append, List.length_cons, List.length_nil, List.length_replicate]; omega)) only [go_sem, Nat.reduceEqDiff, Nat.reduceBEq, Nat.reduceAdd, Nat.reduceSub, Nat.reduceMul, Nat.reduceLT, Nat.reduceLeDiff, ↓reduceIte, reduceCtorEq, Nat.reduceDiv, Nat.reducePow, Nat.reduceMod]
  refine call_by (hp me ge.length (by omega) p2) ?_
  simp (config := { maxSteps := 1000000 }) (disch := first | omega | (simp only [List.length_set, List.length_append, List.length_cons, List.length_nil, List.length_replicate]; omega)) only [go_sem, Nat.reduceEqDiff, Nat.reduceBEq, Nat.reduceAdd, Nat.reduceSub, Nat.reduceMul, Nat.reduceLT, Nat.reduceLeDiff, ↓reduceIte, reduceCtorEq, Nat.reduceDiv, Nat.reducePow, Nat.reduceMod]
  refine W_loop (fun i : Nat => ⟨[(2, D.pt 0 0), (3, D.pt 1 0), (4, D.pt 4 0), (9, D.pt 7 0), (67, D.lst 1 (ints gn)), (68, D.int IntKind.i64 gn.length), (69, D.int IntKind.i64 i)],
      [(0, Ent.box [D.lst 1 (ints gn), D.lst 3 (eds ge)]), (1, Ent.box [D.lst 1 (ints mn), D.lst 1 (ints me)]),
        (2, Ent.arr 1 []), (3, Ent.arr 3 []), (4, Ent.box [D.sl 2 0 0, D.sl 3 0 0]), (5, Ent.arr 1 (ints (placeK mn gn i))), (6, Ent.arr 3 (eds (List.replicate ge.length { t := 0, f := 0, o := 0 }))),
        (7, Ent.box [D.sl 5 0 gn.length, D.sl 6 0 ge.length])], 8⟩) (fun i => i ≤ gn.length) (fun i => gn.length - i) 0 ?_ ?_ ?_
  · simp (config := { maxSteps := 1000000 }) (disch := first | omega | (simp only [List.length_set, List.length_append, List.length_cons, List.length_nil, List.length_replicate]; omega)) only [go_sem, Nat.reduceEqDiff, Nat.reduceBEq, Nat.reduceAdd, Nat.reduceSub, Nat.reduceMul, Nat.reduceLT, Nat.reduceLeDiff, ↓reduceIte, reduceCtorEq, Nat.reduceDiv, Nat.reducePow, Nat.reduceMod]
    rfl
  · omega
  · intro i hi
    have e1 := placeK_len mn gn i
    simp (config := { maxSteps := 1000000 }) (disch := first | omega | (simp only [List.length_set, List.length_append, List.length_cons, List.length_nil, List.length_replicate]; omega)) only [go_sem, Nat.reduceEqDiff, Nat.reduceBEq, Nat.reduceAdd, Nat.reduceSub, Nat.reduceMul, Nat.reduceLT, Nat.reduceLeDiff, ↓reduceIte, reduceCtorEq, Nat.reduceDiv, Nat.reducePow, Nat.reduceMod, c_graph_Reorder_b18]
    refine bran_dec (fun c => ?_) (fun c => ?_)
    · have hpi := perm_in p1 (j := i) (by omega) (by omega)
      simp (config := { maxSteps := 1000000 }) (disch := first | omega | (simp only [List.length_set, List.length_append, List.length_cons, List.length_nil, List.length_replicate]; omega)) only [go_sem, Nat.reduceEqDiff, Nat.reduceBEq, Nat.reduceAdd, Nat.reduceSub, Nat.reduceMul, Nat.reduceLT, Nat.reduceLeDiff, ↓reduceIte, reduceCtorEq, Nat.reduceDiv, Nat.reducePow, Nat.reduceMod, e1]
      exact ⟨i + 1, by simp [placeK], by omega, by omega⟩
    · obtain rfl : i = gn.length := by omega
      simp (config := { maxSteps := 1000000 }) (disch := first | omega | (simp only [List.length_set, List.length_append, List.length_cons, List.length_nil, List.length_replicate]; omega)) only [go_sem, Nat.reduceEqDiff, Nat.reduceBEq, Nat.reduceAdd, Nat.reduceSub, Nat.reduceMul, Nat.reduceLT, Nat.reduceLeDiff, ↓reduceIte, reduceCtorEq, Nat.reduceDiv, Nat.reducePow, Nat.reduceMod, e1]
      have q1 := placeK_len mn gn gn.length
      have ml : (ge.map (remE mn)).length = ge.length := by simp
      have hg : gA (reG ⟨gn, ge⟩ ⟨mn, me⟩) = .agg [.arr 1 (ints (placeK mn gn gn.length)), .arr 3 (eds (placeK me (ge.map (remE mn)) ge.length))] := rfl
      rw [hg]
      generalize placeK mn gn gn.length = pn at q1
      refine W_loop (fun i : Nat => ⟨[(3, D.pt 0 0), (4, D.pt 3 0), (9, D.pt 6 0), (85, D.lst 3 (eds ge)), (86, D.int IntKind.i64 ge.length), (87, D.int IntKind.i64 i)],
        [(0, Ent.box [D.lst 1 (ints mn), D.lst 1 (ints me)]), (1, Ent.arr 1 []), (2, Ent.arr 3 []), (3, Ent.box [D.sl 1 0 0, D.sl 2 0 0]), (4, Ent.arr 1 (ints pn)), (5, Ent.arr 3 (eds (placeK me (ge.map (remE mn)) i))),
          (6, Ent.box [D.sl 4 0 gn.length, D.sl 5 0 ge.length])], 7⟩) (fun i => i ≤ ge.length) (fun i => ge.length - i) 0 ?_ ?_ ?_
      · simp (config := { maxSteps := 1000000 }) (disch := first | omega | (simp only [List.length_set, List.length_append, List.length_cons, List.length_nil, List.length_replicate]; omega)) only [go_sem, Nat.reduceEqDiff, Nat.reduceBEq, Nat.reduceAdd, Nat.reduceSub, Nat.reduceMul, Nat.reduceLT, Nat.reduceLeDiff, ↓reduceIte, reduceCtorEq, Nat.reduceDiv, Nat.reducePow, Nat.reduceMod, q1, placeK, ml]
        rfl
      · omega
      · intro i hi
        have e2 := placeK_len me (ge.map (remE mn)) i
        rw [ml] at e2
        simp (config := { maxSteps := 1000000 }) (disch := first | omega | (simp only [List.length_set, List.length_append, List.length_cons, List.length_nil, List.length_replicate]; omega)) only [go_sem, Nat.reduceEqDiff, Nat.reduceBEq, Nat.reduceAdd, Nat.reduceSub, Nat.reduceMul, Nat.reduceLT, Nat.reduceLeDiff, ↓reduceIte, reduceCtorEq, Nat.reduceDiv, Nat.reducePow, Nat.reduceMod, c_graph_Reorder_b24]
        refine bran_dec (fun c => ?_) (fun c => ?_)
        · have hf := fits_spec (v4 _ (gt_mem (by omega) c))
          have hpi := perm_in p2 (j := i) (by omega) (by omega)
          have h1 := perm_in p1 hf.2.1.1 hf.2.1.2
          have h2 := perm_in p1 hf.2.2.1 hf.2.2.2
          have hgt : gt (ge.map (remE mn)) (i : Int) = remE mn (gt ge i) := by rw [gt_nat (by rw [ml]; omega), gt_nat (by omega)]; simp
          simp (config := { maxSteps := 1000000 }) (disch := first | omega | (simp only [List.length_set, List.length_append, List.length_cons, List.length_nil, List.length_replicate]; omega)) only [go_sem, Nat.reduceEqDiff, Nat.reduceBEq, Nat.reduceAdd, Nat.reduceSub, Nat.reduceMul, Nat.reduceLT, Nat.reduceLeDiff, ↓reduceIte, reduceCtorEq, Nat.reduceDiv, Nat.reducePow, Nat.reduceMod, q1, e2]
          exact ⟨i + 1, by simp [placeK, hgt, remE], by omega, by omega⟩
        · obtain rfl : i = ge.length := by omega
          simp (config := { maxSteps := 1000000 }) (disch := first | omega | (simp only [List.length_set, List.length_append, List.length_cons, List.length_nil, List.length_replicate]; omega)) only [go_sem, Nat.reduceEqDiff, Nat.reduceBEq, Nat.reduceAdd, Nat.reduceSub, Nat.reduceMul, Nat.reduceLT, Nat.reduceLeDiff, ↓reduceIte, reduceCtorEq, Nat.reduceDiv, Nat.reducePow, Nat.reduceMod, q1, e2]
end
end Go.Am
