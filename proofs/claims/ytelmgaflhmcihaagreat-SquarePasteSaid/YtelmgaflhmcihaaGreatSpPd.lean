/- slices.Concat; disjoint unions. -/
/- Disjoint unions and pushouts: plain facts. -/
/- Pushouts: the program's and the reference's functions. -/
/- Pushouts: Mediate and Check; the example of the chapter. -/
/- Places in lists, plain. -/
import Derived.Test.YtelmgaflhmcihaaGreatSpPa
import Derived.Test.YtelmgaflhmcihaaGreatSpPb
import Derived.Test.YtelmgaflhmcihaaGreatSpPc
namespace Go.Am
open Go
set_option linter.unusedVariables false
set_option linter.unusedSimpArgs false
/- slices.Grow.I -/
def c_slices_Grow_I_r0 (F : String → Nat) : List LI := [⟨some 4, .mov (.k (.nl 1)), none⟩]
def c_slices_Grow_I_r1 (F : String → Nat) : List LI := [⟨some 5, .mov (.t 1), none⟩,
  ⟨some 6, .bin .lss (.t 5) (.k (.int .i64 (0))), none⟩]
def c_slices_Grow_I_r2 (F : String → Nat) : List LI := [⟨some 7, .bad, none⟩,
  ⟨none, .bad, none⟩]
def c_slices_Grow_I_r3 (F : String → Nat) : List LI := [⟨some 8, .mov (.t 1), none⟩,
  ⟨some 9, .mov (.t 0), none⟩,
  ⟨some 10, .cap (.t 9), none⟩,
  ⟨some 11, .mov (.t 0), none⟩,
  ⟨some 12, .len (.t 11), none⟩,
  ⟨some 13, .bin .sub (.t 10) (.t 12), none⟩,
  ⟨some 14, .bin .sub (.t 8) (.t 13), none⟩,
  ⟨some 1, .mov (.t 14), none⟩]
def c_slices_Grow_I_r4 (F : String → Nat) : List LI := [⟨some 15, .mov (.t 1), none⟩,
  ⟨some 16, .bin .gtr (.t 15) (.k (.int .i64 (0))), none⟩]
def c_slices_Grow_I_r5 (F : String → Nat) : List LI := [⟨some 17, .mov (.t 0), none⟩,
  ⟨some 18, .mov (.t 0), none⟩,
  ⟨some 19, .cap (.t 18), none⟩,
  ⟨some 20, .slc 1 (.t 17) none (some (.t 19)), none⟩,
  ⟨some 21, .mov (.t 1), none⟩,
  ⟨some 22, .appz 1 8 (.int .i64 (0)) (.t 20) (.t 21), none⟩,
  ⟨some 23, .mov (.t 0), none⟩,
  ⟨some 24, .len (.t 23), none⟩,
  ⟨some 25, .slc 1 (.t 22) none (some (.t 24)), none⟩,
  ⟨some 0, .mov (.t 25), none⟩]
def c_slices_Grow_I_r6 (F : String → Nat) : List LI := [⟨some 26, .mov (.t 0), none⟩,
  ⟨some 4, .mov (.t 26), none⟩]
def c_slices_Grow_I (F : String → Nat) : LC := (.seq (.reg (c_slices_Grow_I_r0 F) [0, 1]) (.seq (.seq (.reg (c_slices_Grow_I_r1 F) [0, 1, 6]) (.cond (.t 6) (.reg (c_slices_Grow_I_r2 F) [0, 1]) .skip)) (.seq (.seq (.reg (c_slices_Grow_I_r3 F) [0, 1]) (.seq (.reg (c_slices_Grow_I_r4 F) [0, 1, 16]) (.cond (.t 16) (.reg (c_slices_Grow_I_r5 F) [0]) .skip))) (.seq (.reg (c_slices_Grow_I_r6 F) [4]) .ret))))
def h_slices_Grow_I : Hints := ⟨[], fun _ => [], tab [(0, [0, 1]), (1, [0, 1, 6]), (2, [0, 1]), (3, [0, 1]), (4, [0, 1, 16]), (5, [0]), (6, [4])], tab []⟩

/- slices.Concat.I -/
def c_slices_Concat_I_r0 (F : String → Nat) : List LI := [⟨some 2, .mov (.k (.nl 1)), none⟩]
def c_slices_Concat_I_r1 (F : String → Nat) : List LI := [⟨some 3, .mov (.k (.int .i64 (0))), none⟩]
def c_slices_Concat_I_r2 (F : String → Nat) : List LI := [⟨some 9, .mov (.t 0), none⟩,
  ⟨some 10, .len (.t 9), none⟩,
  ⟨some 11, .mov (.k (.int .i64 (0))), none⟩]
def c_slices_Concat_I_r3 (F : String → Nat) : List LI := [⟨some 12, .bin .lss (.t 11) (.t 10), none⟩]
def c_slices_Concat_I_r4 (F : String → Nat) : List LI := [⟨some 13, .iad 1 (.t 9) (.t 11), none⟩,
  ⟨some 14, .load false 1 (.t 13), none⟩,
  ⟨some 5, .mov (.t 14), none⟩]
def c_slices_Concat_I_r5 (F : String → Nat) : List LI := [⟨some 15, .mov (.t 3), none⟩,
  ⟨some 16, .mov (.t 5), none⟩,
  ⟨some 17, .len (.t 16), none⟩,
  ⟨some 18, .bin .add (.t 15) (.t 17), none⟩,
  ⟨some 3, .mov (.t 18), none⟩]
def c_slices_Concat_I_r6 (F : String → Nat) : List LI := [⟨some 19, .mov (.t 3), none⟩,
  ⟨some 20, .bin .lss (.t 19) (.k (.int .i64 (0))), none⟩]
def c_slices_Concat_I_r7 (F : String → Nat) : List LI := [⟨some 21, .bad, none⟩,
  ⟨none, .bad, none⟩]
def c_slices_Concat_I_r8 (F : String → Nat) : List LI := [⟨some 22, .bin .add (.t 11) (.k (.int .i64 (1))), none⟩,
  ⟨some 11, .mov (.t 22), none⟩]
def c_slices_Concat_I_b9 (F : String → Nat) : LC := (.seq (.reg (c_slices_Concat_I_r3 F) [0, 3, 9, 10, 11, 12]) (.seq (.cond (.t 12) .skip (.exit 0)) (.seq (.block 1 (.seq (.reg (c_slices_Concat_I_r4 F) [0, 3, 5, 9, 10, 11]) (.seq (.reg (c_slices_Concat_I_r5 F) [0, 3, 9, 10, 11]) (.seq (.reg (c_slices_Concat_I_r6 F) [0, 3, 9, 10, 11, 20]) (.cond (.t 20) (.reg (c_slices_Concat_I_r7 F) [0, 3, 9, 10, 11]) .skip))))) (.reg (c_slices_Concat_I_r8 F) [0, 3, 9, 10, 11]))))
def c_slices_Concat_I_r10 (F : String → Nat) : List LI := [⟨some 23, .mov (.t 3), none⟩,
  ⟨some 24, .call (F "slices.Grow.I") [.k (.nl 0), .t 23] [], none⟩,
  ⟨some 6, .mov (.t 24), none⟩]
def c_slices_Concat_I_r11 (F : String → Nat) : List LI := [⟨some 25, .mov (.t 0), none⟩,
  ⟨some 26, .len (.t 25), none⟩,
  ⟨some 27, .mov (.k (.int .i64 (0))), none⟩]
def c_slices_Concat_I_r12 (F : String → Nat) : List LI := [⟨some 28, .bin .lss (.t 27) (.t 26), none⟩]
def c_slices_Concat_I_r13 (F : String → Nat) : List LI := [⟨some 29, .iad 1 (.t 25) (.t 27), none⟩,
  ⟨some 30, .load false 1 (.t 29), none⟩,
  ⟨some 8, .mov (.t 30), none⟩]
def c_slices_Concat_I_r14 (F : String → Nat) : List LI := [⟨some 31, .mov (.t 6), none⟩,
  ⟨some 32, .mov (.t 8), none⟩,
  ⟨some 33, .app 1 8 (.t 31) (.t 32), none⟩,
  ⟨some 6, .mov (.t 33), none⟩]
def c_slices_Concat_I_r15 (F : String → Nat) : List LI := [⟨some 34, .bin .add (.t 27) (.k (.int .i64 (1))), none⟩,
  ⟨some 27, .mov (.t 34), none⟩]
def c_slices_Concat_I_b16 (F : String → Nat) : LC := (.seq (.reg (c_slices_Concat_I_r12 F) [6, 25, 26, 27, 28]) (.seq (.cond (.t 28) .skip (.exit 2)) (.seq (.block 3 (.seq (.reg (c_slices_Concat_I_r13 F) [6, 8, 25, 26, 27]) (.reg (c_slices_Concat_I_r14 F) [6, 25, 26, 27]))) (.reg (c_slices_Concat_I_r15 F) [6, 25, 26, 27]))))
def c_slices_Concat_I_r17 (F : String → Nat) : List LI := [⟨some 35, .mov (.t 6), none⟩,
  ⟨some 2, .mov (.t 35), none⟩]
def c_slices_Concat_I (F : String → Nat) : LC := (.seq (.reg (c_slices_Concat_I_r0 F) [0]) (.seq (.reg (c_slices_Concat_I_r1 F) [0, 3]) (.seq (.seq (.reg (c_slices_Concat_I_r2 F) [0, 3, 9, 10, 11]) (.block 0 (.loop [0, 3, 9, 10, 11] (c_slices_Concat_I_b9 F)))) (.seq (.reg (c_slices_Concat_I_r10 F) [0, 6]) (.seq (.seq (.reg (c_slices_Concat_I_r11 F) [6, 25, 26, 27]) (.block 2 (.loop [6, 25, 26, 27] (c_slices_Concat_I_b16 F)))) (.seq (.reg (c_slices_Concat_I_r17 F) [2]) .ret))))))
def h_slices_Concat_I : Hints := ⟨[], fun _ => [], tab [(0, [0]), (1, [0, 3]), (2, [0, 3, 9, 10, 11]), (3, [0, 3, 9, 10, 11, 12]), (4, [0, 3, 5, 9, 10, 11]), (5, [0, 3, 9, 10, 11]), (6, [0, 3, 9, 10, 11, 20]), (7, [0, 3, 9, 10, 11]), (8, [0, 3, 9, 10, 11]), (9, [0, 6]), (10, [6, 25, 26, 27]), (11, [6, 25, 26, 27, 28]), (12, [6, 8, 25, 26, 27]), (13, [6, 25, 26, 27]), (14, [6, 25, 26, 27]), (15, [2])], tab [(3, [0, 3, 9, 10, 11]), (11, [6, 25, 26, 27])]⟩

/- graph.Union -/
def c_graph_Union_r0 (F : String → Nat) : List LI := [⟨some 2, .bx (.t 0), none⟩,
  ⟨some 3, .bx (.t 1), none⟩,
  ⟨some 4, .alloc [.nl 1, .nl 3], none⟩,
  ⟨some 5, .alloc [.nl 1, .nl 1], none⟩,
  ⟨some 6, .alloc [.nl 1, .nl 1], none⟩,
  ⟨some 7, .mov (.k (.int .i64 (0))), none⟩]
def c_graph_Union_r1 (F : String → Nat) : List LI := [⟨some 18, .load true 2 (.t 2), none⟩,
  ⟨some 19, .load true 2 (.t 3), none⟩,
  ⟨some 20, .buildSl 2 48 (.agg [.lst 1 [], .lst 3 []]) 2 [(0, .t 18), (1, .t 19)], none⟩,
  ⟨some 21, .len (.t 20), none⟩,
  ⟨some 22, .mov (.k (.int .i64 (0))), none⟩]
def c_graph_Union_r2 (F : String → Nat) : List LI := [⟨some 23, .bin .lss (.t 22) (.t 21), none⟩]
def c_graph_Union_r3 (F : String → Nat) : List LI := [⟨some 24, .iad 2 (.t 20) (.t 22), none⟩,
  ⟨some 25, .load true 2 (.t 24), none⟩,
  ⟨some 9, .alloc [.nl 1, .nl 3], none⟩,
  ⟨none, .store 2 (.t 9) (.t 25), none⟩]
def c_graph_Union_r4 (F : String → Nat) : List LI := [⟨some 26, .load true 2 (.t 9), none⟩,
  ⟨some 27, .call (F "graph.Valid") [.t 26] [], none⟩,
  ⟨some 10, .mov (.t 27), none⟩]
def c_graph_Union_r5 (F : String → Nat) : List LI := [⟨some 28, .mov (.t 10), none⟩,
  ⟨some 29, .bin .neq (.t 28) (.k (.int .i64 (0))), none⟩]
def c_graph_Union_r6 (F : String → Nat) : List LI := [⟨some 30, .build [.nl 1, .nl 3] [], none⟩,
  ⟨some 31, .build [.nl 1, .nl 1] [], none⟩,
  ⟨some 32, .build [.nl 1, .nl 1] [], none⟩,
  ⟨some 33, .mov (.t 10), none⟩,
  ⟨none, .store 2 (.t 4) (.t 30), none⟩,
  ⟨none, .store 2 (.t 5) (.t 31), none⟩,
  ⟨none, .store 2 (.t 6) (.t 32), none⟩,
  ⟨some 7, .mov (.t 33), none⟩]
def c_graph_Union_r7 (F : String → Nat) : List LI := [⟨some 34, .bin .add (.t 22) (.k (.int .i64 (1))), none⟩,
  ⟨some 22, .mov (.t 34), none⟩]
def c_graph_Union_b8 (F : String → Nat) : LC := (.seq (.reg (c_graph_Union_r2 F) [2, 3, 4, 5, 6, 20, 21, 22, 23]) (.seq (.cond (.t 23) .skip (.exit 0)) (.seq (.block 1 (.seq (.reg (c_graph_Union_r3 F) [2, 3, 4, 5, 6, 9, 20, 21, 22]) (.seq (.reg (c_graph_Union_r4 F) [2, 3, 4, 5, 6, 10, 20, 21, 22]) (.seq (.reg (c_graph_Union_r5 F) [2, 3, 4, 5, 6, 10, 20, 21, 22, 29]) (.cond (.t 29) (.seq (.reg (c_graph_Union_r6 F) [4, 5, 6, 7]) .ret) .skip))))) (.reg (c_graph_Union_r7 F) [2, 3, 4, 5, 6, 20, 21, 22]))))
def c_graph_Union_r9 (F : String → Nat) : List LI := [⟨some 35, .fad 0 (.t 2), none⟩,
  ⟨some 36, .load false 1 (.t 35), none⟩,
  ⟨some 37, .len (.t 36), none⟩,
  ⟨some 38, .fad 1 (.t 2), none⟩,
  ⟨some 39, .load false 1 (.t 38), none⟩,
  ⟨some 40, .len (.t 39), none⟩,
  ⟨some 11, .mov (.t 37), none⟩,
  ⟨some 12, .mov (.t 40), none⟩]
def c_graph_Union_r10 (F : String → Nat) : List LI := [⟨some 41, .mov (.t 11), none⟩,
  ⟨some 42, .fad 0 (.t 3), none⟩,
  ⟨some 43, .load false 1 (.t 42), none⟩,
  ⟨some 44, .len (.t 43), none⟩,
  ⟨some 45, .bin .add (.t 41) (.t 44), none⟩,
  ⟨some 46, .bin .gtr (.t 45) (.k (.int .i64 (40))), none⟩,
  ⟨some 47, .mov (.t 46), none⟩,
  ⟨some 48, .mov (.t 12), some (47, false)⟩,
  ⟨some 49, .fad 1 (.t 3), some (47, false)⟩,
  ⟨some 50, .load false 1 (.t 49), some (47, false)⟩,
  ⟨some 51, .len (.t 50), some (47, false)⟩,
  ⟨some 52, .bin .add (.t 48) (.t 51), some (47, false)⟩,
  ⟨some 53, .bin .gtr (.t 52) (.k (.int .i64 (80))), some (47, false)⟩,
  ⟨some 54, .pick (.t 47) (.k (.bool true)) (.t 53), none⟩]
def c_graph_Union_r11 (F : String → Nat) : List LI := [⟨some 55, .build [.nl 1, .nl 3] [], none⟩,
  ⟨some 56, .build [.nl 1, .nl 1] [], none⟩,
  ⟨some 57, .build [.nl 1, .nl 1] [], none⟩,
  ⟨none, .store 2 (.t 4) (.t 55), none⟩,
  ⟨none, .store 2 (.t 5) (.t 56), none⟩,
  ⟨none, .store 2 (.t 6) (.t 57), none⟩,
  ⟨some 7, .mov (.k (.int .i64 (3))), none⟩]
def c_graph_Union_r12 (F : String → Nat) : List LI := [⟨some 58, .fad 0 (.t 2), none⟩,
  ⟨some 59, .load false 1 (.t 58), none⟩,
  ⟨some 60, .fad 0 (.t 3), none⟩,
  ⟨some 61, .load false 1 (.t 60), none⟩,
  ⟨some 62, .buildSl 1 24 (.lst 1 []) 2 [(0, .t 59), (1, .t 61)], none⟩,
  ⟨some 63, .call (F "slices.Concat.I") [.t 62] [], none⟩,
  ⟨some 64, .fad 1 (.t 2), none⟩,
  ⟨some 65, .load false 1 (.t 64), none⟩,
  ⟨some 66, .call (F "slices.Clone.E") [.t 65] [], none⟩,
  ⟨some 67, .build [.nl 1, .nl 3] [(0, 1, .t 63), (1, 1, .t 66)], none⟩,
  ⟨some 13, .alloc [.nl 1, .nl 3], none⟩,
  ⟨none, .store 2 (.t 13) (.t 67), none⟩]
def c_graph_Union_r13 (F : String → Nat) : List LI := [⟨some 68, .fad 1 (.t 3), none⟩,
  ⟨some 69, .load false 1 (.t 68), none⟩,
  ⟨some 70, .len (.t 69), none⟩,
  ⟨some 71, .mov (.k (.int .i64 (0))), none⟩]
def c_graph_Union_r14 (F : String → Nat) : List LI := [⟨some 72, .bin .lss (.t 71) (.t 70), none⟩]
def c_graph_Union_r15 (F : String → Nat) : List LI := [⟨some 73, .iad 3 (.t 69) (.t 71), none⟩,
  ⟨some 74, .load true 3 (.t 73), none⟩,
  ⟨some 15, .alloc [.int .i64 (0), .int .i64 (0), .int .i64 (0)], none⟩,
  ⟨none, .store 3 (.t 15) (.t 74), none⟩]
def c_graph_Union_r16 (F : String → Nat) : List LI := [⟨some 75, .fad 1 (.t 13), none⟩,
  ⟨some 76, .load false 1 (.t 75), none⟩,
  ⟨some 77, .fad 0 (.t 15), none⟩,
  ⟨some 78, .load false 1 (.t 77), none⟩,
  ⟨some 79, .fad 1 (.t 15), none⟩,
  ⟨some 80, .load false 1 (.t 79), none⟩,
  ⟨some 81, .mov (.t 11), none⟩,
  ⟨some 82, .bin .add (.t 80) (.t 81), none⟩,
  ⟨some 83, .fad 2 (.t 15), none⟩,
  ⟨some 84, .load false 1 (.t 83), none⟩,
  ⟨some 85, .mov (.t 11), none⟩,
  ⟨some 86, .bin .add (.t 84) (.t 85), none⟩,
  ⟨some 87, .build [.int .i64 (0), .int .i64 (0), .int .i64 (0)] [(0, 1, .t 78), (1, 1, .t 82), (2, 1, .t 86)], none⟩,
  ⟨some 88, .buildSl 3 24 (.agg [.int .i64 (0), .int .i64 (0), .int .i64 (0)]) 1 [(0, .t 87)], none⟩,
  ⟨some 89, .app 3 24 (.t 76) (.t 88), none⟩,
  ⟨some 90, .fad 1 (.t 13), none⟩,
  ⟨none, .store 1 (.t 90) (.t 89), none⟩]
def c_graph_Union_r17 (F : String → Nat) : List LI := [⟨some 91, .bin .add (.t 71) (.k (.int .i64 (1))), none⟩,
  ⟨some 71, .mov (.t 91), none⟩]
def c_graph_Union_b18 (F : String → Nat) : LC := (.seq (.reg (c_graph_Union_r14 F) [3, 4, 5, 6, 11, 12, 13, 69, 70, 71, 72]) (.seq (.cond (.t 72) .skip (.exit 2)) (.seq (.block 3 (.seq (.reg (c_graph_Union_r15 F) [3, 4, 5, 6, 11, 12, 13, 15, 69, 70, 71]) (.reg (c_graph_Union_r16 F) [3, 4, 5, 6, 11, 12, 13, 69, 70, 71]))) (.reg (c_graph_Union_r17 F) [3, 4, 5, 6, 11, 12, 13, 69, 70, 71]))))
def c_graph_Union_r19 (F : String → Nat) : List LI := [⟨some 92, .mov (.t 11), none⟩,
  ⟨some 93, .call (F "graph.numbers") [.k (.int .i64 (0)), .t 92] [], none⟩,
  ⟨some 94, .mov (.t 12), none⟩,
  ⟨some 95, .call (F "graph.numbers") [.k (.int .i64 (0)), .t 94] [], none⟩,
  ⟨some 96, .build [.nl 1, .nl 1] [(0, 1, .t 93), (1, 1, .t 95)], none⟩,
  ⟨some 16, .alloc [.nl 1, .nl 1], none⟩,
  ⟨none, .store 2 (.t 16) (.t 96), none⟩]
def c_graph_Union_r20 (F : String → Nat) : List LI := [⟨some 97, .mov (.t 11), none⟩,
  ⟨some 98, .fad 0 (.t 3), none⟩,
  ⟨some 99, .load false 1 (.t 98), none⟩,
  ⟨some 100, .len (.t 99), none⟩,
  ⟨some 101, .call (F "graph.numbers") [.t 97, .t 100] [], none⟩,
  ⟨some 102, .mov (.t 12), none⟩,
  ⟨some 103, .fad 1 (.t 3), none⟩,
  ⟨some 104, .load false 1 (.t 103), none⟩,
  ⟨some 105, .len (.t 104), none⟩,
  ⟨some 106, .call (F "graph.numbers") [.t 102, .t 105] [], none⟩,
  ⟨some 107, .build [.nl 1, .nl 1] [(0, 1, .t 101), (1, 1, .t 106)], none⟩,
  ⟨some 17, .alloc [.nl 1, .nl 1], none⟩,
  ⟨none, .store 2 (.t 17) (.t 107), none⟩]
def c_graph_Union_r21 (F : String → Nat) : List LI := [⟨some 108, .load true 2 (.t 13), none⟩,
  ⟨some 109, .load true 2 (.t 16), none⟩,
  ⟨some 110, .load true 2 (.t 17), none⟩,
  ⟨none, .store 2 (.t 4) (.t 108), none⟩,
  ⟨none, .store 2 (.t 5) (.t 109), none⟩,
  ⟨none, .store 2 (.t 6) (.t 110), none⟩,
  ⟨some 7, .mov (.k (.int .i64 (0))), none⟩]
def c_graph_Union (F : String → Nat) : LC := (.seq (.reg (c_graph_Union_r0 F) [2, 3, 4, 5, 6]) (.seq (.seq (.reg (c_graph_Union_r1 F) [2, 3, 4, 5, 6, 20, 21, 22]) (.block 0 (.loop [2, 3, 4, 5, 6, 20, 21, 22] (c_graph_Union_b8 F)))) (.seq (.dreg [] (c_graph_Union_r9 F) [2, 3, 4, 5, 6, 11, 12]) (.seq (.seq (.reg (c_graph_Union_r10 F) [2, 3, 4, 5, 6, 11, 12, 54]) (.cond (.t 54) (.seq (.reg (c_graph_Union_r11 F) [4, 5, 6, 7]) .ret) .skip)) (.seq (.dreg [(4, none, [], true), (5, none, [], true), (7, (some 64), [4, 5], false)] (c_graph_Union_r12 F) [3, 4, 5, 6, 11, 12, 13]) (.seq (.seq (.reg (c_graph_Union_r13 F) [3, 4, 5, 6, 11, 12, 13, 69, 70, 71]) (.block 2 (.loop [3, 4, 5, 6, 11, 12, 13, 69, 70, 71] (c_graph_Union_b18 F)))) (.seq (.reg (c_graph_Union_r19 F) [3, 4, 5, 6, 11, 12, 13, 16]) (.seq (.dreg [(4, none, [], true), (7, (some 64), [4], false)] (c_graph_Union_r20 F) [4, 5, 6, 13, 16, 17]) (.seq (.dreg [(1, none, [], true), (2, none, [], true), (3, none, [1, 2], false), (4, none, [2], false)] (c_graph_Union_r21 F) [4, 5, 6, 7]) .ret)))))))))
def h_graph_Union : Hints := ⟨[], fun _ => [], tab [(0, [2, 3, 4, 5, 6]), (1, [2, 3, 4, 5, 6, 20, 21, 22]), (2, [2, 3, 4, 5, 6, 20, 21, 22, 23]), (3, [2, 3, 4, 5, 6, 9, 20, 21, 22]), (4, [2, 3, 4, 5, 6, 10, 20, 21, 22]), (5, [2, 3, 4, 5, 6, 10, 20, 21, 22, 29]), (6, [4, 5, 6, 7]), (7, [2, 3, 4, 5, 6, 20, 21, 22]), (8, [2, 3, 4, 5, 6, 11, 12]), (9, [2, 3, 4, 5, 6, 11, 12, 54]), (10, [4, 5, 6, 7]), (11, [3, 4, 5, 6, 11, 12, 13]), (12, [3, 4, 5, 6, 11, 12, 13, 69, 70, 71]), (13, [3, 4, 5, 6, 11, 12, 13, 69, 70, 71, 72]), (14, [3, 4, 5, 6, 11, 12, 13, 15, 69, 70, 71]), (15, [3, 4, 5, 6, 11, 12, 13, 69, 70, 71]), (16, [3, 4, 5, 6, 11, 12, 13, 69, 70, 71]), (17, [3, 4, 5, 6, 11, 12, 13, 16]), (18, [4, 5, 6, 13, 16, 17]), (19, [4, 5, 6, 7])], tab [(2, [2, 3, 4, 5, 6, 20, 21, 22]), (13, [3, 4, 5, 6, 11, 12, 13, 69, 70, 71])]⟩

attribute [go_sem] c_slices_Grow_I_r0 c_slices_Grow_I_r1 c_slices_Grow_I_r2 c_slices_Grow_I_r3 c_slices_Grow_I_r4 c_slices_Grow_I_r5 c_slices_Grow_I_r6 c_slices_Grow_I c_slices_Concat_I_r0 c_slices_Concat_I_r1 c_slices_Concat_I_r2 c_slices_Concat_I_r3 c_slices_Concat_I_r4 c_slices_Concat_I_r5 c_slices_Concat_I_r6 c_slices_Concat_I_r7 c_slices_Concat_I_r8 c_slices_Concat_I_r10 c_slices_Concat_I_r11 c_slices_Concat_I_r12 c_slices_Concat_I_r13 c_slices_Concat_I_r14 c_slices_Concat_I_r15 c_slices_Concat_I_r17 c_slices_Concat_I c_graph_Union_r0 c_graph_Union_r1 c_graph_Union_r2 c_graph_Union_r3 c_graph_Union_r4 c_graph_Union_r5 c_graph_Union_r6 c_graph_Union_r7 c_graph_Union_r9 c_graph_Union_r10 c_graph_Union_r11 c_graph_Union_r12 c_graph_Union_r13 c_graph_Union_r14 c_graph_Union_r15 c_graph_Union_r16 c_graph_Union_r17 c_graph_Union_r19 c_graph_Union_r20 c_graph_Union_r21 c_graph_Union
def shE1 (n : Int) (x : E) : E := ⟨x.t, x.f + n, x.o + n⟩
def uniG (a b : G) : G × Mo × Mo × Int :=
  if validG a ≠ 0 then (⟨[], []⟩, ⟨[], []⟩, ⟨[], []⟩, validG a) else if validG b ≠ 0 then (⟨[], []⟩, ⟨[], []⟩, ⟨[], []⟩, validG b)
  else if 40 < a.n.length + b.n.length ∨ 80 < a.e.length + b.e.length then (⟨[], []⟩, ⟨[], []⟩, ⟨[], []⟩, 3)
  else (⟨a.n ++ b.n, a.e ++ b.e.map (shE1 a.n.length)⟩, ⟨nums 0 a.n.length, nums 0 a.e.length⟩, ⟨nums a.n.length b.n.length, nums a.e.length b.e.length⟩, 0)
def uniD (r : G × Mo × Mo × Int) : D := .tup [gA r.1, mA r.2.1, mA r.2.2.1, .int .i64 r.2.2.2]
section
variable (P : Program) (F : String → Nat)
def K_graph_Union : Prop := ∀ a b : G, FC P (F "graph.Union") [gD a, gD b] (uniD (uniG a b)) []
def K_slices_Grow_I : Prop := ∀ n : Nat, n ≤ 10000000000000 → FC P (F "slices.Grow.I") [.nl 1, .int .i64 n] (.arr 1 []) []
def K_slices_Concat_I : Prop := ∀ a b : List Int, a.length ≤ 1000000000000 → b.length ≤ 1000000000000 → FC P (F "slices.Concat.I") [.lst 1 [.lst 1 (ints a), .lst 1 (ints b)]] (.arr 1 (ints (a ++ b))) []
end
section
variable {P : Program} {F : String → Nat} {α : Type}
def catL (a b : List Int) : Nat → List Int
  | 0 => []
  | 1 => a
  | _ => a ++ b
theorem FC.nl {P : Program} {f a b : Nat} {args : List D} {r : D} {outs : List (Nat × D)} (h : FC P f (.nl a :: args) r outs) : FC P f (.nl b :: args) r outs := by
  unfold FC at *
  simp only [DRs, DR] at *
  exact h
theorem w_slices_Grow_I (n : Nat) (hn : n ≤ 10000000000000) : W P (c_slices_Grow_I F) (Done [.t 4] [] (.arr 1 []) []) (init [.nl 1, .int .i64 n]) := by
  refine W_of ?_
  simp (config := { maxSteps := 1000000 }) (disch := first | omega | (simp only [go_sem]; omega)) only [go_sem, ↓reduceIte]
  refine bran_dec (fun c => ?_) (fun c => ?_)
  · omega
  · simp (config := { maxSteps := 1000000 }) (disch := first | omega | (simp only [go_sem]; omega)) only [go_sem, ↓reduceIte]
    refine bran_dec (fun c => ?_) (fun c => ?_)
    · simp (config := { maxSteps := 1000000 }) (disch := first | omega | (simp only [go_sem]; omega)) only [go_sem, ↓reduceIte]
      rw [if_neg (by omega)]
      rfl
    · simp (config := { maxSteps := 1000000 }) (disch := first | omega | (simp only [go_sem]; omega)) only [go_sem, ↓reduceIte]
theorem w_slices_Concat_I (hg : K_slices_Grow_I P F) (a b : List Int) (ha : a.length ≤ 1000000000000) (hb : b.length ≤ 1000000000000) : W P (c_slices_Concat_I F) (Done [.t 2] [] (.arr 1 (ints (a ++ b))) []) (init [.lst 1 [.lst 1 (ints a), .lst 1 (ints b)]]) := by
  refine W_of ?_
  simp (config := { maxSteps := 1000000 }) (disch := first | omega | (simp only [go_sem]; omega)) only [go_sem, ↓reduceIte]
  refine W_loop (fun i : Nat => ⟨[(0, D.lst 1 [D.lst 1 (ints a), D.lst 1 (ints b)]), (3, D.int IntKind.i64 (catL a b i).length), (9, D.lst 1 [D.lst 1 (ints a), D.lst 1 (ints b)]), (10, D.int IntKind.i64 (2 : Nat)), (11, D.int IntKind.i64 i)], [], 0⟩) (fun i => i ≤ 2) (fun i => 2 - i) 0 ?_ ?_ ?_
  · simp (config := { maxSteps := 1000000 }) (disch := first | omega | (simp only [go_sem]; omega)) only [go_sem, ↓reduceIte]
    rfl
  · omega
  · intro i hi
    have h3 : i = 0 ∨ i = 1 ∨ i = 2 := by omega
    rcases h3 with rfl | rfl | rfl
    · simp (config := { maxSteps := 1000000 }) (disch := first | omega | (simp only [go_sem]; omega)) only [go_sem, ↓reduceIte, c_slices_Concat_I_b9, catL]
      refine bran_dec (fun c => ?_) (fun c => absurd c (by omega))
      simp (config := { maxSteps := 1000000 }) (disch := first | omega | (simp only [go_sem]; omega)) only [go_sem, ↓reduceIte, catL]
      refine bran_dec (fun c => by omega) (fun c => ?_)
      simp (config := { maxSteps := 1000000 }) (disch := first | omega | (simp only [go_sem]; omega)) only [go_sem, ↓reduceIte]
      exact ⟨1, by simp [catL], by omega, by omega⟩
    · simp (config := { maxSteps := 1000000 }) (disch := first | omega | (simp only [go_sem]; omega)) only [go_sem, ↓reduceIte, c_slices_Concat_I_b9, catL]
      refine bran_dec (fun c => ?_) (fun c => absurd c (by omega))
      simp (config := { maxSteps := 1000000 }) (disch := first | omega | (simp only [go_sem]; omega)) only [go_sem, ↓reduceIte, catL]
      refine bran_dec (fun c => by omega) (fun c => ?_)
      simp (config := { maxSteps := 1000000 }) (disch := first | omega | (simp only [go_sem]; omega)) only [go_sem, ↓reduceIte]
      exact ⟨2, by simp [catL], by omega, by omega⟩
    · simp (config := { maxSteps := 1000000 }) (disch := first | omega | (simp only [go_sem]; omega)) only [go_sem, ↓reduceIte, c_slices_Concat_I_b9]
      refine bran_dec (fun c => absurd c (by omega)) (fun c => ?_)
      simp (config := { maxSteps := 1000000 }) (disch := first | omega | (simp only [go_sem]; omega)) only [go_sem, ↓reduceIte]
      have r := FC.nl (b := 0) (hg (catL a b 2).length (by simp [catL]; omega))
      refine call_by r ?_
      simp (config := { maxSteps := 1000000 }) (disch := first | omega | (simp only [go_sem]; omega)) only [go_sem, ↓reduceIte]
      refine W_loop (fun i : Nat => ⟨[(6, D.sl 0 0 (catL a b i).length), (25, D.lst 1 [D.lst 1 (ints a), D.lst 1 (ints b)]), (26, D.int IntKind.i64 (2 : Nat)), (27, D.int IntKind.i64 i)], [(0, Ent.arr 1 (ints (catL a b i)))], 1⟩) (fun i => i ≤ 2) (fun i => 2 - i) 0 ?_ ?_ ?_
      · simp (config := { maxSteps := 1000000 }) (disch := first | omega | (simp only [go_sem]; omega)) only [go_sem, ↓reduceIte]
        rfl
      · omega
      · intro i hi
        have h3 : i = 0 ∨ i = 1 ∨ i = 2 := by omega
        rcases h3 with rfl | rfl | rfl
        · simp (config := { maxSteps := 1000000 }) (disch := first | omega | (simp only [go_sem]; omega)) only [go_sem, ↓reduceIte, c_slices_Concat_I_b16, catL]
          refine bran_dec (fun c => ?_) (fun c => absurd c (by omega))
          simp (config := { maxSteps := 1000000 }) (disch := first | omega | (simp only [go_sem]; omega)) only [go_sem, ↓reduceIte, catL]
          exact ⟨1, by simp, by omega, by omega⟩
        · simp (config := { maxSteps := 1000000 }) (disch := first | omega | (simp only [go_sem]; omega)) only [go_sem, ↓reduceIte, c_slices_Concat_I_b16, catL]
          refine bran_dec (fun c => ?_) (fun c => absurd c (by omega))
          simp (config := { maxSteps := 1000000 }) (disch := first | omega | (simp only [go_sem]; omega)) only [go_sem, ↓reduceIte, catL]
          exact ⟨2, by simp, by omega, by omega⟩
        · simp (config := { maxSteps := 1000000 }) (disch := first | omega | (simp only [go_sem]; omega)) only [go_sem, ↓reduceIte, c_slices_Concat_I_b16, catL]
          refine bran_dec (fun c => absurd c (by omega)) (fun c => ?_)
          simp (config := { maxSteps := 1000000 }) (disch := first | omega | (simp only [go_sem]; omega)) only [go_sem, ↓reduceIte, catL]
theorem w_graph_Union (hv : K_graph_Valid P F) (hc : K_slices_Concat_I P F) (hcl : K_slices_Clone_E P F) (hn : K_graph_numbers P F) (a b : G) : W P (c_graph_Union F) (Done [.c 4 true 2, .c 5 true 2, .c 6 true 2, .t 7] [] (uniD (uniG a b)) []) (init [gD a, gD b]) := by
  refine W_of ?_
  obtain ⟨an, ae⟩ := a
  obtain ⟨bn, be⟩ := b
  simp (config := { maxSteps := 1000000 }) (disch := first | omega | (simp only [go_sem]; omega)) only [go_sem, ↓reduceIte, gD]
  refine W_loop (fun i : Nat => ⟨[(2, D.pt 0 0), (3, D.pt 1 0), (4, D.pt 4 0), (5, D.pt 7 0), (6, D.pt 10 0), (20, D.sl 11 0 2), (21, D.int IntKind.i64 (2 : Nat)), (22, D.int IntKind.i64 i)],
      [(0, Ent.box [D.lst 1 (ints an), D.lst 3 (eds ae)]), (1, Ent.box [D.lst 1 (ints bn), D.lst 3 (eds be)]),
        (2, Ent.arr 1 []), (3, Ent.arr 3 []), (4, Ent.box [D.sl 2 0 0, D.sl 3 0 0]), (5, Ent.arr 1 []),
        (6, Ent.arr 1 []), (7, Ent.box [D.sl 5 0 0, D.sl 6 0 0]), (8, Ent.arr 1 []), (9, Ent.arr 1 []),
        (10, Ent.box [D.sl 8 0 0, D.sl 9 0 0]),
        (11, Ent.arr 2 [D.agg [D.lst 1 (ints an), D.lst 3 (eds ae)], D.agg [D.lst 1 (ints bn), D.lst 3 (eds be)]])], 12⟩)
    (fun i => i ≤ 2 ∧ (1 ≤ i → validG ⟨an, ae⟩ = 0) ∧ (2 ≤ i → validG ⟨bn, be⟩ = 0)) (fun i => 2 - i) 0 ?_ ?_ ?_
  · simp (config := { maxSteps := 1000000 }) (disch := first | omega | (simp only [go_sem]; omega)) only [go_sem, ↓reduceIte]
    rfl
  · simp
  · rintro i ⟨hi, p1, p2⟩
    have h3 : i = 0 ∨ i = 1 ∨ i = 2 := by omega
    rcases h3 with rfl | rfl | rfl
    · simp (config := { maxSteps := 1000000 }) (disch := first | omega | (simp only [go_sem]; omega)) only [go_sem, ↓reduceIte, c_graph_Union_b8]
      refine bran_dec (fun c => ?_) (fun c => absurd c (by omega))
      simp (config := { maxSteps := 1000000 }) (disch := first | omega | (simp only [go_sem]; omega)) only [go_sem, ↓reduceIte]
      refine call_by (hv ⟨an, ae⟩) ?_
      simp (config := { maxSteps := 1000000 }) (disch := first | omega | (simp only [go_sem]; omega)) only [go_sem, ↓reduceIte]
      refine bran_ndec (fun c1 => ?_) (fun c1 => ?_)
      · simp (config := { maxSteps := 1000000 }) (disch := first | omega | (simp only [go_sem]; omega)) only [go_sem, ↓reduceIte]
        simp [uniG, c1, uniD, gA, mA, ints, eds]
      · simp (config := { maxSteps := 1000000 }) (disch := first | omega | (simp only [go_sem]; omega)) only [go_sem, ↓reduceIte]
        exact ⟨1, by simp, ⟨by omega, fun _ => c1, by omega⟩, by omega⟩
    · have c1 := p1 (by omega)
      simp (config := { maxSteps := 1000000 }) (disch := first | omega | (simp only [go_sem]; omega)) only [go_sem, ↓reduceIte, c_graph_Union_b8]
      refine bran_dec (fun c => ?_) (fun c => absurd c (by omega))
      simp (config := { maxSteps := 1000000 }) (disch := first | omega | (simp only [go_sem]; omega)) only [go_sem, ↓reduceIte]
      refine call_by (hv ⟨bn, be⟩) ?_
      simp (config := { maxSteps := 1000000 }) (disch := first | omega | (simp only [go_sem]; omega)) only [go_sem, ↓reduceIte]
      refine bran_ndec (fun c2 => ?_) (fun c2 => ?_)
      · simp (config := { maxSteps := 1000000 }) (disch := first | omega | (simp only [go_sem]; omega)) only [go_sem, ↓reduceIte]
        simp [uniG, c1, c2, uniD, gA, mA, ints, eds]
      · simp (config := { maxSteps := 1000000 }) (disch := first | omega | (simp only [go_sem]; omega)) only [go_sem, ↓reduceIte]
        exact ⟨2, by simp, ⟨by omega, fun _ => c1, fun _ => c2⟩, by omega⟩
    · have c1 := p1 (by omega)
      have c2 := p2 (by omega)
      obtain ⟨v1, v2, v3, v4⟩ := valid_spec c1
      simp only at v1 v2 v3 v4
      obtain ⟨u1, u2, u3, u4⟩ := valid_spec c2
      simp only at u1 u2 u3 u4
      simp (config := { maxSteps := 1000000 }) (disch := first | omega | (simp only [go_sem]; omega)) only [go_sem, ↓reduceIte, c_graph_Union_b8]
      refine bran_dec (fun c => absurd c (by omega)) (fun c => ?_)
      simp (config := { maxSteps := 1000000 }) (disch := first | omega | (simp only [go_sem]; omega)) only [go_sem, ↓reduceIte]
      have big : 40 < an.length + bn.length ∨ 80 < ae.length + be.length → uniG ⟨an, ae⟩ ⟨bn, be⟩ = (⟨[], []⟩, ⟨[], []⟩, ⟨[], []⟩, 3) := fun h => by
        simp only [uniG, c1, c2, ne_eq, not_true_eq_false, if_false, if_pos h]
      refine bran_dec (fun c3 => ?_) (fun c3 => ?_)
      · simp (config := { maxSteps := 1000000 }) (disch := first | omega | (simp only [go_sem]; omega)) only [go_sem, ↓reduceIte, c3]
        rw [big (by omega)]
        simp [uniD, gA, mA, ints, eds]
      · simp (config := { maxSteps := 1000000 }) (disch := first | omega | (simp only [go_sem]; omega)) only [go_sem, ↓reduceIte, c3]
        refine bran_dec (fun c4 => ?_) (fun c4 => ?_)
        · simp (config := { maxSteps := 1000000 }) (disch := first | omega | (simp only [go_sem]; omega)) only [go_sem, ↓reduceIte]
          rw [big (by omega)]
          simp [uniD, gA, mA, ints, eds]
        · have hg : uniG ⟨an, ae⟩ ⟨bn, be⟩ = (⟨an ++ bn, ae ++ be.map (shE1 an.length)⟩, ⟨nums 0 an.length, nums 0 ae.length⟩, ⟨nums an.length bn.length, nums ae.length be.length⟩, 0) := by
            simp only [uniG, c1, c2, ne_eq, not_true_eq_false, if_false]
            rw [if_neg (by omega)]
          simp (config := { maxSteps := 1000000 }) (disch := first | omega | (simp only [go_sem]; omega)) only [go_sem, ↓reduceIte]
          refine call_by (hc an bn (by omega) (by omega)) ?_
          simp (config := { maxSteps := 1000000 }) (disch := first | omega | (simp only [go_sem]; omega)) only [go_sem, ↓reduceIte]
          refine call_by (hcl ae (by omega)) ?_
          simp (config := { maxSteps := 1000000 }) (disch := first | omega | (simp only [go_sem]; omega)) only [go_sem, ↓reduceIte]
          refine W_loop (fun i : Nat => ⟨[(3, D.pt 0 0), (4, D.pt 3 0), (5, D.pt 6 0), (6, D.pt 9 0), (11, D.int IntKind.i64 an.length),
              (12, D.int IntKind.i64 ae.length), (13, D.pt 12 0), (69, D.lst 3 (eds be)), (70, D.int IntKind.i64 be.length), (71, D.int IntKind.i64 i)],
            [(0, Ent.box [D.lst 1 (ints bn), D.lst 3 (eds be)]), (1, Ent.arr 1 []), (2, Ent.arr 3 []), (3, Ent.box [D.sl 1 0 0, D.sl 2 0 0]), (4, Ent.arr 1 []), (5, Ent.arr 1 []), (6, Ent.box [D.sl 4 0 0, D.sl 5 0 0]),
              (7, Ent.arr 1 []), (8, Ent.arr 1 []), (9, Ent.box [D.sl 7 0 0, D.sl 8 0 0]), (10, Ent.arr 1 (ints (an ++ bn))), (11, Ent.arr 3 (eds (ae ++ (be.take i).map (shE1 an.length)))),
              (12, Ent.box [D.sl 10 0 (an.length + bn.length), D.sl 11 0 (ae.length + i)])], 13⟩) (fun i => i ≤ be.length) (fun i => be.length - i) 0 ?_ ?_ ?_
          · simp (config := { maxSteps := 1000000 }) (disch := first | omega | (simp only [go_sem]; omega)) only [go_sem, ↓reduceIte]
            simp
          · omega
          · intro i hi
            have el : (ae ++ (be.take i).map (shE1 an.length)).length = ae.length + i := by simp; omega
            simp (config := { maxSteps := 1000000 }) (disch := first | omega | (simp only [go_sem]; omega)) only [go_sem, ↓reduceIte, c_graph_Union_b18]
            refine bran_dec (fun c => ?_) (fun c => ?_)
            · have hf := fits_spec (u4 _ (gt_mem (by omega) c))
              simp (config := { maxSteps := 1000000 }) (disch := first | omega | (simp only [go_sem]; omega)) only [go_sem, ↓reduceIte, el]
              exact ⟨i + 1, by rw [take_gt (by omega)]; simp [shE1, Nat.add_assoc], by omega, by omega⟩
            · obtain rfl : i = be.length := by omega
              simp (config := { maxSteps := 1000000 }) (disch := first | omega | (simp only [go_sem]; omega)) only [go_sem, ↓reduceIte, el]
              refine call_by (hn _ _ (by omega) (by omega) (by omega)) ?_
              simp (config := { maxSteps := 1000000 }) (disch := first | omega | (simp only [go_sem]; omega)) only [go_sem, ↓reduceIte, nums_len]
              refine call_by (hn _ _ (by omega) (by omega) (by omega)) ?_
              simp (config := { maxSteps := 1000000 }) (disch := first | omega | (simp only [go_sem]; omega)) only [go_sem, ↓reduceIte, nums_len]
              refine call_by (hn _ _ (by omega) (by omega) (by omega)) ?_
              simp (config := { maxSteps := 1000000 }) (disch := first | omega | (simp only [go_sem]; omega)) only [go_sem, ↓reduceIte, nums_len]
              refine call_by (hn _ _ (by omega) (by omega) (by omega)) ?_
              simp (config := { maxSteps := 1000000 }) (disch := first | omega | (simp only [go_sem]; omega)) only [go_sem, ↓reduceIte, nums_len, List.length_map]
              rw [hg]
              simp [uniD, gA, mA]
end
end Go.Am
namespace Go.Am
open Go
set_option linter.unusedVariables false
set_option linter.unusedSimpArgs false
def unG (a b : G) : G := ⟨a.n ++ b.n, a.e ++ b.e.map (shE1 a.n.length)⟩
def inR (a b : G) : Mo := ⟨nums a.n.length b.n.length, nums a.e.length b.e.length⟩
def Big (b c : G) : Prop := 40 < b.n.length + c.n.length ∨ 80 < b.e.length + c.e.length
instance (b c : G) : Decidable (Big b c) := inferInstanceAs (Decidable (_ ∨ _))
/-- A span. -/
structure Sp where
  a : G
  b : G
  c : G
  f : Mo
  g : Mo
  deriving DecidableEq, Inhabited
def spE (s : Sp) : Int := if validM s.a s.b s.f ≠ 0 then validM s.a s.b s.f else validM s.a s.c s.g
def poErr (s : Sp) : Int := if spE s ≠ 0 then spE s else if Big s.b s.c then 3 else 0
def poF (s : Sp) : Mo := thenM s.f (idM s.b)
def poH (s : Sp) : Mo := thenM s.g (inR s.b s.c)
def poG (s : Sp) : G := gluG (unG s.b s.c) (poF s) (poH s)
def poQ (s : Sp) : Mo := gluM (unG s.b s.c) (poF s) (poH s)
def poP (s : Sp) : Mo := thenM (idM s.b) (poQ s)
def poK (s : Sp) : Mo := thenM (inR s.b s.c) (poQ s)
def poR (s : Sp) : G × Mo × Mo × Int := if poErr s = 0 then (poG s, poP s, poK s, 0) else (g0, m0, m0, poErr s)
def ontoL (n : Nat) (p h q k : List Int) : List Int := setL k q (setL h p (List.replicate n 0) p.length) q.length
def medU (s : Sp) (h k : Mo) : Mo := ⟨ontoL (poG s).n.length (poP s).n h.n (poK s).n k.n, ontoL (poG s).e.length (poP s).e h.e (poK s).e k.e⟩
def cocE (s : Sp) (x : G) (h k : Mo) : Int := if spE s ≠ 0 then spE s else if validM s.b x h ≠ 0 then validM s.b x h else if validM s.c x k ≠ 0 then validM s.c x k else if Big s.b s.c then 3 else if thenM s.f h = thenM s.g k then 0 else 11
def medP (s : Sp) (x : G) (h k : Mo) : Mo × Int := if cocE s x h k = 0 then (medU s h k, 0) else (m0, cocE s x h k)
def chkP (s : Sp) (x : G) (h k : Mo) : Bool := decide (cocE s x h k = 0) && (injM (poG s) x (medU s h k) && surM (poG s) x (medU s h k))
section
theorem nums_gtF {f : Int} {n i : Nat} (hi : i < n) : gt (nums f n) i = f + i := by
  unfold nums
  rw [gt_nat (by simp; exact hi)]
  simp
theorem gt_appL {α : Type} [Inhabited α] {l m : List α} {i : Nat} (h : i < l.length) : gt (l ++ m) i = gt l i := by
  rw [gt_nat (by simp; omega), gt_nat h, List.getElem_append_left h]
theorem gt_appR {α : Type} [Inhabited α] {l m : List α} {i : Nat} (h : i < m.length) : gt (l ++ m) ((l.length : Int) + i) = gt m i := by
  rw [show (l.length : Int) + i = ((l.length + i : Nat) : Int) by omega, gt_nat (by simp; omega), gt_nat h, List.getElem_append_right (by omega)]
  simp
theorem thr_assoc {l b c : List Int} (h : ∀ i : Nat, i < l.length → 0 ≤ gt l i ∧ gt l i < b.length) : thr (thr l b) c = thr l (thr b c) :=
  list_ext_gt (by simp only [thr_len]) fun i hi => by
    rw [thr_len, thr_len] at hi
    obtain ⟨k, hk, hk2⟩ := gtI (h i hi)
    rw [thr_gt (by rw [thr_len]; exact hi), thr_gt hi, thr_gt hi, hk2, thr_gt hk]
theorem then_assoc {a b c : G} {m n o : Mo} (hm : MOk a b m) (hn : MOk b c n) : thenM (thenM m n) o = thenM m (thenM n o) := by
  have l1 := hn.ln
  have l2 := hn.le
  refine mo_ext (thr_assoc fun i hi => ?_) (thr_assoc fun i hi => ?_)
  · rw [l1]; exact (hm.nd i (by rw [← hm.ln]; exact hi)).1
  · rw [l2]; exact (hm.ed i (by rw [← hm.le]; exact hi)).1
theorem then_okP {a b c : G} {m n : Mo} (hm : MOk a b m) (hn : MOk b c n) : MOk a c (thenM m n) := by
  have l1 := hm.ln
  have l2 := hm.le
  refine ⟨hm.va, hn.vb, by simp only [thenM, thr_len]; exact l1, by simp only [thenM, thr_len]; exact l2, fun i hi => ?_, fun i hi => ?_⟩
  · obtain ⟨h1, h2⟩ := hm.nd i hi
    obtain ⟨k, hk, hk2⟩ := gtI h1
    simp only [thenM]
    rw [thr_gt (by omega), hk2]
    rw [hk2] at h2
    obtain ⟨h3, h4⟩ := hn.nd k hk
    exact ⟨h3, by rw [h4, h2]⟩
  · obtain ⟨h1, h2, h3, h4⟩ := hm.ed i hi
    obtain ⟨k, hk, hk2⟩ := gtI h1
    obtain ⟨_, f1, f2⟩ := edge_fits hm.va (i := i) (by omega)
    obtain ⟨p, hp, hp2⟩ := gtI f1
    obtain ⟨q, hq, hq2⟩ := gtI f2
    simp only [thenM]
    rw [thr_gt (by omega), hk2]
    rw [hk2] at h2 h3 h4
    obtain ⟨g1, g2, g3, g4⟩ := hn.ed k hk
    refine ⟨g1, by rw [h2, g2], ?_, ?_⟩
    · rw [hp2, thr_gt (by omega), ← g3, ← h3, hp2]
    · rw [hq2, thr_gt (by omega), ← g4, ← h4, hq2]
theorem un_len (b c : G) : (unG b c).n.length = b.n.length + c.n.length ∧ (unG b c).e.length = b.e.length + c.e.length := by simp [unG]
theorem un_ok {b c : G} (vb : validG b = 0) (vc : validG c = 0) (hs : ¬ Big b c) : validG (unG b c) = 0 := by
  have v1 := valid_spec vb
  have v2 := valid_spec vc
  have hl := un_len b c
  unfold Big at hs
  refine valid_mk (by omega) (by omega) (fun x hx => ?_) (fun x hx => ?_)
  · rcases List.mem_append.1 hx with hx | hx
    · exact v1.2.2.1 x hx
    · exact v2.2.2.1 x hx
  · rw [hl.1]
    rcases List.mem_append.1 hx with hx | hx
    · have := fits_spec (v1.2.2.2 x hx)
      exact fits_mk this.1 (by omega) (by omega)
    · obtain ⟨y, hy, rfl⟩ := List.mem_map.1 hx
      have := fits_spec (v2.2.2.2 y hy)
      exact fits_mk this.1 (by simp only [shE1]; omega) (by simp only [shE1]; omega)
theorem inL_ok {b c : G} (vb : validG b = 0) (vc : validG c = 0) (hs : ¬ Big b c) : MOk b (unG b c) (idM b) := by
  have hl := un_len b c
  have hi := idM_ok vb
  refine ⟨vb, un_ok vb vc hs, hi.ln, hi.le, fun i h => ?_, fun i h => ?_⟩
  · simp only [idM, unG]
    rw [nums_gt h, gt_appL h]
    exact ⟨by simp; omega, rfl⟩
  · obtain ⟨h1, h2, h3, h4⟩ := hi.ed i h
    simp only [idM, unG] at *
    rw [nums_gt h] at h2 h3 h4 ⊢
    rw [gt_appL h]
    exact ⟨by simp; omega, h2, h3, h4⟩
theorem inR_ok {b c : G} (vb : validG b = 0) (vc : validG c = 0) (hs : ¬ Big b c) : MOk c (unG b c) (inR b c) := by
  have hl := un_len b c
  refine ⟨vc, un_ok vb vc hs, by simp [inR, nums_len], by simp [inR, nums_len], fun i h => ?_, fun i h => ?_⟩
  · simp only [inR, unG]
    rw [nums_gtF h, gt_appR h]
    exact ⟨by simp; omega, rfl⟩
  · obtain ⟨_, t2, t3⟩ := edge_fits vc (i := i) (by omega)
    obtain ⟨p, hp, hp2⟩ := gtI t2
    obtain ⟨q, hq, hq2⟩ := gtI t3
    simp only [inR, unG]
    rw [nums_gtF h, gt_appR (by simpa using h), gt_map h]
    refine ⟨by simp; omega, rfl, ?_, ?_⟩
    · simp only [shE1]
      rw [hp2, nums_gtF hp]; omega
    · simp only [shE1]
      rw [hq2, nums_gtF hq]; omega
theorem split_i {b c i : Nat} (h : i < b + c) : i < b ∨ ∃ j : Nat, j < c ∧ i = b + j := by
  by_cases x : i < b
  · exact .inl x
  · exact .inr ⟨i - b, by omega, by omega⟩
/-- Two morphisms from a union are the same if they are so on both sides. -/
theorem un_one {b c x : G} {u v : Mo} (hu : MOk (unG b c) x u) (hv : MOk (unG b c) x v) (h1 : thenM (idM b) u = thenM (idM b) v) (h2 : thenM (inR b c) u = thenM (inR b c) v) : u = v := by
  have hl := un_len b c
  refine mo_ext (list_ext_gt (by rw [hu.ln, hv.ln]) fun i hi => ?_) (list_ext_gt (by rw [hu.le, hv.le]) fun i hi => ?_)
  · rw [hu.ln, hl.1] at hi
    rcases split_i hi with h | ⟨j, h, rfl⟩
    · have := thenM_n h1 (i := i) (by simp [idM, nums_len]; exact h) (by simp [idM, nums_len]; exact h)
      simp only [idM] at this
      rwa [nums_gt h] at this
    · have := thenM_n h2 (i := j) (by simp [inR, nums_len]; exact h) (by simp [inR, nums_len]; exact h)
      simp only [inR] at this
      rw [nums_gtF h] at this
      rw [show ((b.n.length + j : Nat) : Int) = (b.n.length : Int) + j by omega]
      exact this
  · rw [hu.le, hl.2] at hi
    rcases split_i hi with h | ⟨j, h, rfl⟩
    · have := thenM_e h1 (i := i) (by simp [idM, nums_len]; exact h) (by simp [idM, nums_len]; exact h)
      simp only [idM] at this
      rwa [nums_gt h] at this
    · have := thenM_e h2 (i := j) (by simp [inR, nums_len]; exact h) (by simp [inR, nums_len]; exact h)
      simp only [inR] at this
      rw [nums_gtF h] at this
      rw [show ((b.e.length + j : Nat) : Int) = (b.e.length : Int) + j by omega]
      exact this
/-- A span that is right. -/
structure SOk (s : Sp) : Prop where
  f : MOk s.a s.b s.f
  g : MOk s.a s.c s.g
  s : ¬ Big s.b s.c
theorem spE_ok {s : Sp} : spE s = 0 ↔ MOk s.a s.b s.f ∧ MOk s.a s.c s.g := by
  rw [← mok, ← mok]
  unfold spE
  split
  · rename_i h; exact ⟨fun e => absurd e h, fun e => absurd e.1 h⟩
  · rename_i h; exact ⟨fun e => ⟨Decidable.not_not.1 h, e⟩, fun e => e.2⟩
theorem poErr_ok {s : Sp} : poErr s = 0 ↔ SOk s := by
  unfold poErr
  split
  · rename_i h; exact ⟨fun e => absurd e h, fun e => absurd (spE_ok.2 ⟨e.f, e.g⟩) h⟩
  · rename_i h
    have h := spE_ok.1 (Decidable.not_not.1 h)
    split
    · rename_i hb; exact ⟨fun e => absurd e (by decide), fun e => absurd hb e.s⟩
    · rename_i hb; exact ⟨fun _ => ⟨h.1, h.2, hb⟩, fun _ => rfl⟩
section
variable {s : Sp}
theorem SOk.uF (h : SOk s) : MOk s.a (unG s.b s.c) (poF s) := then_okP h.f (inL_ok h.f.vb h.g.vb h.s)
theorem SOk.uH (h : SOk s) : MOk s.a (unG s.b s.c) (poH s) := then_okP h.g (inR_ok h.f.vb h.g.vb h.s)
theorem SOk.q (h : SOk s) : MOk (unG s.b s.c) (poG s) (poQ s) := glu_ok h.uF h.uH
theorem SOk.p (h : SOk s) : MOk s.b (poG s) (poP s) := then_okP (inL_ok h.f.vb h.g.vb h.s) h.q
theorem SOk.k (h : SOk s) : MOk s.c (poG s) (poK s) := then_okP (inR_ok h.f.vb h.g.vb h.s) h.q
theorem SOk.comm (h : SOk s) : thenM s.f (poP s) = thenM s.g (poK s) := by
  unfold poP poK
  rw [← then_assoc h.f (inL_ok h.f.vb h.g.vb h.s), ← then_assoc h.g (inR_ok h.f.vb h.g.vb h.s)]
  exact glu_eq h.uF h.uH
theorem SOk.one (hs : SOk s) {x : G} {u v : Mo} (hu : MOk (poG s) x u) (hv : MOk (poG s) x v) (h1 : thenM (poP s) u = thenM (poP s) v) (h2 : thenM (poK s) u = thenM (poK s) v) : u = v := by
  have il := inL_ok hs.f.vb hs.g.vb hs.s
  have ir := inR_ok hs.f.vb hs.g.vb hs.s
  refine glu_one hs.uF hs.uH hu hv (un_one (then_okP hs.q hu) (then_okP hs.q hv) ?_ ?_)
  · exact (then_assoc il hs.q).symm.trans (h1.trans (then_assoc il hs.q))
  · exact (then_assoc ir hs.q).symm.trans (h2.trans (then_assoc ir hs.q))
theorem SOk.surN (hs : SOk s) {j : Nat} (hj : j < (poG s).n.length) : (∃ i : Nat, i < s.b.n.length ∧ gt (poP s).n i = j) ∨ ∃ i : Nat, i < s.c.n.length ∧ gt (poK s).n i = j := by
  obtain ⟨i, hi, hi2⟩ := glu_surN hs.uF hs.uH hj
  rw [(un_len _ _).1] at hi
  rcases split_i hi with h | ⟨k, h, rfl⟩
  · refine .inl ⟨i, h, ?_⟩
    simp only [poP, thenM, idM]
    rw [thr_gt (by rw [nums_len]; exact h), nums_gt h]
    exact hi2
  · refine .inr ⟨k, h, ?_⟩
    simp only [poK, thenM, inR]
    rw [thr_gt (by rw [nums_len]; exact h), nums_gtF h, show (s.b.n.length : Int) + k = ((s.b.n.length + k : Nat) : Int) by omega]
    exact hi2
theorem SOk.surE (hs : SOk s) {j : Nat} (hj : j < (poG s).e.length) : (∃ i : Nat, i < s.b.e.length ∧ gt (poP s).e i = j) ∨ ∃ i : Nat, i < s.c.e.length ∧ gt (poK s).e i = j := by
  obtain ⟨i, hi, hi2⟩ := glu_surE hs.uF hs.uH hj
  rw [(un_len _ _).2] at hi
  rcases split_i hi with h | ⟨k, h, rfl⟩
  · refine .inl ⟨i, h, ?_⟩
    simp only [poP, thenM, idM]
    rw [thr_gt (by rw [nums_len]; exact h), nums_gt h]
    exact hi2
  · refine .inr ⟨k, h, ?_⟩
    simp only [poK, thenM, inR]
    rw [thr_gt (by rw [nums_len]; exact h), nums_gtF h, show (s.b.e.length : Int) + k = ((s.b.e.length + k : Nat) : Int) by omega]
    exact hi2
theorem onto_eq {p h q k w : List Int} (h1 : ∀ i : Nat, i < p.length → 0 ≤ gt p i ∧ gt w (gt p i) = gt h i) (h2 : ∀ i : Nat, i < q.length → 0 ≤ gt q i ∧ gt w (gt q i) = gt k i) (hc : ∀ j : Nat, j < w.length → (∃ i : Nat, i < p.length ∧ gt p i = j) ∨ ∃ i : Nat, i < q.length ∧ gt q i = j) :
    ontoL w.length p h q k = w := by
  unfold ontoL
  refine list_ext_gt (by simp [setL_len]) fun j hj => ?_
  simp only [setL_len, List.length_replicate] at hj
  rcases setL_gt (z := setL h p (List.replicate w.length 0) p.length) h2 j (by simp [setL_len]; exact hj) with e | ⟨e, e2⟩
  · exact e
  · rw [e]
    rcases setL_gt (z := List.replicate w.length 0) h1 j (by simp; exact hj) with d | ⟨_, d⟩
    · exact d
    · rcases hc j hj with ⟨i, i1, i2⟩ | ⟨i, i1, i2⟩
      · exact absurd i2 (d i i1)
      · exact absurd i2 (e2 i i1)
/-- What Mediate comes to is what mediates. -/
theorem SOk.medU (hs : SOk s) {x : G} {u : Mo} (hu : MOk (poG s) x u) : medU s (thenM (poP s) u) (thenM (poK s) u) = u := by
  have lp := hs.p.ln
  have lk := hs.k.ln
  have mp := hs.p.le
  have mk := hs.k.le
  refine mo_ext ?_ ?_
  · simp only [Am.medU]
    rw [← hu.ln]
    refine onto_eq (fun i hi => ⟨?_, ?_⟩) (fun i hi => ⟨?_, ?_⟩) fun j hj => ?_
    · exact (hs.p.nd i (by omega)).1.1
    · simp only [thenM]; rw [thr_gt hi]
    · exact (hs.k.nd i (by omega)).1.1
    · simp only [thenM]; rw [thr_gt hi]
    · rw [hu.ln] at hj
      rw [lp, lk]; exact hs.surN hj
  · simp only [Am.medU]
    rw [← hu.le]
    refine onto_eq (fun i hi => ⟨?_, ?_⟩) (fun i hi => ⟨?_, ?_⟩) fun j hj => ?_
    · exact (hs.p.ed i (by omega)).1.1
    · simp only [thenM]; rw [thr_gt hi]
    · exact (hs.k.ed i (by omega)).1.1
    · simp only [thenM]; rw [thr_gt hi]
    · rw [hu.le] at hj
      rw [mp, mk]; exact hs.surE hj
theorem cocE_ok {x : G} {h k : Mo} : cocE s x h k = 0 ↔ SOk s ∧ MOk s.b x h ∧ MOk s.c x k ∧ thenM s.f h = thenM s.g k := by
  unfold cocE
  split
  · rename_i e; exact ⟨fun h => absurd h e, fun h => absurd (spE_ok.2 ⟨h.1.f, h.1.g⟩) e⟩
  rename_i e1
  have e1 := spE_ok.1 (Decidable.not_not.1 e1)
  split
  · rename_i e; exact ⟨fun h => absurd h e, fun h => absurd (mok.2 h.2.1) e⟩
  rename_i e2
  have e2 := mok.1 (Decidable.not_not.1 e2)
  split
  · rename_i e; exact ⟨fun h => absurd h e, fun h => absurd (mok.2 h.2.2.1) e⟩
  rename_i e3
  have e3 := mok.1 (Decidable.not_not.1 e3)
  split
  · rename_i e; exact ⟨fun h => absurd h (by decide), fun h => absurd e h.1.s⟩
  rename_i e4
  split
  · rename_i e; exact ⟨fun _ => ⟨⟨e1.1, e1.2, e4⟩, e2, e3, e⟩, fun _ => rfl⟩
  · rename_i e; exact ⟨fun h => absurd h (by decide), fun h => absurd h.2.2.2 e⟩
end
end
end Go.Am
namespace Go.Am
open Go
set_option linter.unusedVariables false
set_option linter.unusedSimpArgs false
attribute [local irreducible] W
/- pushout.span -/
def c_pushout_span_r0 (F : String → Nat) : List LI := [⟨some 1, .bx (.t 0), none⟩,
  ⟨some 2, .mov (.k (.int .i64 (0))), none⟩]
def c_pushout_span_r1 (F : String → Nat) : List LI := [⟨some 4, .fad 0 (.t 1), none⟩,
  ⟨some 5, .load true 2 (.t 4), none⟩,
  ⟨some 6, .fad 2 (.t 1), none⟩,
  ⟨some 7, .load true 2 (.t 6), none⟩,
  ⟨some 8, .fad 6 (.t 1), none⟩,
  ⟨some 9, .load true 2 (.t 8), none⟩,
  ⟨some 10, .call (F "morphism.Valid") [.t 5, .t 7, .t 9] [], none⟩,
  ⟨some 3, .mov (.t 10), none⟩]
def c_pushout_span_r2 (F : String → Nat) : List LI := [⟨some 11, .mov (.t 3), none⟩,
  ⟨some 12, .bin .neq (.t 11) (.k (.int .i64 (0))), none⟩]
def c_pushout_span_r3 (F : String → Nat) : List LI := [⟨some 13, .mov (.t 3), none⟩,
  ⟨some 2, .mov (.t 13), none⟩]
def c_pushout_span_r4 (F : String → Nat) : List LI := [⟨some 14, .fad 0 (.t 1), none⟩,
  ⟨some 15, .load true 2 (.t 14), none⟩,
  ⟨some 16, .fad 4 (.t 1), none⟩,
  ⟨some 17, .load true 2 (.t 16), none⟩,
  ⟨some 18, .fad 8 (.t 1), none⟩,
  ⟨some 19, .load true 2 (.t 18), none⟩,
  ⟨some 20, .call (F "morphism.Valid") [.t 15, .t 17, .t 19] [], none⟩,
  ⟨some 2, .mov (.t 20), none⟩]
def c_pushout_span (F : String → Nat) : LC := (.seq (.reg (c_pushout_span_r0 F) [1]) (.seq (.seq (.reg (c_pushout_span_r1 F) [1, 3]) (.seq (.reg (c_pushout_span_r2 F) [1, 3, 12]) (.cond (.t 12) (.seq (.reg (c_pushout_span_r3 F) [2]) .ret) .skip))) (.seq (.reg (c_pushout_span_r4 F) [2]) .ret)))
def h_pushout_span : Hints := ⟨[], fun _ => [], tab [(0, [1]), (1, [1, 3]), (2, [1, 3, 12]), (3, [2]), (4, [2])], tab []⟩

/- pushout.glue -/
def c_pushout_glue_r0 (F : String → Nat) : List LI := [⟨some 1, .bx (.t 0), none⟩,
  ⟨some 2, .alloc [.nl 1, .nl 3], none⟩,
  ⟨some 3, .alloc [.nl 1, .nl 1], none⟩,
  ⟨some 4, .alloc [.nl 1, .nl 1], none⟩,
  ⟨some 5, .mov (.k (.int .i64 (0))), none⟩]
def c_pushout_glue_r1 (F : String → Nat) : List LI := [⟨some 13, .fad 2 (.t 1), none⟩,
  ⟨some 14, .load true 2 (.t 13), none⟩,
  ⟨some 15, .fad 4 (.t 1), none⟩,
  ⟨some 16, .load true 2 (.t 15), none⟩,
  ⟨some 17, .call (F "graph.Union") [.t 14, .t 16] [], none⟩,
  ⟨some 12, .mov (.t 17), none⟩,
  ⟨some 18, .ext (.t 12) 0, none⟩,
  ⟨some 19, .ext (.t 12) 1, none⟩,
  ⟨some 20, .ext (.t 12) 2, none⟩,
  ⟨some 21, .ext (.t 12) 3, none⟩,
  ⟨some 6, .alloc [.nl 1, .nl 3], none⟩,
  ⟨some 7, .alloc [.nl 1, .nl 1], none⟩,
  ⟨some 8, .alloc [.nl 1, .nl 1], none⟩,
  ⟨none, .store 2 (.t 6) (.t 18), none⟩,
  ⟨none, .store 2 (.t 7) (.t 19), none⟩,
  ⟨none, .store 2 (.t 8) (.t 20), none⟩,
  ⟨some 9, .mov (.t 21), none⟩]
def c_pushout_glue_r2 (F : String → Nat) : List LI := [⟨some 22, .mov (.t 9), none⟩,
  ⟨some 23, .bin .neq (.t 22) (.k (.int .i64 (0))), none⟩]
def c_pushout_glue_r3 (F : String → Nat) : List LI := [⟨some 24, .build [.nl 1, .nl 3] [], none⟩,
  ⟨some 25, .build [.nl 1, .nl 1] [], none⟩,
  ⟨some 26, .build [.nl 1, .nl 1] [], none⟩,
  ⟨some 27, .mov (.t 9), none⟩,
  ⟨none, .store 2 (.t 2) (.t 24), none⟩,
  ⟨none, .store 2 (.t 3) (.t 25), none⟩,
  ⟨none, .store 2 (.t 4) (.t 26), none⟩,
  ⟨some 5, .mov (.t 27), none⟩]
def c_pushout_glue_r4 (F : String → Nat) : List LI := [⟨some 29, .load true 2 (.t 6), none⟩,
  ⟨some 30, .fad 6 (.t 1), none⟩,
  ⟨some 31, .fad 0 (.t 30), none⟩,
  ⟨some 32, .load false 1 (.t 31), none⟩,
  ⟨some 33, .fad 8 (.t 1), none⟩,
  ⟨some 34, .fad 0 (.t 33), none⟩,
  ⟨some 35, .load false 1 (.t 34), none⟩,
  ⟨some 36, .fad 0 (.t 7), none⟩,
  ⟨some 37, .load false 1 (.t 36), none⟩,
  ⟨some 38, .fad 0 (.t 8), none⟩,
  ⟨some 39, .load false 1 (.t 38), none⟩,
  ⟨some 40, .call (F "pushout.pairs") [.t 32, .t 35, .t 37, .t 39] [], none⟩,
  ⟨some 41, .fad 6 (.t 1), none⟩,
  ⟨some 42, .fad 1 (.t 41), none⟩,
  ⟨some 43, .load false 1 (.t 42), none⟩,
  ⟨some 44, .fad 8 (.t 1), none⟩,
  ⟨some 45, .fad 1 (.t 44), none⟩,
  ⟨some 46, .load false 1 (.t 45), none⟩,
  ⟨some 47, .fad 1 (.t 7), none⟩,
  ⟨some 48, .load false 1 (.t 47), none⟩,
  ⟨some 49, .fad 1 (.t 8), none⟩,
  ⟨some 50, .load false 1 (.t 49), none⟩,
  ⟨some 51, .call (F "pushout.pairs") [.t 43, .t 46, .t 48, .t 50] [], none⟩,
  ⟨some 52, .call (F "pushout.quotient") [.t 29, .t 40, .t 51] [], none⟩,
  ⟨some 28, .mov (.t 52), none⟩,
  ⟨some 53, .ext (.t 28) 0, none⟩,
  ⟨some 54, .ext (.t 28) 1, none⟩,
  ⟨some 55, .ext (.t 28) 2, none⟩,
  ⟨some 10, .alloc [.nl 1, .nl 3], none⟩,
  ⟨some 11, .alloc [.nl 1, .nl 1], none⟩,
  ⟨none, .store 2 (.t 10) (.t 53), none⟩,
  ⟨none, .store 2 (.t 11) (.t 54), none⟩,
  ⟨some 9, .mov (.t 55), none⟩]
def c_pushout_glue_r5 (F : String → Nat) : List LI := [⟨some 56, .mov (.t 9), none⟩,
  ⟨some 57, .bin .neq (.t 56) (.k (.int .i64 (0))), none⟩]
def c_pushout_glue_r6 (F : String → Nat) : List LI := [⟨some 58, .build [.nl 1, .nl 3] [], none⟩,
  ⟨some 59, .build [.nl 1, .nl 1] [], none⟩,
  ⟨some 60, .build [.nl 1, .nl 1] [], none⟩,
  ⟨some 61, .mov (.t 9), none⟩,
  ⟨none, .store 2 (.t 2) (.t 58), none⟩,
  ⟨none, .store 2 (.t 3) (.t 59), none⟩,
  ⟨none, .store 2 (.t 4) (.t 60), none⟩,
  ⟨some 5, .mov (.t 61), none⟩]
def c_pushout_glue_r7 (F : String → Nat) : List LI := [⟨some 62, .load true 2 (.t 10), none⟩,
  ⟨some 63, .load true 2 (.t 7), none⟩,
  ⟨some 64, .load true 2 (.t 11), none⟩,
  ⟨some 65, .call (F "pushout.then") [.t 63, .t 64] [], none⟩,
  ⟨some 66, .load true 2 (.t 8), none⟩,
  ⟨some 67, .load true 2 (.t 11), none⟩,
  ⟨some 68, .call (F "pushout.then") [.t 66, .t 67] [], none⟩,
  ⟨none, .store 2 (.t 2) (.t 62), none⟩,
  ⟨none, .store 2 (.t 3) (.t 65), none⟩,
  ⟨none, .store 2 (.t 4) (.t 68), none⟩,
  ⟨some 5, .mov (.k (.int .i64 (0))), none⟩]
def c_pushout_glue (F : String → Nat) : LC := (.seq (.reg (c_pushout_glue_r0 F) [1, 2, 3, 4]) (.seq (.reg (c_pushout_glue_r1 F) [1, 2, 3, 4, 6, 7, 8, 9]) (.seq (.seq (.reg (c_pushout_glue_r2 F) [1, 2, 3, 4, 6, 7, 8, 9, 23]) (.cond (.t 23) (.seq (.reg (c_pushout_glue_r3 F) [2, 3, 4, 5]) .ret) .skip)) (.seq (.dreg [(0, none, [], true), (11, none, [0], true), (14, (some 12288), [11], false), (17, (some 98304), [11], false), (19, (some 262144), [11], false), (21, (some 1048576), [11], false), (22, none, [0], false)] (c_pushout_glue_r4 F) [2, 3, 4, 7, 8, 9, 10, 11]) (.seq (.seq (.reg (c_pushout_glue_r5 F) [2, 3, 4, 7, 8, 9, 10, 11, 57]) (.cond (.t 57) (.seq (.reg (c_pushout_glue_r6 F) [2, 3, 4, 5]) .ret) .skip)) (.seq (.dreg [(0, none, [], true), (3, none, [0], true), (4, (some 0), [3], false), (5, (some 0), [3], false), (6, none, [0], false)] (c_pushout_glue_r7 F) [2, 3, 4, 5]) .ret))))))
def h_pushout_glue : Hints := ⟨[], fun _ => [], tab [(0, [1, 2, 3, 4]), (1, [1, 2, 3, 4, 6, 7, 8, 9]), (2, [1, 2, 3, 4, 6, 7, 8, 9, 23]), (3, [2, 3, 4, 5]), (4, [2, 3, 4, 7, 8, 9, 10, 11]), (5, [2, 3, 4, 7, 8, 9, 10, 11, 57]), (6, [2, 3, 4, 5]), (7, [2, 3, 4, 5])], tab []⟩

/- pushout.Of -/
def c_pushout_Of_r0 (F : String → Nat) : List LI := [⟨some 1, .bx (.t 0), none⟩,
  ⟨some 2, .alloc [.nl 1, .nl 3], none⟩,
  ⟨some 3, .alloc [.nl 1, .nl 1], none⟩,
  ⟨some 4, .alloc [.nl 1, .nl 1], none⟩,
  ⟨some 5, .mov (.k (.int .i64 (0))), none⟩]
def c_pushout_Of_r1 (F : String → Nat) : List LI := [⟨some 7, .load true 10 (.t 1), none⟩,
  ⟨some 8, .call (F "pushout.span") [.t 7] [], none⟩,
  ⟨some 6, .mov (.t 8), none⟩]
def c_pushout_Of_r2 (F : String → Nat) : List LI := [⟨some 9, .mov (.t 6), none⟩,
  ⟨some 10, .bin .neq (.t 9) (.k (.int .i64 (0))), none⟩]
def c_pushout_Of_r3 (F : String → Nat) : List LI := [⟨some 11, .build [.nl 1, .nl 3] [], none⟩,
  ⟨some 12, .build [.nl 1, .nl 1] [], none⟩,
  ⟨some 13, .build [.nl 1, .nl 1] [], none⟩,
  ⟨some 14, .mov (.t 6), none⟩,
  ⟨none, .store 2 (.t 2) (.t 11), none⟩,
  ⟨none, .store 2 (.t 3) (.t 12), none⟩,
  ⟨none, .store 2 (.t 4) (.t 13), none⟩,
  ⟨some 5, .mov (.t 14), none⟩]
def c_pushout_Of_r4 (F : String → Nat) : List LI := [⟨some 15, .load true 10 (.t 1), none⟩,
  ⟨some 16, .call (F "pushout.glue") [.t 15] [], none⟩,
  ⟨some 17, .ext (.t 16) 0, none⟩,
  ⟨some 18, .ext (.t 16) 1, none⟩,
  ⟨some 19, .ext (.t 16) 2, none⟩,
  ⟨some 20, .ext (.t 16) 3, none⟩,
  ⟨none, .store 2 (.t 2) (.t 17), none⟩,
  ⟨none, .store 2 (.t 3) (.t 18), none⟩,
  ⟨none, .store 2 (.t 4) (.t 19), none⟩,
  ⟨some 5, .mov (.t 20), none⟩]
def c_pushout_Of (F : String → Nat) : LC := (.seq (.reg (c_pushout_Of_r0 F) [1, 2, 3, 4]) (.seq (.seq (.reg (c_pushout_Of_r1 F) [1, 2, 3, 4, 6]) (.seq (.reg (c_pushout_Of_r2 F) [1, 2, 3, 4, 6, 10]) (.cond (.t 10) (.seq (.reg (c_pushout_Of_r3 F) [2, 3, 4, 5]) .ret) .skip))) (.seq (.reg (c_pushout_Of_r4 F) [2, 3, 4, 5]) .ret)))
def h_pushout_Of : Hints := ⟨[], fun _ => [], tab [(0, [1, 2, 3, 4]), (1, [1, 2, 3, 4, 6]), (2, [1, 2, 3, 4, 6, 10]), (3, [2, 3, 4, 5]), (4, [2, 3, 4, 5])], tab []⟩

/- pushout.filled -/
def c_pushout_filled_r0 (F : String → Nat) : List LI := [⟨some 6, .mov (.k (.nl 1)), none⟩]
def c_pushout_filled_r1 (F : String → Nat) : List LI := [⟨some 12, .mov (.t 0), none⟩,
  ⟨some 13, .makeSl 1 8 (.int .i64 (0)) (.t 12), none⟩,
  ⟨some 7, .mov (.t 13), none⟩]
def c_pushout_filled_r2 (F : String → Nat) : List LI := [⟨some 14, .mov (.t 1), none⟩,
  ⟨some 15, .len (.t 14), none⟩,
  ⟨some 16, .mov (.k (.int .i64 (0))), none⟩]
def c_pushout_filled_r3 (F : String → Nat) : List LI := [⟨some 17, .bin .lss (.t 16) (.t 15), none⟩]
def c_pushout_filled_r4 (F : String → Nat) : List LI := [⟨some 18, .mov (.t 16), none⟩,
  ⟨some 19, .iad 1 (.t 14) (.t 16), none⟩,
  ⟨some 20, .load false 1 (.t 19), none⟩,
  ⟨some 8, .mov (.t 18), none⟩,
  ⟨some 9, .mov (.t 20), none⟩]
def c_pushout_filled_r5 (F : String → Nat) : List LI := [⟨some 21, .mov (.t 9), none⟩,
  ⟨some 22, .len (.t 21), none⟩,
  ⟨some 23, .mov (.k (.int .i64 (0))), none⟩]
def c_pushout_filled_r6 (F : String → Nat) : List LI := [⟨some 24, .bin .lss (.t 23) (.t 22), none⟩]
def c_pushout_filled_r7 (F : String → Nat) : List LI := [⟨some 25, .mov (.t 23), none⟩,
  ⟨some 26, .iad 1 (.t 21) (.t 23), none⟩,
  ⟨some 27, .load false 1 (.t 26), none⟩,
  ⟨some 10, .mov (.t 25), none⟩,
  ⟨some 11, .mov (.t 27), none⟩]
def c_pushout_filled_r8 (F : String → Nat) : List LI := [⟨some 28, .mov (.t 7), none⟩,
  ⟨some 29, .mov (.t 11), none⟩,
  ⟨some 30, .mov (.t 2), none⟩,
  ⟨some 31, .mov (.t 8), none⟩,
  ⟨some 32, .iad 1 (.t 30) (.t 31), none⟩,
  ⟨some 33, .load false 1 (.t 32), none⟩,
  ⟨some 34, .mov (.t 10), none⟩,
  ⟨some 35, .iad 1 (.t 33) (.t 34), none⟩,
  ⟨some 36, .load false 1 (.t 35), none⟩,
  ⟨some 37, .iad 1 (.t 28) (.t 29), none⟩,
  ⟨none, .store 1 (.t 37) (.t 36), none⟩]
def c_pushout_filled_r9 (F : String → Nat) : List LI := [⟨some 38, .bin .add (.t 23) (.k (.int .i64 (1))), none⟩,
  ⟨some 23, .mov (.t 38), none⟩]
def c_pushout_filled_b10 (F : String → Nat) : LC := (.seq (.reg (c_pushout_filled_r6 F) [2, 7, 8, 14, 15, 16, 21, 22, 23, 24]) (.seq (.cond (.t 24) .skip (.exit 2)) (.seq (.block 3 (.seq (.reg (c_pushout_filled_r7 F) [2, 7, 8, 10, 11, 14, 15, 16, 21, 22, 23]) (.reg (c_pushout_filled_r8 F) [2, 7, 8, 14, 15, 16, 21, 22, 23]))) (.reg (c_pushout_filled_r9 F) [2, 7, 8, 14, 15, 16, 21, 22, 23]))))
def c_pushout_filled_r11 (F : String → Nat) : List LI := [⟨some 39, .bin .add (.t 16) (.k (.int .i64 (1))), none⟩,
  ⟨some 16, .mov (.t 39), none⟩]
def c_pushout_filled_b12 (F : String → Nat) : LC := (.seq (.reg (c_pushout_filled_r3 F) [2, 7, 14, 15, 16, 17]) (.seq (.cond (.t 17) .skip (.exit 0)) (.seq (.block 1 (.seq (.reg (c_pushout_filled_r4 F) [2, 7, 8, 9, 14, 15, 16]) (.seq (.reg (c_pushout_filled_r5 F) [2, 7, 8, 14, 15, 16, 21, 22, 23]) (.block 2 (.loop [2, 7, 8, 14, 15, 16, 21, 22, 23] (c_pushout_filled_b10 F)))))) (.reg (c_pushout_filled_r11 F) [2, 7, 14, 15, 16]))))
def c_pushout_filled_r13 (F : String → Nat) : List LI := [⟨some 40, .mov (.t 7), none⟩,
  ⟨some 6, .mov (.t 40), none⟩]
def c_pushout_filled (F : String → Nat) : LC := (.seq (.reg (c_pushout_filled_r0 F) [0, 1, 2]) (.seq (.reg (c_pushout_filled_r1 F) [1, 2, 7]) (.seq (.seq (.reg (c_pushout_filled_r2 F) [2, 7, 14, 15, 16]) (.block 0 (.loop [2, 7, 14, 15, 16] (c_pushout_filled_b12 F)))) (.seq (.reg (c_pushout_filled_r13 F) [6]) .ret))))
def h_pushout_filled : Hints := ⟨[], fun _ => [], tab [(0, [0, 1, 2]), (1, [1, 2, 7]), (2, [2, 7, 14, 15, 16]), (3, [2, 7, 14, 15, 16, 17]), (4, [2, 7, 8, 9, 14, 15, 16]), (5, [2, 7, 8, 14, 15, 16, 21, 22, 23]), (6, [2, 7, 8, 14, 15, 16, 21, 22, 23, 24]), (7, [2, 7, 8, 10, 11, 14, 15, 16, 21, 22, 23]), (8, [2, 7, 8, 14, 15, 16, 21, 22, 23]), (9, [2, 7, 8, 14, 15, 16, 21, 22, 23]), (10, [2, 7, 14, 15, 16]), (11, [6])], tab [(3, [2, 7, 14, 15, 16]), (6, [2, 7, 8, 14, 15, 16, 21, 22, 23])]⟩

/- pushout.Mediate -/
def c_pushout_Mediate_r0 (F : String → Nat) : List LI := [⟨some 4, .bx (.t 0), none⟩,
  ⟨some 5, .bx (.t 1), none⟩,
  ⟨some 6, .bx (.t 2), none⟩,
  ⟨some 7, .bx (.t 3), none⟩,
  ⟨some 8, .alloc [.nl 1, .nl 1], none⟩,
  ⟨some 9, .mov (.k (.int .i64 (0))), none⟩]
def c_pushout_Mediate_r1 (F : String → Nat) : List LI := [⟨some 17, .load true 10 (.t 4), none⟩,
  ⟨some 18, .call (F "pushout.span") [.t 17] [], none⟩,
  ⟨some 10, .mov (.t 18), none⟩]
def c_pushout_Mediate_r2 (F : String → Nat) : List LI := [⟨some 19, .mov (.t 10), none⟩,
  ⟨some 20, .bin .neq (.t 19) (.k (.int .i64 (0))), none⟩]
def c_pushout_Mediate_r3 (F : String → Nat) : List LI := [⟨some 21, .build [.nl 1, .nl 1] [], none⟩,
  ⟨some 22, .mov (.t 10), none⟩,
  ⟨none, .store 2 (.t 8) (.t 21), none⟩,
  ⟨some 9, .mov (.t 22), none⟩]
def c_pushout_Mediate_r4 (F : String → Nat) : List LI := [⟨some 23, .fad 2 (.t 4), none⟩,
  ⟨some 24, .load true 2 (.t 23), none⟩,
  ⟨some 25, .load true 2 (.t 5), none⟩,
  ⟨some 26, .load true 2 (.t 6), none⟩,
  ⟨some 27, .call (F "morphism.Valid") [.t 24, .t 25, .t 26] [], none⟩,
  ⟨some 11, .mov (.t 27), none⟩]
def c_pushout_Mediate_r5 (F : String → Nat) : List LI := [⟨some 28, .mov (.t 11), none⟩,
  ⟨some 29, .bin .neq (.t 28) (.k (.int .i64 (0))), none⟩]
def c_pushout_Mediate_r6 (F : String → Nat) : List LI := [⟨some 30, .build [.nl 1, .nl 1] [], none⟩,
  ⟨some 31, .mov (.t 11), none⟩,
  ⟨none, .store 2 (.t 8) (.t 30), none⟩,
  ⟨some 9, .mov (.t 31), none⟩]
def c_pushout_Mediate_r7 (F : String → Nat) : List LI := [⟨some 32, .fad 4 (.t 4), none⟩,
  ⟨some 33, .load true 2 (.t 32), none⟩,
  ⟨some 34, .load true 2 (.t 5), none⟩,
  ⟨some 35, .load true 2 (.t 7), none⟩,
  ⟨some 36, .call (F "morphism.Valid") [.t 33, .t 34, .t 35] [], none⟩,
  ⟨some 12, .mov (.t 36), none⟩]
def c_pushout_Mediate_r8 (F : String → Nat) : List LI := [⟨some 37, .mov (.t 12), none⟩,
  ⟨some 38, .bin .neq (.t 37) (.k (.int .i64 (0))), none⟩]
def c_pushout_Mediate_r9 (F : String → Nat) : List LI := [⟨some 39, .build [.nl 1, .nl 1] [], none⟩,
  ⟨some 40, .mov (.t 12), none⟩,
  ⟨none, .store 2 (.t 8) (.t 39), none⟩,
  ⟨some 9, .mov (.t 40), none⟩]
def c_pushout_Mediate_r10 (F : String → Nat) : List LI := [⟨some 42, .load true 10 (.t 4), none⟩,
  ⟨some 43, .call (F "pushout.glue") [.t 42] [], none⟩,
  ⟨some 41, .mov (.t 43), none⟩,
  ⟨some 44, .ext (.t 41) 0, none⟩,
  ⟨some 45, .ext (.t 41) 1, none⟩,
  ⟨some 46, .ext (.t 41) 2, none⟩,
  ⟨some 47, .ext (.t 41) 3, none⟩,
  ⟨some 13, .alloc [.nl 1, .nl 3], none⟩,
  ⟨some 14, .alloc [.nl 1, .nl 1], none⟩,
  ⟨some 15, .alloc [.nl 1, .nl 1], none⟩,
  ⟨none, .store 2 (.t 13) (.t 44), none⟩,
  ⟨none, .store 2 (.t 14) (.t 45), none⟩,
  ⟨none, .store 2 (.t 15) (.t 46), none⟩,
  ⟨some 16, .mov (.t 47), none⟩]
def c_pushout_Mediate_r11 (F : String → Nat) : List LI := [⟨some 48, .mov (.t 16), none⟩,
  ⟨some 49, .bin .neq (.t 48) (.k (.int .i64 (0))), none⟩]
def c_pushout_Mediate_r12 (F : String → Nat) : List LI := [⟨some 50, .build [.nl 1, .nl 1] [], none⟩,
  ⟨some 51, .mov (.t 16), none⟩,
  ⟨none, .store 2 (.t 8) (.t 50), none⟩,
  ⟨some 9, .mov (.t 51), none⟩]
def c_pushout_Mediate_r13 (F : String → Nat) : List LI := [⟨some 52, .fad 6 (.t 4), none⟩,
  ⟨some 53, .load true 2 (.t 52), none⟩,
  ⟨some 54, .load true 2 (.t 6), none⟩,
  ⟨some 55, .call (F "pushout.then") [.t 53, .t 54] [], none⟩,
  ⟨some 56, .fad 8 (.t 4), none⟩,
  ⟨some 57, .load true 2 (.t 56), none⟩,
  ⟨some 58, .load true 2 (.t 7), none⟩,
  ⟨some 59, .call (F "pushout.then") [.t 57, .t 58] [], none⟩,
  ⟨some 60, .call (F "morphism.Same") [.t 55, .t 59] [], none⟩,
  ⟨some 61, .not (.t 60), none⟩]
def c_pushout_Mediate_r14 (F : String → Nat) : List LI := [⟨some 62, .build [.nl 1, .nl 1] [], none⟩,
  ⟨none, .store 2 (.t 8) (.t 62), none⟩,
  ⟨some 9, .mov (.k (.int .i64 (11))), none⟩]
def c_pushout_Mediate_r15 (F : String → Nat) : List LI := [⟨some 63, .fad 0 (.t 13), none⟩,
  ⟨some 64, .load false 1 (.t 63), none⟩,
  ⟨some 65, .len (.t 64), none⟩,
  ⟨some 66, .fad 0 (.t 14), none⟩,
  ⟨some 67, .load false 1 (.t 66), none⟩,
  ⟨some 68, .fad 0 (.t 15), none⟩,
  ⟨some 69, .load false 1 (.t 68), none⟩,
  ⟨some 70, .buildSl 1 24 (.lst 1 []) 2 [(0, .t 67), (1, .t 69)], none⟩,
  ⟨some 71, .fad 0 (.t 6), none⟩,
  ⟨some 72, .load false 1 (.t 71), none⟩,
  ⟨some 73, .fad 0 (.t 7), none⟩,
  ⟨some 74, .load false 1 (.t 73), none⟩,
  ⟨some 75, .buildSl 1 24 (.lst 1 []) 2 [(0, .t 72), (1, .t 74)], none⟩,
  ⟨some 76, .call (F "pushout.filled") [.t 65, .t 70, .t 75] [], none⟩,
  ⟨some 77, .fad 1 (.t 13), none⟩,
  ⟨some 78, .load false 1 (.t 77), none⟩,
  ⟨some 79, .len (.t 78), none⟩,
  ⟨some 80, .fad 1 (.t 14), none⟩,
  ⟨some 81, .load false 1 (.t 80), none⟩,
  ⟨some 82, .fad 1 (.t 15), none⟩,
  ⟨some 83, .load false 1 (.t 82), none⟩,
  ⟨some 84, .buildSl 1 24 (.lst 1 []) 2 [(0, .t 81), (1, .t 83)], none⟩,
  ⟨some 85, .fad 1 (.t 6), none⟩,
  ⟨some 86, .load false 1 (.t 85), none⟩,
  ⟨some 87, .fad 1 (.t 7), none⟩,
  ⟨some 88, .load false 1 (.t 87), none⟩,
  ⟨some 89, .buildSl 1 24 (.lst 1 []) 2 [(0, .t 86), (1, .t 88)], none⟩,
  ⟨some 90, .call (F "pushout.filled") [.t 79, .t 84, .t 89] [], none⟩,
  ⟨some 91, .build [.nl 1, .nl 1] [(0, 1, .t 76), (1, 1, .t 90)], none⟩,
  ⟨none, .store 2 (.t 8) (.t 91), none⟩,
  ⟨some 9, .mov (.k (.int .i64 (0))), none⟩]
def c_pushout_Mediate (F : String → Nat) : LC := (.seq (.reg (c_pushout_Mediate_r0 F) [4, 5, 6, 7, 8]) (.seq (.seq (.reg (c_pushout_Mediate_r1 F) [4, 5, 6, 7, 8, 10]) (.seq (.reg (c_pushout_Mediate_r2 F) [4, 5, 6, 7, 8, 10, 20]) (.cond (.t 20) (.seq (.reg (c_pushout_Mediate_r3 F) [8, 9]) .ret) .skip))) (.seq (.seq (.reg (c_pushout_Mediate_r4 F) [4, 5, 6, 7, 8, 11]) (.seq (.reg (c_pushout_Mediate_r5 F) [4, 5, 6, 7, 8, 11, 29]) (.cond (.t 29) (.seq (.reg (c_pushout_Mediate_r6 F) [8, 9]) .ret) .skip))) (.seq (.seq (.reg (c_pushout_Mediate_r7 F) [4, 6, 7, 8, 12]) (.seq (.reg (c_pushout_Mediate_r8 F) [4, 6, 7, 8, 12, 38]) (.cond (.t 38) (.seq (.reg (c_pushout_Mediate_r9 F) [8, 9]) .ret) .skip))) (.seq (.reg (c_pushout_Mediate_r10 F) [4, 6, 7, 8, 13, 14, 15, 16]) (.seq (.seq (.reg (c_pushout_Mediate_r11 F) [4, 6, 7, 8, 13, 14, 15, 16, 49]) (.cond (.t 49) (.seq (.reg (c_pushout_Mediate_r12 F) [8, 9]) .ret) .skip)) (.seq (.seq (.dreg [(3, none, [], true), (5, (some 16), [3], false), (6, (some 0), [3], false)] (c_pushout_Mediate_r13 F) [6, 7, 8, 13, 14, 15, 61]) (.cond (.t 61) (.seq (.reg (c_pushout_Mediate_r14 F) [8, 9]) .ret) .skip)) (.seq (.dreg [(1, none, [], true), (4, none, [], true), (6, none, [], true), (7, none, [1], true), (9, (some 256), [7], true), (11, (some 1024), [7], true), (12, (some 3840), [1, 4, 6, 7], true), (13, none, [], true), (15, (some 16384), [7, 12, 13], true), (18, (some 131072), [7, 12, 13], true), (20, (some 524288), [7, 12, 13], true), (21, (some 1966080), [1, 4, 6, 7, 9, 11, 12, 13, 15], true), (23, (some 4194304), [7, 12, 13, 21], false), (25, (some 16777216), [7, 12, 13, 21], false), (26, (some 62914560), [1, 4, 6, 7, 9, 11, 12, 13, 15, 18, 20, 21], false)] (c_pushout_Mediate_r15 F) [8, 9]) .ret))))))))
def h_pushout_Mediate : Hints := ⟨[], fun _ => [], tab [(0, [4, 5, 6, 7, 8]), (1, [4, 5, 6, 7, 8, 10]), (2, [4, 5, 6, 7, 8, 10, 20]), (3, [8, 9]), (4, [4, 5, 6, 7, 8, 11]), (5, [4, 5, 6, 7, 8, 11, 29]), (6, [8, 9]), (7, [4, 6, 7, 8, 12]), (8, [4, 6, 7, 8, 12, 38]), (9, [8, 9]), (10, [4, 6, 7, 8, 13, 14, 15, 16]), (11, [4, 6, 7, 8, 13, 14, 15, 16, 49]), (12, [8, 9]), (13, [6, 7, 8, 13, 14, 15, 61]), (14, [8, 9]), (15, [8, 9])], tab []⟩

/- pushout.Check -/
def c_pushout_Check_r0 (F : String → Nat) : List LI := [⟨some 4, .bx (.t 0), none⟩,
  ⟨some 5, .bx (.t 1), none⟩,
  ⟨some 6, .bx (.t 2), none⟩,
  ⟨some 7, .bx (.t 3), none⟩,
  ⟨some 8, .mov (.k (.bool false)), none⟩]
def c_pushout_Check_r1 (F : String → Nat) : List LI := [⟨some 15, .load true 10 (.t 4), none⟩,
  ⟨some 16, .load true 2 (.t 5), none⟩,
  ⟨some 17, .load true 2 (.t 6), none⟩,
  ⟨some 18, .load true 2 (.t 7), none⟩,
  ⟨some 19, .call (F "pushout.Mediate") [.t 15, .t 16, .t 17, .t 18] [], none⟩,
  ⟨some 14, .mov (.t 19), none⟩,
  ⟨some 20, .ext (.t 14) 0, none⟩,
  ⟨some 21, .ext (.t 14) 1, none⟩,
  ⟨some 9, .alloc [.nl 1, .nl 1], none⟩,
  ⟨none, .store 2 (.t 9) (.t 20), none⟩,
  ⟨some 10, .mov (.t 21), none⟩]
def c_pushout_Check_r2 (F : String → Nat) : List LI := [⟨some 22, .mov (.t 10), none⟩,
  ⟨some 23, .bin .neq (.t 22) (.k (.int .i64 (0))), none⟩]
def c_pushout_Check_r3 (F : String → Nat) : List LI := [⟨some 8, .mov (.k (.bool false)), none⟩]
def c_pushout_Check_r4 (F : String → Nat) : List LI := [⟨some 25, .load true 10 (.t 4), none⟩,
  ⟨some 26, .call (F "pushout.glue") [.t 25] [], none⟩,
  ⟨some 24, .mov (.t 26), none⟩,
  ⟨some 27, .ext (.t 24) 0, none⟩,
  ⟨some 28, .ext (.t 24) 1, none⟩,
  ⟨some 29, .ext (.t 24) 2, none⟩,
  ⟨some 30, .ext (.t 24) 3, none⟩,
  ⟨some 11, .alloc [.nl 1, .nl 3], none⟩,
  ⟨some 12, .alloc [.nl 1, .nl 1], none⟩,
  ⟨some 13, .alloc [.nl 1, .nl 1], none⟩,
  ⟨none, .store 2 (.t 11) (.t 27), none⟩,
  ⟨none, .store 2 (.t 12) (.t 28), none⟩,
  ⟨none, .store 2 (.t 13) (.t 29), none⟩,
  ⟨some 10, .mov (.t 30), none⟩]
def c_pushout_Check_r5 (F : String → Nat) : List LI := [⟨some 31, .mov (.t 10), none⟩,
  ⟨some 32, .bin .eql (.t 31) (.k (.int .i64 (0))), none⟩,
  ⟨some 33, .mov (.t 32), none⟩,
  ⟨some 34, .load true 2 (.t 11), some (33, true)⟩,
  ⟨some 35, .load true 2 (.t 5), some (33, true)⟩,
  ⟨some 36, .load true 2 (.t 9), some (33, true)⟩,
  ⟨some 37, .call (F "morphism.Injective") [.t 34, .t 35, .t 36] [], some (33, true)⟩,
  ⟨some 38, .pick (.t 33) (.t 37) (.k (.bool false)), none⟩,
  ⟨some 39, .mov (.t 38), none⟩,
  ⟨some 40, .load true 2 (.t 11), some (39, true)⟩,
  ⟨some 41, .load true 2 (.t 5), some (39, true)⟩,
  ⟨some 42, .load true 2 (.t 9), some (39, true)⟩,
  ⟨some 43, .call (F "morphism.Surjective") [.t 40, .t 41, .t 42] [], some (39, true)⟩,
  ⟨some 44, .pick (.t 39) (.t 43) (.k (.bool false)), none⟩,
  ⟨some 8, .mov (.t 44), none⟩]
def c_pushout_Check (F : String → Nat) : LC := (.seq (.reg (c_pushout_Check_r0 F) [4, 5, 6, 7]) (.seq (.reg (c_pushout_Check_r1 F) [4, 5, 9, 10]) (.seq (.seq (.reg (c_pushout_Check_r2 F) [4, 5, 9, 23]) (.cond (.t 23) (.seq (.reg (c_pushout_Check_r3 F) [8]) .ret) .skip)) (.seq (.reg (c_pushout_Check_r4 F) [5, 9, 10, 11]) (.seq (.reg (c_pushout_Check_r5 F) [8]) .ret)))))
def h_pushout_Check : Hints := ⟨[], fun _ => [], tab [(0, [4, 5, 6, 7]), (1, [4, 5, 9, 10]), (2, [4, 5, 9, 23]), (3, [8]), (4, [5, 9, 10, 11]), (5, [8])], tab []⟩

attribute [go_sem] c_pushout_span_r0 c_pushout_span_r1 c_pushout_span_r2 c_pushout_span_r3 c_pushout_span_r4 c_pushout_span c_pushout_glue_r0 c_pushout_glue_r1 c_pushout_glue_r2 c_pushout_glue_r3 c_pushout_glue_r4 c_pushout_glue_r5 c_pushout_glue_r6 c_pushout_glue_r7 c_pushout_glue c_pushout_Of_r0 c_pushout_Of_r1 c_pushout_Of_r2 c_pushout_Of_r3 c_pushout_Of_r4 c_pushout_Of c_pushout_filled_r0 c_pushout_filled_r1 c_pushout_filled_r2 c_pushout_filled_r3 c_pushout_filled_r4 c_pushout_filled_r5 c_pushout_filled_r6 c_pushout_filled_r7 c_pushout_filled_r8 c_pushout_filled_r9 c_pushout_filled_r11 c_pushout_filled_r13 c_pushout_filled c_pushout_Mediate_r0 c_pushout_Mediate_r1 c_pushout_Mediate_r2 c_pushout_Mediate_r3 c_pushout_Mediate_r4 c_pushout_Mediate_r5 c_pushout_Mediate_r6 c_pushout_Mediate_r7 c_pushout_Mediate_r8 c_pushout_Mediate_r9 c_pushout_Mediate_r10 c_pushout_Mediate_r11 c_pushout_Mediate_r12 c_pushout_Mediate_r13 c_pushout_Mediate_r14 c_pushout_Mediate_r15 c_pushout_Mediate c_pushout_Check_r0 c_pushout_Check_r1 c_pushout_Check_r2 c_pushout_Check_r3 c_pushout_Check_r4 c_pushout_Check_r5 c_pushout_Check
def spD (s : Sp) : D := .agg [.lst 1 (ints s.a.n), .lst 3 (eds s.a.e), .lst 1 (ints s.b.n), .lst 3 (eds s.b.e), .lst 1 (ints s.c.n), .lst 3 (eds s.c.e), .lst 1 (ints s.f.n), .lst 1 (ints s.f.e), .lst 1 (ints s.g.n), .lst 1 (ints s.g.e)]
def poD (r : G × Mo × Mo × Int) : D := .tup [gA r.1, mA r.2.1, mA r.2.2.1, .int .i64 r.2.2.2]
def Sp.sm (s : Sp) : Prop := s.f.sm ∧ s.g.sm
def fillA (n : Nat) (p h q k : List Int) : Nat → List Int
  | 0 => List.replicate n 0
  | 1 => setL h p (List.replicate n 0) p.length
  | _ => ontoL n p h q k
section
variable (P : Program) (F : String → Nat)
def K_pushout_span : Prop := ∀ s : Sp, FC P (F "pushout.span") [spD s] (.int .i64 (spE s)) []
def K_pushout_glue : Prop := ∀ s : Sp, spE s = 0 → FC P (F "pushout.glue") [spD s] (poD (poR s)) []
def K_pushout_Of : Prop := ∀ s : Sp, FC P (F "pushout.Of") [spD s] (poD (poR s)) []
def OnOk (n : Nat) (p h : List Int) : Prop := p.length ≤ 1000 ∧ h.length = p.length ∧ ∀ i : Nat, i < p.length → 0 ≤ gt p i ∧ gt p i < n
def K_pushout_filled : Prop := ∀ (n : Nat) (p h q k : List Int), n ≤ 1000 → OnOk n p h → OnOk n q k → FC P (F "pushout.filled") [.int .i64 n, .lst 1 [.lst 1 (ints p), .lst 1 (ints q)], .lst 1 [.lst 1 (ints h), .lst 1 (ints k)]] (.arr 1 (ints (ontoL n p h q k))) []
def K_pushout_Mediate : Prop := ∀ (s : Sp) (x : G) (h k : Mo), FC P (F "pushout.Mediate") [spD s, gD x, mD h, mD k] (.tup [mA (medP s x h k).1, .int .i64 (medP s x h k).2]) []
def K_pushout_Check : Prop := ∀ (s : Sp) (x : G) (h k : Mo), FC P (F "pushout.Check") [spD s, gD x, mD h, mD k] (.bool (chkP s x h k)) []
end
section
variable {P : Program} {F : String → Nat} {α : Type}
theorem w_pushout_span (hv : K_morphism_Valid P F) (s : Sp) : W P (c_pushout_span F) (Done [.t 2] [] (.int .i64 (spE s)) []) (init [spD s]) := by
  refine W_of ?_
  have r1 := hv s.a s.b s.f
  have r2 := hv s.a s.c s.g
  have : spE s = if validM s.a s.b s.f ≠ 0 then validM s.a s.b s.f else validM s.a s.c s.g := rfl
  rw [this]
  generalize validM s.a s.b s.f = u at *
  generalize validM s.a s.c s.g = v at *
  simp only [gD, mD] at r1 r2
  simp (config := { maxSteps := 1000000 }) (disch := first | omega | (simp only [go_sem]; omega)) only [go_sem, ↓reduceIte, spD]
  refine call_by r1 ?_
  simp (config := { maxSteps := 1000000 }) (disch := first | omega | (simp only [go_sem]; omega)) only [go_sem, ↓reduceIte]
  refine bran_ndec (fun c => ?_) (fun c => ?_)
  · simp (config := { maxSteps := 1000000 }) (disch := first | omega | (simp only [go_sem]; omega)) only [go_sem, ↓reduceIte]
    try simp [c]
  · subst c
    simp (config := { maxSteps := 1000000 }) (disch := first | omega | (simp only [go_sem]; omega)) only [go_sem, ↓reduceIte]
    refine call_by r2 ?_
    simp (config := { maxSteps := 1000000 }) (disch := first | omega | (simp only [go_sem]; omega)) only [go_sem, ↓reduceIte]
    try simp
theorem uniG_ok {b c : G} (vb : validG b = 0) (vc : validG c = 0) : uniG b c = if Big b c then (g0, m0, m0, 3) else (unG b c, idM b, inR b c, 0) := by
  unfold uniG
  rw [if_neg (by simp [vb]), if_neg (by simp [vc])]
  by_cases hb : Big b c
  · rw [if_pos hb]
    unfold Big at hb
    rw [if_pos hb]; rfl
  · rw [if_neg hb]
    unfold Big at hb
    rw [if_neg hb]; rfl
theorem poR_ok {s : Sp} (h : SOk s) : poR s = (poG s, poP s, poK s, 0) := by unfold poR; rw [if_pos (poErr_ok.2 h)]
theorem poR_big {s : Sp} (h : spE s = 0) (hb : Big s.b s.c) : poR s = (g0, m0, m0, 3) := by
  have : poErr s = 3 := by unfold poErr; rw [if_neg (by simp [h]), if_pos hb]
  unfold poR
  rw [this]; rfl
set_option maxHeartbeats 1000000 in
theorem w_pushout_glue (hu : K_graph_Union P F) (hp : K_pushout_pairs P F) (hq : K_pushout_quotient P F) (ht : K_pushout_then P F) (s : Sp) (he : spE s = 0) : W P (c_pushout_glue F) (Done [.c 2 true 2, .c 3 true 2, .c 4 true 2, .t 5] [] (poD (poR s)) []) (init [spD s]) := by
  refine W_of ?_
  obtain ⟨hf, hg⟩ := spE_ok.1 he
  have r1 := hu s.b s.c
  rw [uniG_ok hf.vb hg.vb] at r1
  by_cases hb : Big s.b s.c
  · rw [if_pos hb] at r1
    rw [poR_big he hb]
    simp only [uniD, gD, gA, mA, g0, m0] at r1
    simp (config := { maxSteps := 1000000 }) (disch := first | omega | (simp only [go_sem]; omega)) only [go_sem, ↓reduceIte, spD]
    refine call_by r1 ?_
    simp (config := { maxSteps := 1000000 }) (disch := first | omega | (simp only [go_sem]; omega)) only [go_sem, ↓reduceIte]
    refine bran_ndec (fun _ => ?_) (fun h => absurd h (by decide))
    simp (config := { maxSteps := 1000000 }) (disch := first | omega | (simp only [go_sem]; omega)) only [go_sem, ↓reduceIte]
    simp [poD, g0, m0, gA, mA, ints, eds]
  · rw [if_neg hb] at r1
    have hs : SOk s := ⟨hf, hg, hb⟩
    rw [poR_ok hs]
    have vu := un_ok hf.vb hg.vb hb
    have il := inL_ok hf.vb hg.vb hb
    have ir := inR_ok hf.vb hg.vb hb
    have va := valid_spec hf.va
    have vb := valid_spec hf.vb
    have vc := valid_spec hg.vb
    have ln := hf.ln
    have le := hf.le
    have mn := hg.ln
    have me := hg.le
    have bf := validM_bd (mok.2 hf)
    have bg := validM_bd (mok.2 hg)
    have bi := validM_bd (mok.2 il)
    have br := validM_bd (mok.2 ir)
    have iln := il.ln
    have ile := il.le
    have irn := ir.ln
    have ire := ir.le
    have p1 := hp s.f.n s.g.n (idM s.b).n (inR s.b s.c).n (by omega) (by omega) (by rw [iln]; exact bf.1) (by rw [irn]; exact bg.1)
    have p2 := hp s.f.e s.g.e (idM s.b).e (inR s.b s.c).e (by omega) (by omega) (by rw [ile]; exact bf.2) (by rw [ire]; exact bg.2)
    have q := hq (unG s.b s.c) (prL (poF s).n (poH s).n (poF s).n.length) (prL (poF s).e (poH s).e (poF s).e.length) vu
      (by rw [prL_len]; simp only [poF, thenM, thr_len]; omega) (by rw [prL_len]; simp only [poF, thenM, thr_len]; omega) (glu_prN hs.uF hs.uH) (glu_prE hs.uF hs.uH)
    rw [show quoG (unG s.b s.c) (genL (unG s.b s.c).n.length (prL (poF s).n (poH s).n (poF s).n.length)) (genL (unG s.b s.c).e.length (prL (poF s).e (poH s).e (poF s).e.length)) = poG s from rfl,
      show quoM (genL (unG s.b s.c).n.length (prL (poF s).n (poH s).n (poF s).n.length)) (genL (unG s.b s.c).e.length (prL (poF s).e (poH s).e (poF s).e.length)) = poQ s from rfl] at q
    rw [show prL (thr s.f.n (idM s.b).n) (thr s.g.n (inR s.b s.c).n) (thr s.f.n (idM s.b).n).length = prL (poF s).n (poH s).n (poF s).n.length from rfl] at p1
    rw [show prL (thr s.f.e (idM s.b).e) (thr s.g.e (inR s.b s.c).e) (thr s.f.e (idM s.b).e).length = prL (poF s).e (poH s).e (poF s).e.length from rfl] at p2
    have qn := hs.q.ln
    have qe := hs.q.le
    have t1 := ht (idM s.b) (poQ s) (by omega) (by omega) (by rw [qn]; exact bi.1) (by rw [qe]; exact bi.2)
    have t2 := ht (inR s.b s.c) (poQ s) (by omega) (by omega) (by rw [qn]; exact br.1) (by rw [qe]; exact br.2)
    rw [show thenM (idM s.b) (poQ s) = poP s from rfl] at t1
    rw [show thenM (inR s.b s.c) (poQ s) = poK s from rfl] at t2
    generalize prL (poF s).n (poH s).n (poF s).n.length = l1 at *
    generalize prL (poF s).e (poH s).e (poF s).e.length = l2 at *
    clear bf bg bi br il ir hs vu va vb vc hf hg he hb iln ile irn ire qn qe
    generalize poG s = d at *
    generalize poQ s = qq at *
    generalize poP s = pp at *
    generalize poK s = kk at *
    generalize unG s.b s.c = uu at *
    generalize idM s.b = ii at *
    generalize inR s.b s.c = jj at *
    obtain ⟨dn, de⟩ := d
    obtain ⟨un, ue⟩ := uu
    obtain ⟨qn, qe⟩ := qq
    obtain ⟨pn, pe⟩ := pp
    obtain ⟨kn, ke⟩ := kk
    obtain ⟨i1, i2⟩ := ii
    obtain ⟨j1, j2⟩ := jj
    simp only [uniD, gD, gA, mD, mA, spD, poD] at *
    simp (config := { maxSteps := 1000000 }) (disch := first | omega | (simp only [go_sem]; omega)) only [go_sem, ↓reduceIte]
    refine call_by r1 ?_
    simp (config := { maxSteps := 1000000 }) (disch := first | omega | (simp only [go_sem]; omega)) only [go_sem, ↓reduceIte]
    refine call_by p1 ?_
    simp (config := { maxSteps := 1000000 }) (disch := first | omega | (simp only [go_sem]; omega)) only [go_sem, ↓reduceIte]
    refine call_by p2 ?_
    simp (config := { maxSteps := 1000000 }) (disch := first | omega | (simp only [go_sem]; omega)) only [go_sem, ↓reduceIte]
    refine call_by q ?_
    simp (config := { maxSteps := 1000000 }) (disch := first | omega | (simp only [go_sem]; omega)) only [go_sem, ↓reduceIte]
    refine call_by t1 ?_
    simp (config := { maxSteps := 1000000 }) (disch := first | omega | (simp only [go_sem]; omega)) only [go_sem, ↓reduceIte]
    refine call_by t2 ?_
    simp (config := { maxSteps := 1000000 }) (disch := first | omega | (simp only [go_sem]; omega)) only [go_sem, ↓reduceIte]
    try rfl
theorem w_pushout_Of (hp : K_pushout_span P F) (hg : K_pushout_glue P F) (s : Sp) : W P (c_pushout_Of F) (Done [.c 2 true 2, .c 3 true 2, .c 4 true 2, .t 5] [] (poD (poR s)) []) (init [spD s]) := by
  refine W_of ?_
  have r1 := hp s
  by_cases c : spE s = 0
  · have r2 := hg s c
    rw [c] at r1
    generalize poR s = r at *
    obtain ⟨⟨dn, de⟩, ⟨pn, pe⟩, ⟨kn, ke⟩, er⟩ := r
    simp only [spD, poD, gA, mA] at *
    simp (config := { maxSteps := 1000000 }) (disch := first | omega | (simp only [go_sem]; omega)) only [go_sem, ↓reduceIte]
    refine call_by r1 ?_
    simp (config := { maxSteps := 1000000 }) (disch := first | omega | (simp only [go_sem]; omega)) only [go_sem, ↓reduceIte]
    refine call_by r2 ?_
    simp (config := { maxSteps := 1000000 }) (disch := first | omega | (simp only [go_sem]; omega)) only [go_sem, ↓reduceIte]
    try rfl
  · have : poR s = (g0, m0, m0, spE s) := by
      have : poErr s = spE s := by unfold poErr; rw [if_pos c]
      unfold poR; rw [this, if_neg c]
    rw [this]
    generalize spE s = e at *
    simp only [spD] at *
    simp (config := { maxSteps := 1000000 }) (disch := first | omega | (simp only [go_sem]; omega)) only [go_sem, ↓reduceIte]
    refine call_by r1 ?_
    simp (config := { maxSteps := 1000000 }) (disch := first | omega | (simp only [go_sem]; omega)) only [go_sem, ↓reduceIte, c]
    simp [poD, g0, m0, gA, mA, ints, eds]
set_option maxHeartbeats 1000000 in
theorem w_pushout_filled (n : Nat) (p h q k : List Int) (hn : n ≤ 1000) (h1 : OnOk n p h) (h2 : OnOk n q k) :
    W P (c_pushout_filled F) (Done [.t 6] [] (.arr 1 (ints (ontoL n p h q k))) []) (init [.int .i64 n, .lst 1 [.lst 1 (ints p), .lst 1 (ints q)], .lst 1 [.lst 1 (ints h), .lst 1 (ints k)]]) := by
  refine W_of ?_
  obtain ⟨p1, p2, p3⟩ := h1
  obtain ⟨q1, q2, q3⟩ := h2
  have a0 : fillA n p h q k 0 = List.replicate n 0 := rfl
  have a1 : fillA n p h q k 1 = setL h p (fillA n p h q k 0) p.length := rfl
  have a2 : fillA n p h q k 2 = setL k q (fillA n p h q k 1) q.length := rfl
  have aE : ontoL n p h q k = fillA n p h q k 2 := rfl
  have al : ∀ i, i ≤ 2 → (fillA n p h q k i).length = n := fun i hi => by
    have h3 : i = 0 ∨ i = 1 ∨ i = 2 := by omega
    rcases h3 with rfl | rfl | rfl
    · rw [a0]; simp
    · rw [a1, setL_len, a0]; simp
    · rw [a2, setL_len, a1, setL_len, a0]; simp
  rw [aE]
  clear aE
  generalize fillA n p h q k = A at *
  have sl : ∀ (x y z : List Int) (i : Nat), (setL x y z i).length = z.length := fun x y z i => setL_len x y z i
  have ss : ∀ (x y z : List Int) (i : Nat), setL x y z (i + 1) = (setL x y z i).set (gt y i).toNat (gt x i) := fun x y z i => rfl
  simp (config := { maxSteps := 1000000 }) (disch := first | omega | (simp only [go_sem]; omega)) only [go_sem, ↓reduceIte]
  refine W_loop (fun i : Nat => ⟨[(2, .lst 1 [.lst 1 (ints h), .lst 1 (ints k)]), (7, .sl 0 0 n), (14, .lst 1 [.lst 1 (ints p), .lst 1 (ints q)]), (15, .int .i64 (2 : Nat)), (16, .int .i64 i)], [(0, .arr 1 (ints (A i)))], 1⟩) (fun i => i ≤ 2) (fun i => 2 - i) 0 ?_ ?_ ?_
  · simp (config := { maxSteps := 1000000 }) (disch := first | omega | (simp only [go_sem]; omega)) only [go_sem, ↓reduceIte, a0]
    rfl
  · simp
  · intro i hi
    have h3 : i = 0 ∨ i = 1 ∨ i = 2 := by omega
    rcases h3 with rfl | rfl | rfl
    · have l0 := al 0 (by omega)
      simp (config := { maxSteps := 1000000 }) (disch := first | omega | (simp only [go_sem]; omega)) only [go_sem, ↓reduceIte, c_pushout_filled_b12]
      refine bran_dec (fun c => ?_) (fun c => absurd c (by omega))
      simp (config := { maxSteps := 1000000 }) (disch := first | omega | (simp only [go_sem]; omega)) only [go_sem, ↓reduceIte, l0]
      refine W_loop (fun j : Nat => ⟨[(2, .lst 1 [.lst 1 (ints h), .lst 1 (ints k)]), (7, .sl 0 0 n), (8, .int .i64 (0 : Nat)), (14, .lst 1 [.lst 1 (ints p), .lst 1 (ints q)]), (15, .int .i64 (2 : Nat)), (16, .int .i64 (0 : Nat)), (21, .lst 1 (ints p)), (22, .int .i64 p.length), (23, .int .i64 j)], [(0, .arr 1 (ints (setL h p (A 0) j)))], 1⟩) (fun j => j ≤ p.length) (fun j => p.length - j) 0 ?_ ?_ ?_
      · simp (config := { maxSteps := 1000000 }) (disch := first | omega | (simp only [go_sem]; omega)) only [go_sem, ↓reduceIte, setL]
        rfl
      · simp
      · intro j hj
        have lj := sl h p (A 0) j
        rw [l0] at lj
        have sj := ss h p (A 0) j
        by_cases c : j < p.length
        · have g1 : decide ((j : Int) < p.length) = true := decide_eq_true (by omega)
          obtain ⟨b1, b2⟩ := p3 j c
          generalize setL h p (A 0) j = z at *
          simp (config := { maxSteps := 1000000 }) (disch := first | omega | (simp only [go_sem]; omega)) only [go_sem, ↓reduceIte, c_pushout_filled_b10, g1, lj]
          exact ⟨j + 1, by simp [sj], by omega, by omega⟩
        · have g1 : decide ((j : Int) < p.length) = false := decide_eq_false (by omega)
          obtain rfl : j = p.length := by omega
          simp (config := { maxSteps := 1000000 }) (disch := first | omega | (simp only [go_sem]; omega)) only [go_sem, ↓reduceIte, c_pushout_filled_b10, g1, lj]
          exact ⟨1, by simp [a1], by omega, by omega⟩
    · have l0 := al 1 (by omega)
      simp (config := { maxSteps := 1000000 }) (disch := first | omega | (simp only [go_sem]; omega)) only [go_sem, ↓reduceIte, c_pushout_filled_b12]
      refine bran_dec (fun c => ?_) (fun c => absurd c (by omega))
      simp (config := { maxSteps := 1000000 }) (disch := first | omega | (simp only [go_sem]; omega)) only [go_sem, ↓reduceIte, l0]
      refine W_loop (fun j : Nat => ⟨[(2, .lst 1 [.lst 1 (ints h), .lst 1 (ints k)]), (7, .sl 0 0 n), (8, .int .i64 (1 : Nat)), (14, .lst 1 [.lst 1 (ints p), .lst 1 (ints q)]), (15, .int .i64 (2 : Nat)), (16, .int .i64 (1 : Nat)), (21, .lst 1 (ints q)), (22, .int .i64 q.length), (23, .int .i64 j)], [(0, .arr 1 (ints (setL k q (A 1) j)))], 1⟩) (fun j => j ≤ q.length) (fun j => q.length - j) 0 ?_ ?_ ?_
      · simp (config := { maxSteps := 1000000 }) (disch := first | omega | (simp only [go_sem]; omega)) only [go_sem, ↓reduceIte, setL]
        rfl
      · simp
      · intro j hj
        have lj := sl k q (A 1) j
        rw [l0] at lj
        have sj := ss k q (A 1) j
        by_cases c : j < q.length
        · have g1 : decide ((j : Int) < q.length) = true := decide_eq_true (by omega)
          obtain ⟨b1, b2⟩ := q3 j c
          generalize setL k q (A 1) j = z at *
          simp (config := { maxSteps := 1000000 }) (disch := first | omega | (simp only [go_sem]; omega)) only [go_sem, ↓reduceIte, c_pushout_filled_b10, g1, lj]
          exact ⟨j + 1, by simp [sj], by omega, by omega⟩
        · have g1 : decide ((j : Int) < q.length) = false := decide_eq_false (by omega)
          obtain rfl : j = q.length := by omega
          simp (config := { maxSteps := 1000000 }) (disch := first | omega | (simp only [go_sem]; omega)) only [go_sem, ↓reduceIte, c_pushout_filled_b10, g1, lj]
          exact ⟨2, by simp [a2], by omega, by omega⟩
    · have l0 := al 2 (by omega)
      simp (config := { maxSteps := 1000000 }) (disch := first | omega | (simp only [go_sem]; omega)) only [go_sem, ↓reduceIte, c_pushout_filled_b12]
      refine bran_dec (fun c => absurd c (by omega)) (fun c => ?_)
      simp (config := { maxSteps := 1000000 }) (disch := first | omega | (simp only [go_sem]; omega)) only [go_sem, ↓reduceIte, l0]
end
end Go.Am
namespace Go.Am
open Go
set_option linter.unusedVariables false
set_option linter.unusedSimpArgs false
attribute [local irreducible] W

section
variable (P : Program) (F : String → Nat)
end
section
variable {P : Program} {F : String → Nat} {α : Type}
theorem coc_bad {s : Sp} {x : G} {h k : Mo} (e : cocE s x h k ≠ 0) : medP s x h k = (m0, cocE s x h k) := by unfold medP; rw [if_neg e]
theorem coc_ok {s : Sp} {x : G} {h k : Mo} (e : cocE s x h k = 0) : medP s x h k = (medU s h k, 0) := by unfold medP; rw [if_pos e]
theorem on_ok {b d : G} {p h : Mo} {x : G} (hp : MOk b d p) (hh : MOk b x h) : OnOk d.n.length p.n h.n ∧ OnOk d.e.length p.e h.e := by
  have vb := valid_spec hp.va
  have l1 := hp.ln
  have l2 := hp.le
  have l3 := hh.ln
  have l4 := hh.le
  exact ⟨⟨by omega, by omega, fun i hi => (hp.nd i (by omega)).1⟩, ⟨by omega, by omega, fun i hi => (hp.ed i (by omega)).1⟩⟩
set_option maxHeartbeats 2000000 in
theorem w_pushout_Mediate (hp : K_pushout_span P F) (hv : K_morphism_Valid P F) (hg : K_pushout_glue P F) (ht : K_pushout_then P F) (hsm : K_morphism_Same P F) (hfi : K_pushout_filled P F) (s : Sp) (x : G) (h k : Mo) :
    W P (c_pushout_Mediate F) (Done [.c 8 true 2, .t 9] [] (.tup [mA (medP s x h k).1, .int .i64 (medP s x h k).2]) []) (init [spD s, gD x, mD h, mD k]) := by
  refine W_of ?_
  have r1 := hp s
  have r2 := hv s.b x h
  have r3 := hv s.c x k
  have hE : cocE s x h k = if spE s ≠ 0 then spE s else if validM s.b x h ≠ 0 then validM s.b x h else if validM s.c x k ≠ 0 then validM s.c x k else if Big s.b s.c then 3 else if thenM s.f h = thenM s.g k then 0 else 11 := rfl
  by_cases c1 : spE s = 0
  · rw [if_neg (by simp [c1])] at hE
    by_cases c2 : validM s.b x h = 0
    · rw [if_neg (by simp [c2])] at hE
      by_cases c3 : validM s.c x k = 0
      · rw [if_neg (by simp [c3])] at hE
        have r4 := hg s c1
        rw [c1] at r1
        rw [c2] at r2
        rw [c3] at r3
        obtain ⟨hf, hgg⟩ := spE_ok.1 c1
        have hh := mok.1 c2
        have hk := mok.1 c3
        by_cases hb : Big s.b s.c
        · rw [if_pos hb] at hE
          rw [coc_bad (by rw [hE]; decide), hE]
          rw [poR_big c1 hb] at r4
          simp only [poD, g0, m0, gD, gA, mD, mA, spD] at *
          simp (config := { maxSteps := 1000000 }) (disch := first | omega | (simp only [go_sem]; omega)) only [go_sem, ↓reduceIte]
          refine call_by r1 ?_
          simp (config := { maxSteps := 1000000 }) (disch := first | omega | (simp only [go_sem]; omega)) only [go_sem, ↓reduceIte]
          refine call_by r2 ?_
          simp (config := { maxSteps := 1000000 }) (disch := first | omega | (simp only [go_sem]; omega)) only [go_sem, ↓reduceIte]
          refine call_by r3 ?_
          simp (config := { maxSteps := 1000000 }) (disch := first | omega | (simp only [go_sem]; omega)) only [go_sem, ↓reduceIte]
          refine call_by r4 ?_
          simp (config := { maxSteps := 1000000 }) (disch := first | omega | (simp only [go_sem]; omega)) only [go_sem, ↓reduceIte]
          refine bran_ndec (fun _ => ?_) (fun h => absurd h (by decide))
          simp (config := { maxSteps := 1000000 }) (disch := first | omega | (simp only [go_sem]; omega)) only [go_sem, ↓reduceIte]
          simp [ints, mA, m0]
        · rw [if_neg hb] at hE
          have hs : SOk s := ⟨hf, hgg, hb⟩
          rw [poR_ok hs] at r4
          have va := valid_spec hf.va
          have vb := valid_spec hf.vb
          have vc := valid_spec hgg.vb
          have vd := valid_spec hs.p.vb
          have ln := hf.ln
          have le := hf.le
          have mn := hgg.ln
          have me := hgg.le
          have h1 := hh.ln
          have h2 := hh.le
          have k1 := hk.ln
          have k2 := hk.le
          have bf := validM_bd (mok.2 hf)
          have bg := validM_bd (mok.2 hgg)
          have t1 := ht s.f h (by omega) (by omega) (by rw [h1]; exact bf.1) (by rw [h2]; exact bf.2)
          have t2 := ht s.g k (by omega) (by omega) (by rw [k1]; exact bg.1) (by rw [k2]; exact bg.2)
          have sm := hsm (thenM s.f h) (thenM s.g k) (by simp only [thenM, thr_len]; unfold maxL; omega) (by simp only [thenM, thr_len]; unfold maxL; omega)
          obtain ⟨o1, o2⟩ := on_ok hs.p hh
          obtain ⟨o3, o4⟩ := on_ok hs.k hk
          have f1 := hfi _ _ _ _ _ (by omega) o1 o3
          have f2 := hfi _ _ _ _ _ (by omega) o2 o4
          have hmU : medU s h k = ⟨ontoL (poG s).n.length (poP s).n h.n (poK s).n k.n, ontoL (poG s).e.length (poP s).e h.e (poK s).e k.e⟩ := rfl
          have q1 := hs.p.ln
          have q2 := hs.p.le
          have q3 := hs.k.ln
          have q4 := hs.k.le
          generalize ontoL (poG s).n.length (poP s).n h.n (poK s).n k.n = u1 at *
          generalize ontoL (poG s).e.length (poP s).e h.e (poK s).e k.e = u2 at *
          by_cases c4 : thenM s.f h = thenM s.g k
          · rw [if_pos c4] at hE
            rw [coc_ok hE, hmU]
            rw [decide_eq_true c4] at sm
            clear o1 o2 o3 o4 bf bg hs hf hgg hh hk hb c1 c2 c3 hE hmU c4 hp hv hg ht hsm hfi
            generalize thenM s.f h = fh at *
            generalize thenM s.g k = gk at *
            generalize poG s = d at *
            generalize poP s = pp at *
            generalize poK s = kk at *
            obtain ⟨dn, de⟩ := d
            obtain ⟨pn, pe⟩ := pp
            obtain ⟨kn, ke⟩ := kk
            obtain ⟨f1', f2'⟩ := fh
            obtain ⟨g1, g2⟩ := gk
            simp only [poD, gD, gA, mD, mA, spD] at *
            simp (config := { maxSteps := 1000000 }) (disch := first | omega | (simp only [go_sem]; omega)) only [go_sem, ↓reduceIte]
            refine call_by r1 ?_
            simp (config := { maxSteps := 1000000 }) (disch := first | omega | (simp only [go_sem]; omega)) only [go_sem, ↓reduceIte]
            refine call_by r2 ?_
            simp (config := { maxSteps := 1000000 }) (disch := first | omega | (simp only [go_sem]; omega)) only [go_sem, ↓reduceIte]
            refine call_by r3 ?_
            simp (config := { maxSteps := 1000000 }) (disch := first | omega | (simp only [go_sem]; omega)) only [go_sem, ↓reduceIte]
            refine call_by r4 ?_
            simp (config := { maxSteps := 1000000 }) (disch := first | omega | (simp only [go_sem]; omega)) only [go_sem, ↓reduceIte]
            refine call_by t1 ?_
            simp (config := { maxSteps := 1000000 }) (disch := first | omega | (simp only [go_sem]; omega)) only [go_sem, ↓reduceIte]
            refine call_by t2 ?_
            simp (config := { maxSteps := 1000000 }) (disch := first | omega | (simp only [go_sem]; omega)) only [go_sem, ↓reduceIte]
            refine call_by sm ?_
            simp (config := { maxSteps := 1000000 }) (disch := first | omega | (simp only [go_sem]; omega)) only [go_sem, ↓reduceIte]
            refine call_by f1 ?_
            simp (config := { maxSteps := 1000000 }) (disch := first | omega | (simp only [go_sem]; omega)) only [go_sem, ↓reduceIte]
            refine call_by f2 ?_
            simp (config := { maxSteps := 1000000 }) (disch := first | omega | (simp only [go_sem]; omega)) only [go_sem, ↓reduceIte]
            try rfl
          · rw [if_neg c4] at hE
            rw [coc_bad (by rw [hE]; decide), hE]
            rw [decide_eq_false c4] at sm
            clear o1 o2 o3 o4 bf bg hs hf hgg hh hk hb c1 c2 c3 hE hmU c4 hp hv hg ht hsm hfi
            generalize thenM s.f h = fh at *
            generalize thenM s.g k = gk at *
            generalize poG s = d at *
            generalize poP s = pp at *
            generalize poK s = kk at *
            obtain ⟨dn, de⟩ := d
            obtain ⟨pn, pe⟩ := pp
            obtain ⟨kn, ke⟩ := kk
            obtain ⟨f1', f2'⟩ := fh
            obtain ⟨g1, g2⟩ := gk
            simp only [poD, gD, gA, mD, mA, spD] at *
            simp (config := { maxSteps := 1000000 }) (disch := first | omega | (simp only [go_sem]; omega)) only [go_sem, ↓reduceIte]
            refine call_by r1 ?_
            simp (config := { maxSteps := 1000000 }) (disch := first | omega | (simp only [go_sem]; omega)) only [go_sem, ↓reduceIte]
            refine call_by r2 ?_
            simp (config := { maxSteps := 1000000 }) (disch := first | omega | (simp only [go_sem]; omega)) only [go_sem, ↓reduceIte]
            refine call_by r3 ?_
            simp (config := { maxSteps := 1000000 }) (disch := first | omega | (simp only [go_sem]; omega)) only [go_sem, ↓reduceIte]
            refine call_by r4 ?_
            simp (config := { maxSteps := 1000000 }) (disch := first | omega | (simp only [go_sem]; omega)) only [go_sem, ↓reduceIte]
            refine call_by t1 ?_
            simp (config := { maxSteps := 1000000 }) (disch := first | omega | (simp only [go_sem]; omega)) only [go_sem, ↓reduceIte]
            refine call_by t2 ?_
            simp (config := { maxSteps := 1000000 }) (disch := first | omega | (simp only [go_sem]; omega)) only [go_sem, ↓reduceIte]
            refine call_by sm ?_
            simp (config := { maxSteps := 1000000 }) (disch := first | omega | (simp only [go_sem]; omega)) only [go_sem, ↓reduceIte]
            simp [m0, ints, mA]
      · rw [if_pos c3] at hE
        rw [coc_bad (by rw [hE]; exact c3), hE]
        rw [c1] at r1
        rw [c2] at r2
        generalize validM s.c x k = v at *
        clear hE
        simp only [gD, mD, spD] at *
        simp (config := { maxSteps := 1000000 }) (disch := first | omega | (simp only [go_sem]; omega)) only [go_sem, ↓reduceIte]
        refine call_by r1 ?_
        simp (config := { maxSteps := 1000000 }) (disch := first | omega | (simp only [go_sem]; omega)) only [go_sem, ↓reduceIte]
        refine call_by r2 ?_
        simp (config := { maxSteps := 1000000 }) (disch := first | omega | (simp only [go_sem]; omega)) only [go_sem, ↓reduceIte]
        refine call_by r3 ?_
        simp (config := { maxSteps := 1000000 }) (disch := first | omega | (simp only [go_sem]; omega)) only [go_sem, ↓reduceIte, c3]
        simp [m0, mA, ints]
    · rw [if_pos c2] at hE
      rw [coc_bad (by rw [hE]; exact c2), hE]
      rw [c1] at r1
      generalize validM s.b x h = v at *
      clear hE
      simp only [gD, mD, spD] at *
      simp (config := { maxSteps := 1000000 }) (disch := first | omega | (simp only [go_sem]; omega)) only [go_sem, ↓reduceIte]
      refine call_by r1 ?_
      simp (config := { maxSteps := 1000000 }) (disch := first | omega | (simp only [go_sem]; omega)) only [go_sem, ↓reduceIte]
      refine call_by r2 ?_
      simp (config := { maxSteps := 1000000 }) (disch := first | omega | (simp only [go_sem]; omega)) only [go_sem, ↓reduceIte, c2]
      simp [m0, mA, ints]
  · rw [if_pos c1] at hE
    rw [coc_bad (by rw [hE]; exact c1), hE]
    generalize spE s = v at *
    clear hE
    simp only [gD, mD, spD] at *
    simp (config := { maxSteps := 1000000 }) (disch := first | omega | (simp only [go_sem]; omega)) only [go_sem, ↓reduceIte]
    refine call_by r1 ?_
    simp (config := { maxSteps := 1000000 }) (disch := first | omega | (simp only [go_sem]; omega)) only [go_sem, ↓reduceIte, c1]
    simp [m0, mA, ints]
theorem w_pushout_Check (hm : K_pushout_Mediate P F) (hg : K_pushout_glue P F) (hi : K_morphism_Injective P F) (hj : K_morphism_Surjective P F) (s : Sp) (x : G) (h k : Mo) : W P (c_pushout_Check F) (Done [.t 8] [] (.bool (chkP s x h k)) []) (init [spD s, gD x, mD h, mD k]) := by
  refine W_of ?_
  have r1 := hm s x h k
  have hC : chkP s x h k = (decide (cocE s x h k = 0) && (injM (poG s) x (medU s h k) && surM (poG s) x (medU s h k))) := rfl
  rw [hC]
  by_cases c : cocE s x h k = 0
  · obtain ⟨hs, _⟩ := cocE_ok.1 c
    have r2 := hg s (spE_ok.2 ⟨hs.f, hs.g⟩)
    rw [coc_ok c] at r1
    rw [poR_ok hs] at r2
    rw [decide_eq_true c]
    have r3 := hi (poG s) x (medU s h k)
    have r4 := hj (poG s) x (medU s h k)
    clear hs c hC
    generalize injM (poG s) x (medU s h k) = b1 at *
    generalize surM (poG s) x (medU s h k) = b2 at *
    generalize medU s h k = u at *
    generalize poG s = d at *
    generalize poP s = pp at *
    generalize poK s = kk at *
    obtain ⟨dn, de⟩ := d
    obtain ⟨pn, pe⟩ := pp
    obtain ⟨kn, ke⟩ := kk
    obtain ⟨un, ue⟩ := u
    simp only [poD, gD, gA, mD, mA, spD] at *
    simp (config := { maxSteps := 1000000 }) (disch := first | omega | (simp only [go_sem]; omega)) only [go_sem, ↓reduceIte]
    refine call_by r1 ?_
    simp (config := { maxSteps := 1000000 }) (disch := first | omega | (simp only [go_sem]; omega)) only [go_sem, ↓reduceIte]
    refine call_by r2 ?_
    simp (config := { maxSteps := 1000000 }) (disch := first | omega | (simp only [go_sem]; omega)) only [go_sem, ↓reduceIte]
    refine call_by r3 ?_
    cases b1
    · simp (config := { maxSteps := 1000000 }) (disch := first | omega | (simp only [go_sem]; omega)) only [go_sem, ↓reduceIte]
    · simp (config := { maxSteps := 1000000 }) (disch := first | omega | (simp only [go_sem]; omega)) only [go_sem, ↓reduceIte]
      refine call_by r4 ?_
      simp (config := { maxSteps := 1000000 }) (disch := first | omega | (simp only [go_sem]; omega)) only [go_sem, ↓reduceIte]
  · rw [coc_bad c] at r1
    rw [decide_eq_false c]
    generalize cocE s x h k = v at *
    simp only [gD, mD, spD, mA, m0] at *
    simp (config := { maxSteps := 1000000 }) (disch := first | omega | (simp only [go_sem]; omega)) only [go_sem, ↓reduceIte]
    refine call_by r1 ?_
    simp (config := { maxSteps := 1000000 }) (disch := first | omega | (simp only [go_sem]; omega)) only [go_sem, ↓reduceIte, c]
end
end Go.Am
namespace Go.Am
open Go
set_option linter.unusedVariables false
set_option linter.unusedSimpArgs false
section
variable {α : Type}
theorem idx_none (p : α → Bool) : ∀ (l : List α) (i : Int), 0 ≤ i → idx p l i = -1 → ∀ x ∈ l, p x = false
  | [], _, _, _, x, hx => by simp at hx
  | a :: l, i, h0, h, x, hx => by
    simp only [idx] at h
    split at h
    · omega
    · rename_i ha
      rcases List.mem_cons.1 hx with rfl | hx
      · simpa using ha
      · exact idx_none p l (i + 1) (by omega) h x hx
theorem idx_some [Inhabited α] (p : α → Bool) : ∀ (l : List α) (i : Int), idx p l i ≠ -1 → ∃ k : Nat, idx p l i = i + k ∧ k < l.length ∧ p (gt l k) = true ∧ ∀ x ∈ l.take k, p x = false
  | [], _, h => absurd rfl h
  | a :: l, i, h => by
    simp only [idx] at h ⊢
    split
    · rename_i ha
      exact ⟨0, by simp, by simp, by simpa [gt] using ha, by simp⟩
    · rename_i ha
      rw [if_neg ha] at h
      obtain ⟨k, h1, h2, h3, h4⟩ := idx_some p l (i + 1) h
      refine ⟨k + 1, by rw [h1]; push_cast; omega, by simpa using h2, ?_, ?_⟩
      · rw [gt_nat (by simpa using h2)]
        rw [gt_nat h2] at h3
        simpa using h3
      · rw [List.take_succ_cons]
        intro x hx
        rcases List.mem_cons.1 hx with rfl | hx
        · simpa using ha
        · exact h4 x hx
end
end Go.Am
