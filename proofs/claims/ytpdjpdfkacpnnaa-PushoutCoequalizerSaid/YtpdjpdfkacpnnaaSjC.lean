/- The graph package and its reference: validity, comparison, what is left. -/
import Derived.Test.YtpdjpdfkacpnnaaSjB
namespace Go.Am
open Go
set_option linter.unusedVariables false
set_option linter.unusedSimpArgs false
/- graph.left -/
def c_graph_left_r0 (F : String → Nat) : List LI := [⟨some 4, .mov (.k (.nl 1)), none⟩]
def c_graph_left_r1 (F : String → Nat) : List LI := [⟨some 5, .mov (.k (.nl 1)), none⟩]
def c_graph_left_r2 (F : String → Nat) : List LI := [⟨some 6, .mov (.k (.int .i64 (0))), none⟩,
  ⟨some 7, .mov (.k (.int .i64 (0))), none⟩]
def c_graph_left_r3 (F : String → Nat) : List LI := [⟨some 8, .mov (.t 6), none⟩,
  ⟨some 9, .mov (.t 0), none⟩,
  ⟨some 10, .bin .lss (.t 8) (.t 9), none⟩]
def c_graph_left_r4 (F : String → Nat) : List LI := [⟨some 13, .mov (.t 1), none⟩,
  ⟨some 14, .mov (.t 6), none⟩,
  ⟨some 15, .call (F "slices.Contains.I") [.t 13, .t 14] [], none⟩]
def c_graph_left_r5 (F : String → Nat) : List LI := [⟨some 16, .mov (.t 5), none⟩,
  ⟨some 17, .buildSl 1 8 (.int .i64 (0)) 1 [(0, .k (.int .i64 (-1)))], none⟩,
  ⟨some 18, .app 1 8 (.t 16) (.t 17), none⟩,
  ⟨some 5, .mov (.t 18), none⟩]
def c_graph_left_r6 (F : String → Nat) : List LI := [⟨some 19, .mov (.t 5), none⟩,
  ⟨some 20, .mov (.t 7), none⟩,
  ⟨some 21, .buildSl 1 8 (.int .i64 (0)) 1 [(0, .t 20)], none⟩,
  ⟨some 22, .app 1 8 (.t 19) (.t 21), none⟩,
  ⟨some 5, .mov (.t 22), none⟩]
def c_graph_left_r7 (F : String → Nat) : List LI := [⟨some 23, .mov (.t 7), none⟩,
  ⟨some 24, .bin .add (.t 23) (.k (.int .i64 (1))), none⟩,
  ⟨some 7, .mov (.t 24), none⟩]
def c_graph_left_r8 (F : String → Nat) : List LI := [⟨some 11, .mov (.t 6), none⟩,
  ⟨some 12, .bin .add (.t 11) (.k (.int .i64 (1))), none⟩,
  ⟨some 6, .mov (.t 12), none⟩]
def c_graph_left_b9 (F : String → Nat) : LC := (.seq (.seq (.reg (c_graph_left_r3 F) [0, 1, 5, 6, 7, 10]) (.cond (.t 10) .skip (.exit 0))) (.seq (.block 1 (.seq (.seq (.reg (c_graph_left_r4 F) [0, 1, 5, 6, 7, 15]) (.cond (.t 15) (.seq (.reg (c_graph_left_r5 F) [0, 1, 5, 6, 7]) (.exit 1)) .skip)) (.seq (.reg (c_graph_left_r6 F) [0, 1, 5, 6, 7]) (.reg (c_graph_left_r7 F) [0, 1, 5, 6, 7])))) (.reg (c_graph_left_r8 F) [0, 1, 5, 6, 7])))
def c_graph_left_r10 (F : String → Nat) : List LI := [⟨some 25, .mov (.t 5), none⟩,
  ⟨some 4, .mov (.t 25), none⟩]
def c_graph_left (F : String → Nat) : LC := (.seq (.reg (c_graph_left_r0 F) [0, 1]) (.seq (.reg (c_graph_left_r1 F) [0, 1, 5]) (.seq (.seq (.reg (c_graph_left_r2 F) [0, 1, 5, 6, 7]) (.block 0 (.loop [0, 1, 5, 6, 7] (c_graph_left_b9 F)))) (.seq (.reg (c_graph_left_r10 F) [4]) .ret))))
def h_graph_left : Hints := ⟨[], fun _ => [], tab [(0, [0, 1]), (1, [0, 1, 5]), (2, [0, 1, 5, 6, 7]), (3, [0, 1, 5, 6, 7, 10]), (4, [0, 1, 5, 6, 7]), (5, [0, 1, 5, 6, 7, 15]), (6, [0, 1, 5, 6, 7]), (7, [0, 1, 5, 6, 7]), (8, [0, 1, 5, 6, 7]), (9, [4])], tab [(3, [0, 1, 5, 6, 7])]⟩

/- r05.Valid -/
def c_r05_Valid_r0 (F : String → Nat) : List LI := [⟨some 1, .bx (.t 0), none⟩,
  ⟨some 2, .mov (.k (.int .i64 (0))), none⟩]
def c_r05_Valid_r1 (F : String → Nat) : List LI := [⟨some 5, .fad 0 (.t 1), none⟩,
  ⟨some 6, .load false 1 (.t 5), none⟩,
  ⟨some 7, .len (.t 6), none⟩,
  ⟨some 8, .bin .gtr (.t 7) (.k (.int .i64 (40))), none⟩,
  ⟨some 9, .mov (.t 8), none⟩,
  ⟨some 10, .fad 1 (.t 1), some (9, false)⟩,
  ⟨some 11, .load false 1 (.t 10), some (9, false)⟩,
  ⟨some 12, .len (.t 11), some (9, false)⟩,
  ⟨some 13, .bin .gtr (.t 12) (.k (.int .i64 (80))), some (9, false)⟩,
  ⟨some 14, .pick (.t 9) (.k (.bool true)) (.t 13), none⟩]
def c_r05_Valid_r2 (F : String → Nat) : List LI := [⟨some 2, .mov (.k (.int .i64 (3))), none⟩]
def c_r05_Valid_r3 (F : String → Nat) : List LI := [⟨some 3, .mov (.k (.int .i64 (0))), none⟩]
def c_r05_Valid_r4 (F : String → Nat) : List LI := [⟨some 15, .mov (.t 3), none⟩,
  ⟨some 16, .fad 0 (.t 1), none⟩,
  ⟨some 17, .load false 1 (.t 16), none⟩,
  ⟨some 18, .len (.t 17), none⟩,
  ⟨some 19, .bin .lss (.t 15) (.t 18), none⟩]
def c_r05_Valid_r5 (F : String → Nat) : List LI := [⟨some 22, .fad 0 (.t 1), none⟩,
  ⟨some 23, .load false 1 (.t 22), none⟩,
  ⟨some 24, .mov (.t 3), none⟩,
  ⟨some 25, .iad 1 (.t 23) (.t 24), none⟩,
  ⟨some 26, .load false 1 (.t 25), none⟩,
  ⟨some 27, .call (F "r05.kind") [.t 26] [], none⟩,
  ⟨some 28, .not (.t 27), none⟩]
def c_r05_Valid_r6 (F : String → Nat) : List LI := [⟨some 2, .mov (.k (.int .i64 (6))), none⟩]
def c_r05_Valid_r7 (F : String → Nat) : List LI := [⟨some 20, .mov (.t 3), none⟩,
  ⟨some 21, .bin .add (.t 20) (.k (.int .i64 (1))), none⟩,
  ⟨some 3, .mov (.t 21), none⟩]
def c_r05_Valid_b8 (F : String → Nat) : LC := (.seq (.seq (.reg (c_r05_Valid_r4 F) [1, 3, 19]) (.cond (.t 19) .skip (.exit 0))) (.seq (.block 1 (.seq (.reg (c_r05_Valid_r5 F) [1, 3, 28]) (.cond (.t 28) (.seq (.reg (c_r05_Valid_r6 F) [2]) .ret) .skip))) (.reg (c_r05_Valid_r7 F) [1, 3])))
def c_r05_Valid_r9 (F : String → Nat) : List LI := [⟨some 4, .mov (.k (.int .i64 (0))), none⟩]
def c_r05_Valid_r10 (F : String → Nat) : List LI := [⟨some 29, .mov (.t 4), none⟩,
  ⟨some 30, .fad 1 (.t 1), none⟩,
  ⟨some 31, .load false 1 (.t 30), none⟩,
  ⟨some 32, .len (.t 31), none⟩,
  ⟨some 33, .bin .lss (.t 29) (.t 32), none⟩]
def c_r05_Valid_r11 (F : String → Nat) : List LI := [⟨some 36, .fad 1 (.t 1), none⟩,
  ⟨some 37, .load false 1 (.t 36), none⟩,
  ⟨some 38, .mov (.t 4), none⟩,
  ⟨some 39, .iad 3 (.t 37) (.t 38), none⟩,
  ⟨some 40, .load true 3 (.t 39), none⟩,
  ⟨some 41, .fad 0 (.t 1), none⟩,
  ⟨some 42, .load false 1 (.t 41), none⟩,
  ⟨some 43, .len (.t 42), none⟩,
  ⟨some 44, .call (F "r05.right") [.t 40, .t 43] [], none⟩,
  ⟨some 45, .not (.t 44), none⟩]
def c_r05_Valid_r12 (F : String → Nat) : List LI := [⟨some 2, .mov (.k (.int .i64 (6))), none⟩]
def c_r05_Valid_r13 (F : String → Nat) : List LI := [⟨some 34, .mov (.t 4), none⟩,
  ⟨some 35, .bin .add (.t 34) (.k (.int .i64 (1))), none⟩,
  ⟨some 4, .mov (.t 35), none⟩]
def c_r05_Valid_b14 (F : String → Nat) : LC := (.seq (.seq (.reg (c_r05_Valid_r10 F) [1, 4, 33]) (.cond (.t 33) .skip (.exit 2))) (.seq (.block 3 (.seq (.dreg [] (c_r05_Valid_r11 F) [1, 4, 45]) (.cond (.t 45) (.seq (.reg (c_r05_Valid_r12 F) [2]) .ret) .skip))) (.reg (c_r05_Valid_r13 F) [1, 4])))
def c_r05_Valid_r15 (F : String → Nat) : List LI := [⟨some 2, .mov (.k (.int .i64 (0))), none⟩]
def c_r05_Valid (F : String → Nat) : LC := (.seq (.reg (c_r05_Valid_r0 F) [1]) (.seq (.seq (.reg (c_r05_Valid_r1 F) [1, 14]) (.cond (.t 14) (.seq (.reg (c_r05_Valid_r2 F) [2]) .ret) .skip)) (.seq (.seq (.reg (c_r05_Valid_r3 F) [1, 3]) (.block 0 (.loop [1, 3] (c_r05_Valid_b8 F)))) (.seq (.seq (.reg (c_r05_Valid_r9 F) [1, 4]) (.block 2 (.loop [1, 4] (c_r05_Valid_b14 F)))) (.seq (.reg (c_r05_Valid_r15 F) [2]) .ret)))))
def h_r05_Valid : Hints := ⟨[], fun _ => [], tab [(0, [1]), (1, [1, 14]), (2, [2]), (3, [1, 3]), (4, [1, 3, 19]), (5, [1, 3]), (6, [1, 3, 28]), (7, [2]), (8, [1, 4]), (9, [1, 4, 33]), (10, [1, 4]), (11, [1, 4, 45]), (12, [2]), (13, [2])], tab [(4, [1, 3]), (9, [1, 4])]⟩

/- r05.places -/
def c_r05_places_r0 (F : String → Nat) : List LI := [⟨some 4, .mov (.k (.nl 1)), none⟩]
def c_r05_places_r1 (F : String → Nat) : List LI := [⟨some 5, .mov (.k (.nl 1)), none⟩]
def c_r05_places_r2 (F : String → Nat) : List LI := [⟨some 6, .mov (.k (.int .i64 (0))), none⟩,
  ⟨some 7, .mov (.k (.int .i64 (0))), none⟩]
def c_r05_places_r3 (F : String → Nat) : List LI := [⟨some 8, .mov (.k (.int .i64 (0))), none⟩]
def c_r05_places_r4 (F : String → Nat) : List LI := [⟨some 9, .mov (.t 8), none⟩,
  ⟨some 10, .mov (.t 0), none⟩,
  ⟨some 11, .bin .lss (.t 9) (.t 10), none⟩]
def c_r05_places_r5 (F : String → Nat) : List LI := [⟨some 14, .mov (.t 7), none⟩,
  ⟨some 15, .mov (.t 1), none⟩,
  ⟨some 16, .len (.t 15), none⟩,
  ⟨some 17, .bin .lss (.t 14) (.t 16), none⟩,
  ⟨some 18, .mov (.t 17), none⟩,
  ⟨some 19, .mov (.t 1), some (18, true)⟩,
  ⟨some 20, .mov (.t 7), some (18, true)⟩,
  ⟨some 21, .iad 1 (.t 19) (.t 20), some (18, true)⟩,
  ⟨some 22, .load false 1 (.t 21), some (18, true)⟩,
  ⟨some 23, .mov (.t 8), some (18, true)⟩,
  ⟨some 24, .bin .eql (.t 22) (.t 23), some (18, true)⟩,
  ⟨some 25, .pick (.t 18) (.t 24) (.k (.bool false)), none⟩]
def c_r05_places_r6 (F : String → Nat) : List LI := [⟨some 26, .mov (.t 5), none⟩,
  ⟨some 27, .buildSl 1 8 (.int .i64 (0)) 1 [(0, .k (.int .i64 (-1)))], none⟩,
  ⟨some 28, .app 1 8 (.t 26) (.t 27), none⟩,
  ⟨some 5, .mov (.t 28), none⟩]
def c_r05_places_r7 (F : String → Nat) : List LI := [⟨some 29, .mov (.t 7), none⟩,
  ⟨some 30, .bin .add (.t 29) (.k (.int .i64 (1))), none⟩,
  ⟨some 7, .mov (.t 30), none⟩]
def c_r05_places_r8 (F : String → Nat) : List LI := [⟨some 31, .mov (.t 5), none⟩,
  ⟨some 32, .mov (.t 6), none⟩,
  ⟨some 33, .buildSl 1 8 (.int .i64 (0)) 1 [(0, .t 32)], none⟩,
  ⟨some 34, .app 1 8 (.t 31) (.t 33), none⟩,
  ⟨some 5, .mov (.t 34), none⟩]
def c_r05_places_r9 (F : String → Nat) : List LI := [⟨some 35, .mov (.t 6), none⟩,
  ⟨some 36, .bin .add (.t 35) (.k (.int .i64 (1))), none⟩,
  ⟨some 6, .mov (.t 36), none⟩]
def c_r05_places_r10 (F : String → Nat) : List LI := [⟨some 12, .mov (.t 8), none⟩,
  ⟨some 13, .bin .add (.t 12) (.k (.int .i64 (1))), none⟩,
  ⟨some 8, .mov (.t 13), none⟩]
def c_r05_places_b11 (F : String → Nat) : LC := (.seq (.seq (.reg (c_r05_places_r4 F) [0, 1, 5, 6, 7, 8, 11]) (.cond (.t 11) .skip (.exit 0))) (.seq (.block 1 (.seq (.seq (.reg (c_r05_places_r5 F) [0, 1, 5, 6, 7, 8, 25]) (.cond (.t 25) (.seq (.reg (c_r05_places_r6 F) [0, 1, 5, 6, 7, 8]) (.seq (.reg (c_r05_places_r7 F) [0, 1, 5, 6, 7, 8]) (.exit 1))) .skip)) (.seq (.reg (c_r05_places_r8 F) [0, 1, 5, 6, 7, 8]) (.reg (c_r05_places_r9 F) [0, 1, 5, 6, 7, 8])))) (.reg (c_r05_places_r10 F) [0, 1, 5, 6, 7, 8])))
def c_r05_places_r12 (F : String → Nat) : List LI := [⟨some 37, .mov (.t 5), none⟩,
  ⟨some 4, .mov (.t 37), none⟩]
def c_r05_places (F : String → Nat) : LC := (.seq (.reg (c_r05_places_r0 F) [0, 1]) (.seq (.reg (c_r05_places_r1 F) [0, 1, 5]) (.seq (.reg (c_r05_places_r2 F) [0, 1, 5, 6, 7]) (.seq (.seq (.reg (c_r05_places_r3 F) [0, 1, 5, 6, 7, 8]) (.block 0 (.loop [0, 1, 5, 6, 7, 8] (c_r05_places_b11 F)))) (.seq (.reg (c_r05_places_r12 F) [4]) .ret)))))
def h_r05_places : Hints := ⟨[], fun _ => [], tab [(0, [0, 1]), (1, [0, 1, 5]), (2, [0, 1, 5, 6, 7]), (3, [0, 1, 5, 6, 7, 8]), (4, [0, 1, 5, 6, 7, 8, 11]), (5, [0, 1, 5, 6, 7, 8]), (6, [0, 1, 5, 6, 7, 8, 25]), (7, [0, 1, 5, 6, 7, 8]), (8, [0, 1, 5, 6, 7, 8]), (9, [0, 1, 5, 6, 7, 8]), (10, [0, 1, 5, 6, 7, 8]), (11, [4])], tab [(4, [0, 1, 5, 6, 7, 8])]⟩

/- r05.Same -/
def c_r05_Same_r0 (F : String → Nat) : List LI := [⟨some 2, .bx (.t 0), none⟩,
  ⟨some 3, .bx (.t 1), none⟩,
  ⟨some 4, .mov (.k (.bool false)), none⟩]
def c_r05_Same_r1 (F : String → Nat) : List LI := [⟨some 6, .fad 0 (.t 2), none⟩,
  ⟨some 7, .load false 1 (.t 6), none⟩,
  ⟨some 8, .fad 0 (.t 3), none⟩,
  ⟨some 9, .load false 1 (.t 8), none⟩,
  ⟨some 10, .call (F "r05.SameInts") [.t 7, .t 9] [], none⟩,
  ⟨some 11, .not (.t 10), none⟩,
  ⟨some 12, .mov (.t 11), none⟩,
  ⟨some 13, .fad 1 (.t 2), some (12, false)⟩,
  ⟨some 14, .load false 1 (.t 13), some (12, false)⟩,
  ⟨some 15, .len (.t 14), some (12, false)⟩,
  ⟨some 16, .fad 1 (.t 3), some (12, false)⟩,
  ⟨some 17, .load false 1 (.t 16), some (12, false)⟩,
  ⟨some 18, .len (.t 17), some (12, false)⟩,
  ⟨some 19, .bin .neq (.t 15) (.t 18), some (12, false)⟩,
  ⟨some 20, .pick (.t 12) (.k (.bool true)) (.t 19), none⟩]
def c_r05_Same_r2 (F : String → Nat) : List LI := [⟨some 4, .mov (.k (.bool false)), none⟩]
def c_r05_Same_r3 (F : String → Nat) : List LI := [⟨some 5, .mov (.k (.int .i64 (0))), none⟩]
def c_r05_Same_r4 (F : String → Nat) : List LI := [⟨some 21, .mov (.t 5), none⟩,
  ⟨some 22, .fad 1 (.t 2), none⟩,
  ⟨some 23, .load false 1 (.t 22), none⟩,
  ⟨some 24, .len (.t 23), none⟩,
  ⟨some 25, .bin .lss (.t 21) (.t 24), none⟩]
def c_r05_Same_r5 (F : String → Nat) : List LI := [⟨some 28, .fad 1 (.t 2), none⟩,
  ⟨some 29, .load false 1 (.t 28), none⟩,
  ⟨some 30, .mov (.t 5), none⟩,
  ⟨some 31, .iad 3 (.t 29) (.t 30), none⟩,
  ⟨some 32, .load true 3 (.t 31), none⟩,
  ⟨some 33, .fad 1 (.t 3), none⟩,
  ⟨some 34, .load false 1 (.t 33), none⟩,
  ⟨some 35, .mov (.t 5), none⟩,
  ⟨some 36, .iad 3 (.t 34) (.t 35), none⟩,
  ⟨some 37, .load true 3 (.t 36), none⟩,
  ⟨some 38, .eqA 3 true (.t 32) (.t 37), none⟩]
def c_r05_Same_r6 (F : String → Nat) : List LI := [⟨some 4, .mov (.k (.bool false)), none⟩]
def c_r05_Same_r7 (F : String → Nat) : List LI := [⟨some 26, .mov (.t 5), none⟩,
  ⟨some 27, .bin .add (.t 26) (.k (.int .i64 (1))), none⟩,
  ⟨some 5, .mov (.t 27), none⟩]
def c_r05_Same_b8 (F : String → Nat) : LC := (.seq (.seq (.reg (c_r05_Same_r4 F) [2, 3, 5, 25]) (.cond (.t 25) .skip (.exit 0))) (.seq (.block 1 (.seq (.dreg [] (c_r05_Same_r5 F) [2, 3, 5, 38]) (.cond (.t 38) (.seq (.reg (c_r05_Same_r6 F) [4]) .ret) .skip))) (.reg (c_r05_Same_r7 F) [2, 3, 5])))
def c_r05_Same_r9 (F : String → Nat) : List LI := [⟨some 4, .mov (.k (.bool true)), none⟩]
def c_r05_Same (F : String → Nat) : LC := (.seq (.reg (c_r05_Same_r0 F) [2, 3]) (.seq (.seq (.reg (c_r05_Same_r1 F) [2, 3, 20]) (.cond (.t 20) (.seq (.reg (c_r05_Same_r2 F) [4]) .ret) .skip)) (.seq (.seq (.reg (c_r05_Same_r3 F) [2, 3, 5]) (.block 0 (.loop [2, 3, 5] (c_r05_Same_b8 F)))) (.seq (.reg (c_r05_Same_r9 F) [4]) .ret))))
def h_r05_Same : Hints := ⟨[], fun _ => [], tab [(0, [2, 3]), (1, [2, 3, 20]), (2, [4]), (3, [2, 3, 5]), (4, [2, 3, 5, 25]), (5, [2, 3, 5]), (6, [2, 3, 5, 38]), (7, [4]), (8, [4])], tab [(4, [2, 3, 5])]⟩

/- slices.Equal.I -/
def c_slices_Equal_I_r0 (F : String → Nat) : List LI := [⟨some 4, .mov (.k (.bool false)), none⟩]
def c_slices_Equal_I_r1 (F : String → Nat) : List LI := [⟨some 6, .mov (.t 0), none⟩,
  ⟨some 7, .len (.t 6), none⟩,
  ⟨some 8, .mov (.t 1), none⟩,
  ⟨some 9, .len (.t 8), none⟩,
  ⟨some 10, .bin .neq (.t 7) (.t 9), none⟩]
def c_slices_Equal_I_r2 (F : String → Nat) : List LI := [⟨some 4, .mov (.k (.bool false)), none⟩]
def c_slices_Equal_I_r3 (F : String → Nat) : List LI := [⟨some 11, .mov (.t 0), none⟩,
  ⟨some 12, .len (.t 11), none⟩,
  ⟨some 13, .mov (.k (.int .i64 (0))), none⟩]
def c_slices_Equal_I_r4 (F : String → Nat) : List LI := [⟨some 14, .bin .lss (.t 13) (.t 12), none⟩]
def c_slices_Equal_I_r5 (F : String → Nat) : List LI := [⟨some 15, .mov (.t 13), none⟩,
  ⟨some 5, .mov (.t 15), none⟩]
def c_slices_Equal_I_r6 (F : String → Nat) : List LI := [⟨some 16, .mov (.t 0), none⟩,
  ⟨some 17, .mov (.t 5), none⟩,
  ⟨some 18, .iad 1 (.t 16) (.t 17), none⟩,
  ⟨some 19, .load false 1 (.t 18), none⟩,
  ⟨some 20, .mov (.t 1), none⟩,
  ⟨some 21, .mov (.t 5), none⟩,
  ⟨some 22, .iad 1 (.t 20) (.t 21), none⟩,
  ⟨some 23, .load false 1 (.t 22), none⟩,
  ⟨some 24, .bin .neq (.t 19) (.t 23), none⟩]
def c_slices_Equal_I_r7 (F : String → Nat) : List LI := [⟨some 4, .mov (.k (.bool false)), none⟩]
def c_slices_Equal_I_r8 (F : String → Nat) : List LI := [⟨some 25, .bin .add (.t 13) (.k (.int .i64 (1))), none⟩,
  ⟨some 13, .mov (.t 25), none⟩]
def c_slices_Equal_I_b9 (F : String → Nat) : LC := (.seq (.reg (c_slices_Equal_I_r4 F) [0, 1, 12, 13, 14]) (.seq (.cond (.t 14) .skip (.exit 0)) (.seq (.block 1 (.seq (.reg (c_slices_Equal_I_r5 F) [0, 1, 5, 12, 13]) (.seq (.dreg [] (c_slices_Equal_I_r6 F) [0, 1, 12, 13, 24]) (.cond (.t 24) (.seq (.reg (c_slices_Equal_I_r7 F) [4]) .ret) .skip)))) (.reg (c_slices_Equal_I_r8 F) [0, 1, 12, 13]))))
def c_slices_Equal_I_r10 (F : String → Nat) : List LI := [⟨some 4, .mov (.k (.bool true)), none⟩]
def c_slices_Equal_I (F : String → Nat) : LC := (.seq (.reg (c_slices_Equal_I_r0 F) [0, 1]) (.seq (.seq (.reg (c_slices_Equal_I_r1 F) [0, 1, 10]) (.cond (.t 10) (.seq (.reg (c_slices_Equal_I_r2 F) [4]) .ret) .skip)) (.seq (.seq (.reg (c_slices_Equal_I_r3 F) [0, 1, 12, 13]) (.block 0 (.loop [0, 1, 12, 13] (c_slices_Equal_I_b9 F)))) (.seq (.reg (c_slices_Equal_I_r10 F) [4]) .ret))))
def h_slices_Equal_I : Hints := ⟨[], fun _ => [], tab [(0, [0, 1]), (1, [0, 1, 10]), (2, [4]), (3, [0, 1, 12, 13]), (4, [0, 1, 12, 13, 14]), (5, [0, 1, 5, 12, 13]), (6, [0, 1, 12, 13, 24]), (7, [4]), (8, [0, 1, 12, 13]), (9, [4])], tab [(4, [0, 1, 12, 13])]⟩

/- l05.same -/
def c_l05_same_r0 (F : String → Nat) : List LI := [⟨some 2, .bx (.t 0), none⟩,
  ⟨some 3, .bx (.t 1), none⟩,
  ⟨some 4, .mov (.k (.bool false)), none⟩]
def c_l05_same_r1 (F : String → Nat) : List LI := [⟨some 5, .fad 0 (.t 2), none⟩,
  ⟨some 6, .load false 1 (.t 5), none⟩,
  ⟨some 7, .fad 0 (.t 3), none⟩,
  ⟨some 8, .load false 1 (.t 7), none⟩,
  ⟨some 9, .call (F "slices.Equal.I") [.t 6, .t 8] [], none⟩,
  ⟨some 10, .mov (.t 9), none⟩,
  ⟨some 11, .fad 1 (.t 2), some (10, true)⟩,
  ⟨some 12, .load false 1 (.t 11), some (10, true)⟩,
  ⟨some 13, .fad 1 (.t 3), some (10, true)⟩,
  ⟨some 14, .load false 1 (.t 13), some (10, true)⟩,
  ⟨some 15, .call (F "slices.Equal.I") [.t 12, .t 14] [], some (10, true)⟩,
  ⟨some 16, .pick (.t 10) (.t 15) (.k (.bool false)), none⟩,
  ⟨some 4, .mov (.t 16), none⟩]
def c_l05_same (F : String → Nat) : LC := (.seq (.reg (c_l05_same_r0 F) [2, 3]) (.seq (.reg (c_l05_same_r1 F) [4]) .ret))
def h_l05_same : Hints := ⟨[], fun _ => [], tab [(0, [2, 3]), (1, [4])], tab []⟩

attribute [go_sem] c_graph_left_r0 c_graph_left_r1 c_graph_left_r2 c_graph_left_r3 c_graph_left_r4 c_graph_left_r5 c_graph_left_r6 c_graph_left_r7 c_graph_left_r8 c_graph_left_r10 c_graph_left c_r05_Valid_r0 c_r05_Valid_r1 c_r05_Valid_r2 c_r05_Valid_r3 c_r05_Valid_r4 c_r05_Valid_r5 c_r05_Valid_r6 c_r05_Valid_r7 c_r05_Valid_r9 c_r05_Valid_r10 c_r05_Valid_r11 c_r05_Valid_r12 c_r05_Valid_r13 c_r05_Valid_r15 c_r05_Valid c_r05_places_r0 c_r05_places_r1 c_r05_places_r2 c_r05_places_r3 c_r05_places_r4 c_r05_places_r5 c_r05_places_r6 c_r05_places_r7 c_r05_places_r8 c_r05_places_r9 c_r05_places_r10 c_r05_places_r12 c_r05_places c_r05_Same_r0 c_r05_Same_r1 c_r05_Same_r2 c_r05_Same_r3 c_r05_Same_r4 c_r05_Same_r5 c_r05_Same_r6 c_r05_Same_r7 c_r05_Same_r9 c_r05_Same c_slices_Equal_I_r0 c_slices_Equal_I_r1 c_slices_Equal_I_r2 c_slices_Equal_I_r3 c_slices_Equal_I_r4 c_slices_Equal_I_r5 c_slices_Equal_I_r6 c_slices_Equal_I_r7 c_slices_Equal_I_r8 c_slices_Equal_I_r10 c_slices_Equal_I c_l05_same_r0 c_l05_same_r1 c_l05_same
section
variable {P : Program} {F : String → Nat} {α : Type}
theorem eqE (a b : E) : a = b ↔ a.t = b.t ∧ a.f = b.f ∧ a.o = b.o := by
  cases a; cases b; simp
theorem left_len (gs : List Int) (i : Nat) : (leftL gs i).1.length = i := by
  induction i with
  | zero => rfl
  | succ i ih => simp only [leftL]; split <;> simp [ih]
theorem left_bd (gs : List Int) (i : Nat) : 0 ≤ (leftL gs i).2 ∧ (leftL gs i).2 ≤ i := by
  induction i with
  | zero => simp [leftL]
  | succ i ih => simp only [leftL]; split <;> simp <;> omega
theorem w_graph_left (hc : K_slices_Contains_I P F) (gs : List Int) (n : Nat) (hl : gs.length ≤ maxL) (hn : n ≤ 1000000) : W P (c_graph_left F) (Done [.t 4] [] (.arr 1 (ints (leftL gs n).1)) []) (init [.int .i64 n, .lst 1 (ints gs)]) := by
  refine W_of ?_
  simp (config := { maxSteps := 1000000 }) (disch := first | omega | (simp only [go_sem]; omega)) only [go_sem, ↓reduceIte]
  refine W_loop (fun i : Nat => ⟨[(0, .int .i64 n), (1, .lst 1 (ints gs)), (5, .sl 0 0 i), (6, .int .i64 i), (7, .int .i64 (leftL gs i).2)], [(0, .arr 1 (ints (leftL gs i).1))], 1⟩) (fun i => i ≤ n) (fun i => n - i) 0 ?_ ?_ ?_
  · simp (config := { maxSteps := 1000000 }) (disch := first | omega | (simp only [go_sem]; omega)) only [go_sem, ↓reduceIte, leftL, ints_nil]
    rfl
  · omega
  · intro i hi
    have hb := left_bd gs i
    have e1 := left_len gs i
    simp (config := { maxSteps := 1000000 }) (disch := first | omega | (simp only [go_sem]; omega)) only [go_sem, ↓reduceIte, c_graph_left_b9]
    refine bran_dec (fun h => ?_) (fun h => ?_)
    · simp (config := { maxSteps := 1000000 }) (disch := first | omega | (simp only [go_sem]; omega)) only [go_sem, ↓reduceIte]
      refine call_by (hc _ _ hl) ?_
      simp (config := { maxSteps := 1000000 }) (disch := first | omega | (simp only [go_sem]; omega)) only [go_sem, ↓reduceIte]
      refine bran_dec (fun hm => ?_) (fun hm => ?_)
      · simp (config := { maxSteps := 1000000 }) (disch := first | omega | (simp only [go_sem]; omega)) only [go_sem, ↓reduceIte, e1]
        exact ⟨i + 1, by simp [leftL, hm], by omega, by omega⟩
      · simp (config := { maxSteps := 1000000 }) (disch := first | omega | (simp only [go_sem]; omega)) only [go_sem, ↓reduceIte, e1]
        exact ⟨i + 1, by simp [leftL, hm], by omega, by omega⟩
    · obtain rfl : i = n := by omega
      simp (config := { maxSteps := 1000000 }) (disch := first | omega | (simp only [go_sem]; omega)) only [go_sem, ↓reduceIte, e1]
/-- How many are below a number. -/
def cnt (gs : List Int) (i : Nat) : Nat := (gs.filter fun g => decide (g < (i : Int))).length
theorem asc_gt (n : Int) : ∀ (l : List Int) (p : Option Int), ascG n p l = 0 → (∀ x, x ∈ l → 0 ≤ x ∧ x ≤ n - 1) ∧ (∀ q, p = some q → ∀ x, x ∈ l → q < x) ∧ l.Pairwise (· < ·)
  | [], p, _ => by simp
  | x :: l, p, h => by
    simp only [ascG] at h
    split at h
    case isFalse => simp at h
    rename_i hx
    by_cases hp : leO x p = true
    · rw [if_pos hp] at h; simp at h
    · rw [if_neg hp] at h
      obtain ⟨h1, h2, h3⟩ := asc_gt n l (some x) h
      refine ⟨by simpa using ⟨hx, h1⟩, ?_, ?_⟩
      · rintro q rfl y hy
        simp only [leO, decide_eq_true_eq] at hp
        rcases List.mem_cons.1 hy with rfl | hy
        · omega
        · have := h2 x rfl y hy; omega
      · simpa using ⟨fun y hy => h2 x rfl y hy, h3⟩
theorem cnt_spec {l : List Int} (hp : l.Pairwise (· < ·)) (hb : ∀ x, x ∈ l → 0 ≤ x) : ∀ i : Nat, cnt l i ≤ l.length ∧ ((i : Int) ∈ l ↔ cnt l i < l.length ∧ gt l (cnt l i) = i) ∧ (cnt l (i + 1) = if (i : Int) ∈ l then cnt l i + 1 else cnt l i) := by
  induction l with
  | nil => intro i; simp [cnt]
  | cons a l ih =>
    intro i
    obtain ⟨hp1, hp2⟩ := List.pairwise_cons.1 hp
    obtain ⟨h1, h2, h3⟩ := ih hp2 (fun x hx => hb x (List.mem_cons_of_mem _ hx)) i
    have ha := hb a (by simp)
    have hc : ∀ j : Nat, cnt (a :: l) j = if a < (j : Int) then cnt l j + 1 else cnt l j := by
      intro j
      simp only [cnt, List.filter_cons]
      by_cases h : a < (j : Int) <;> simp [h]
    have hz : ∀ j : Nat, (j : Int) ≤ a → cnt l j = 0 := by
      intro j hj
      simp only [cnt, List.length_eq_zero_iff, List.filter_eq_nil_iff, decide_eq_true_eq]
      intro x hx
      have := hp1 x hx
      omega
    rw [hc i, hc (i + 1)]
    rcases Int.lt_trichotomy a i with h | h | h
    · have e0 : (a : Int) ≠ i := by omega
      have e2 : ((i : Int) ∈ a :: l) ↔ ((i : Int) ∈ l) := by simp [Ne.symm e0]
      rw [if_pos h, if_pos (by omega)]
      refine ⟨by simp; omega, ?_, ?_⟩
      · rw [e2, h2]
        have : gt (a :: l) ((cnt l i + 1 : Nat) : Int) = gt l (cnt l i) := by simp [gt]
        rw [this]
        simp
      · simp only [e2]
        rw [h3]
        split <;> rfl
    · have e3 := hz i (by omega)
      have e4 : (i : Int) ∉ l := fun hm => by have := hp1 _ hm; omega
      rw [if_neg (by omega), if_pos (by omega), e3]
      rw [if_neg e4, e3] at h3
      refine ⟨by simp, ?_, ?_⟩
      · simp [h, gt]
      · rw [h3, if_pos (by simp [h])]
    · have e3 := hz i (by omega)
      have e4 : (i : Int) ∉ l := fun hm => by have := hp1 _ hm; omega
      rw [if_neg (by omega), if_neg (by omega), e3]
      rw [if_neg e4, e3] at h3
      refine ⟨by simp, ?_, ?_⟩
      · have : (i : Int) ≠ a := by omega
        simp [e4, this, gt]; omega
      · rw [h3, if_neg (by simp [e4]; omega)]
theorem w_r05_places (gs : List Int) (n : Nat) (hl : gs.length ≤ maxL) (hn : n ≤ 1000000) (ha : ascG n none gs = 0) : W P (c_r05_places F) (Done [.t 4] [] (.arr 1 (ints (leftL gs n).1)) []) (init [.int .i64 n, .lst 1 (ints gs)]) := by
  refine W_of ?_
  unfold maxL at hl
  obtain ⟨g1, _, g3⟩ := asc_gt n gs none ha
  have hcs := cnt_spec g3 (fun x hx => (g1 x hx).1)
  simp (config := { maxSteps := 1000000 }) (disch := first | omega | (simp only [go_sem]; omega)) only [go_sem, ↓reduceIte]
  refine W_loop (fun i : Nat => ⟨[(0, .int .i64 n), (1, .lst 1 (ints gs)), (5, .sl 0 0 i), (6, .int .i64 (leftL gs i).2), (7, .int .i64 (cnt gs i)), (8, .int .i64 i)], [(0, .arr 1 (ints (leftL gs i).1))], 1⟩) (fun i => i ≤ n) (fun i => n - i) 0 ?_ ?_ ?_
  · have e0 : cnt gs 0 = 0 := by
      simp only [cnt, List.length_eq_zero_iff, List.filter_eq_nil_iff, decide_eq_true_eq]
      intro x hx; have := g1 x hx; omega
    simp (config := { maxSteps := 1000000 }) (disch := first | omega | (simp only [go_sem]; omega)) only [go_sem, ↓reduceIte, leftL, ints_nil, e0]
    rfl
  · omega
  · intro i hi
    have hb := left_bd gs i
    have e1 := left_len gs i
    obtain ⟨k1, k2, k3⟩ := hcs i
    simp (config := { maxSteps := 1000000 }) (disch := first | omega | (simp only [go_sem]; omega)) only [go_sem, ↓reduceIte, c_r05_places_b11]
    refine bran_dec (fun h => ?_) (fun h => ?_)
    · simp (config := { maxSteps := 1000000 }) (disch := first | omega | (simp only [go_sem]; omega)) only [go_sem, ↓reduceIte]
      refine bran_dec (fun c => ?_) (fun c => ?_)
      · simp (config := { maxSteps := 1000000 }) (disch := first | omega | (simp only [go_sem]; omega)) only [go_sem, ↓reduceIte, c]
        refine bran_dec (fun d => ?_) (fun d => ?_)
        · have hm : (i : Int) ∈ gs := k2.2 ⟨by omega, d⟩
          rw [if_pos hm] at k3
          simp (config := { maxSteps := 1000000 }) (disch := first | omega | (simp only [go_sem]; omega)) only [go_sem, ↓reduceIte, e1]
          exact ⟨i + 1, by simp [leftL, hm, k3], by omega, by omega⟩
        · have hm : (i : Int) ∉ gs := fun h => d (k2.1 h).2
          rw [if_neg hm] at k3
          simp (config := { maxSteps := 1000000 }) (disch := first | omega | (simp only [go_sem]; omega)) only [go_sem, ↓reduceIte, e1]
          exact ⟨i + 1, by simp [leftL, hm, k3], by omega, by omega⟩
      · have hm : (i : Int) ∉ gs := fun h => c (by have := (k2.1 h).1; omega)
        rw [if_neg hm] at k3
        simp (config := { maxSteps := 1000000 }) (disch := first | omega | (simp only [go_sem]; omega)) only [go_sem, ↓reduceIte, e1, c]
        exact ⟨i + 1, by simp [leftL, hm, k3], by omega, by omega⟩
    · obtain rfl : i = n := by omega
      simp (config := { maxSteps := 1000000 }) (disch := first | omega | (simp only [go_sem]; omega)) only [go_sem, ↓reduceIte, e1]
theorem w_slices_Equal_I (a b : List Int) (hl : a.length ≤ maxL) : W P (c_slices_Equal_I F) (Done [.t 4] [] (.bool (decide (a = b))) []) (init [.lst 1 (ints a), .lst 1 (ints b)]) := by
  refine W_of ?_
  unfold maxL at hl
  simp (config := { maxSteps := 1000000 }) (disch := first | omega | (simp only [go_sem]; omega)) only [go_sem, ↓reduceIte]
  refine bran_ndec (fun h => ?_) (fun h => ?_)
  · simp (config := { maxSteps := 1000000 }) (disch := first | omega | (simp only [go_sem]; omega)) only [go_sem, ↓reduceIte]
    have : a ≠ b := fun e => h (by rw [e])
    simp [this]
  · have h' : a.length = b.length := by omega
    simp (config := { maxSteps := 1000000 }) (disch := first | omega | (simp only [go_sem]; omega)) only [go_sem, ↓reduceIte]
    refine W_loop (fun i : Nat => ⟨[(0, .lst 1 (ints a)), (1, .lst 1 (ints b)), (12, .int .i64 a.length), (13, .int .i64 i)], [], 0⟩) (fun i => i ≤ a.length ∧ a.take i = b.take i) (fun i => a.length - i) 0 ?_ ?_ ?_
    · simp (config := { maxSteps := 1000000 }) (disch := first | omega | (simp only [go_sem]; omega)) only [go_sem, ↓reduceIte]
      rfl
    · simp
    · intro i hi
      simp (config := { maxSteps := 1000000 }) (disch := first | omega | (simp only [go_sem]; omega)) only [go_sem, ↓reduceIte, c_slices_Equal_I_b9]
      refine bran_dec (fun c => ?_) (fun c => ?_)
      · simp (config := { maxSteps := 1000000 }) (disch := first | omega | (simp only [go_sem]; omega)) only [go_sem, ↓reduceIte]
        refine bran_ndec (fun d => ?_) (fun d => ?_)
        · simp (config := { maxSteps := 1000000 }) (disch := first | omega | (simp only [go_sem]; omega)) only [go_sem, ↓reduceIte]
          have : a ≠ b := fun e => d (by rw [e])
          simp [this]
        · simp (config := { maxSteps := 1000000 }) (disch := first | omega | (simp only [go_sem]; omega)) only [go_sem, ↓reduceIte]
          exact ⟨i + 1, by simp, ⟨by omega, by rw [take_gt (by omega), take_gt (by omega), hi.2, d]⟩, by omega⟩
      · simp (config := { maxSteps := 1000000 }) (disch := first | omega | (simp only [go_sem]; omega)) only [go_sem, ↓reduceIte]
        obtain rfl : i = a.length := by omega
        have := hi.2
        rw [List.take_length, List.take_of_length_le (by omega)] at this
        simp [this]
theorem w_l05_same (he : K_slices_Equal_I P F) (a b : Mo) (h1 : a.n.length ≤ maxL) (h2 : a.e.length ≤ maxL) : W P (c_l05_same F) (Done [.t 4] [] (.bool (decide (a = b))) []) (init [mD a, mD b]) := by
  refine W_of ?_
  obtain ⟨an, ae⟩ := a
  obtain ⟨bn, be⟩ := b
  simp only at h1 h2
  simp (config := { maxSteps := 1000000 }) (disch := first | omega | (simp only [go_sem]; omega)) only [go_sem, ↓reduceIte, mD]
  refine call_by (he _ _ h1) ?_
  simp (config := { maxSteps := 1000000 }) (disch := first | omega | (simp only [go_sem]; omega)) only [go_sem, ↓reduceIte]
  refine bran_dec (fun c => ?_) (fun c => ?_)
  · subst c
    simp (config := { maxSteps := 1000000 }) (disch := first | omega | (simp only [go_sem]; omega)) only [go_sem, ↓reduceIte]
    refine call_by (he _ _ h2) ?_
    simp (config := { maxSteps := 1000000 }) (disch := first | omega | (simp only [go_sem]; omega)) only [go_sem, ↓reduceIte]
    simp
  · simp (config := { maxSteps := 1000000 }) (disch := first | omega | (simp only [go_sem]; omega)) only [go_sem, ↓reduceIte, c]
    simp [c]
theorem w_r05_Same (hs : K_r05_SameInts P F) (a b : G) (h1 : a.n.length ≤ maxL) (h2 : a.e.length ≤ maxL) : W P (c_r05_Same F) (Done [.t 4] [] (.bool (decide (a = b))) []) (init [gD a, gD b]) := by
  refine W_of ?_
  obtain ⟨an, ae⟩ := a
  obtain ⟨bn, be⟩ := b
  simp only at h1 h2
  simp (config := { maxSteps := 1000000 }) (disch := first | omega | (simp only [go_sem]; omega)) only [go_sem, ↓reduceIte, gD]
  refine call_by (hs _ _ h1) ?_
  simp (config := { maxSteps := 1000000 }) (disch := first | omega | (simp only [go_sem]; omega)) only [go_sem, ↓reduceIte]
  refine bran_ndec (fun c => ?_) (fun c => ?_)
  · simp (config := { maxSteps := 1000000 }) (disch := first | omega | (simp only [go_sem]; omega)) only [go_sem, ↓reduceIte, c]
    simp [c]
  · subst c
    simp (config := { maxSteps := 1000000 }) (disch := first | omega | (simp only [go_sem]; omega)) only [go_sem, ↓reduceIte]
    refine bran_ndec (fun d => ?_) (fun d => ?_)
    · simp (config := { maxSteps := 1000000 }) (disch := first | omega | (simp only [go_sem]; omega)) only [go_sem, ↓reduceIte]
      have : ae ≠ be := fun e => d (by rw [e])
      simp [this]
    · have d' : ae.length = be.length := by omega
      unfold maxL at h2
      simp (config := { maxSteps := 1000000 }) (disch := first | omega | (simp only [go_sem]; omega)) only [go_sem, ↓reduceIte]
      refine W_loop (fun i : Nat => ⟨[(2, .pt 0 0), (3, .pt 1 0), (5, .int .i64 i)], [(0, .box [.lst 1 (ints an), .lst 3 (eds ae)]), (1, .box [.lst 1 (ints an), .lst 3 (eds be)])], 2⟩) (fun i => i ≤ ae.length ∧ ae.take i = be.take i) (fun i => ae.length - i) 0 ?_ ?_ ?_
      · simp (config := { maxSteps := 1000000 }) (disch := first | omega | (simp only [go_sem]; omega)) only [go_sem, ↓reduceIte]
        rfl
      · simp
      · intro i hi
        simp (config := { maxSteps := 1000000 }) (disch := first | omega | (simp only [go_sem]; omega)) only [go_sem, ↓reduceIte, c_r05_Same_b8]
        refine bran_dec (fun f => ?_) (fun f => ?_)
        · have he : (decide ((gt ae i).t = (gt be i).t) && (decide ((gt ae i).f = (gt be i).f) && decide ((gt ae i).o = (gt be i).o))) = decide (gt ae i = gt be i) := by
            rw [Bool.eq_iff_iff]; simp [eqE]
          simp (config := { maxSteps := 1000000 }) (disch := first | omega | (simp only [go_sem]; omega)) only [go_sem, ↓reduceIte, he]
          refine bran_ndec (fun d2 => ?_) (fun d2 => ?_)
          · simp (config := { maxSteps := 1000000 }) (disch := first | omega | (simp only [go_sem]; omega)) only [go_sem, ↓reduceIte]
            have : ae ≠ be := fun e => d2 (by rw [e])
            simp [this]
          · simp (config := { maxSteps := 1000000 }) (disch := first | omega | (simp only [go_sem]; omega)) only [go_sem, ↓reduceIte]
            exact ⟨i + 1, by simp, ⟨by omega, by rw [take_gt (by omega), take_gt (by omega), hi.2, d2]⟩, by omega⟩
        · simp (config := { maxSteps := 1000000 }) (disch := first | omega | (simp only [go_sem]; omega)) only [go_sem, ↓reduceIte]
          obtain rfl : i = ae.length := by omega
          have := hi.2
          rw [List.take_length, List.take_of_length_le (by omega)] at this
          simp [this]
theorem w_r05_Valid (hk : K_r05_kind P F) (hr : K_r05_right P F) (g : G) : W P (c_r05_Valid F) (Done [.t 2] [] (.int .i64 (validG g)) []) (init [gD g]) := by
  refine W_of ?_
  obtain ⟨ns, es⟩ := g
  simp (config := { maxSteps := 1000000 }) (disch := first | omega | (simp only [go_sem]; omega)) only [go_sem, ↓reduceIte, gD]
  refine bran_dec (fun a1 => ?_) (fun a1 => ?_)
  · simp (config := { maxSteps := 1000000 }) (disch := first | omega | (simp only [go_sem]; omega)) only [go_sem, ↓reduceIte, a1]
    simp [validG]
    omega
  · simp (config := { maxSteps := 1000000 }) (disch := first | omega | (simp only [go_sem]; omega)) only [go_sem, ↓reduceIte, a1]
    refine bran_dec (fun a2 => ?_) (fun a2 => ?_)
    · simp (config := { maxSteps := 1000000 }) (disch := first | omega | (simp only [go_sem]; omega)) only [go_sem, ↓reduceIte]
      simp [validG]
      omega
    · have hv : validG ⟨ns, es⟩ = if ns.all okN && es.all (fitsE ns.length) then 0 else 6 := by
        simp only [validG]; rw [if_neg (by omega)]
      rw [hv]
      simp (config := { maxSteps := 1000000 }) (disch := first | omega | (simp only [go_sem]; omega)) only [go_sem, ↓reduceIte]
      refine W_loop (fun i : Nat => ⟨[(1, .pt 0 0), (3, .int .i64 i)], [(0, .box [.lst 1 (ints ns), .lst 3 (eds es)])], 1⟩) (fun i => i ≤ ns.length ∧ ns.all okN = (ns.drop i).all okN) (fun i => ns.length - i) 0 ?_ ?_ ?_
      · simp (config := { maxSteps := 1000000 }) (disch := first | omega | (simp only [go_sem]; omega)) only [go_sem, ↓reduceIte]
        rfl
      · simp
      · intro i hi
        simp (config := { maxSteps := 1000000 }) (disch := first | omega | (simp only [go_sem]; omega)) only [go_sem, ↓reduceIte, c_r05_Valid_b8]
        refine bran_dec (fun f => ?_) (fun f => ?_)
        · have hd := drop_gt (l := ns) (i := i) (by omega)
          simp (config := { maxSteps := 1000000 }) (disch := first | omega | (simp only [go_sem]; omega)) only [go_sem, ↓reduceIte]
          refine call_by (hk _) ?_
          simp (config := { maxSteps := 1000000 }) (disch := first | omega | (simp only [go_sem]; omega)) only [go_sem, ↓reduceIte]
          refine bran_nby (fun d => ?_) (fun d => ?_)
          · simp (config := { maxSteps := 1000000 }) (disch := first | omega | (simp only [go_sem]; omega)) only [go_sem, ↓reduceIte]
            rw [hi.2, hd]
            simp [d]
          · simp (config := { maxSteps := 1000000 }) (disch := first | omega | (simp only [go_sem]; omega)) only [go_sem, ↓reduceIte]
            exact ⟨i + 1, by simp, ⟨by omega, by rw [hi.2, hd]; simp [d]⟩, by omega⟩
        · have hn : ns.all okN = true := by rw [hi.2, List.drop_of_length_le (by omega)]; rfl
          simp (config := { maxSteps := 1000000 }) (disch := first | omega | (simp only [go_sem]; omega)) only [go_sem, ↓reduceIte]
          refine W_loop (fun i : Nat => ⟨[(1, .pt 0 0), (4, .int .i64 i)], [(0, .box [.lst 1 (ints ns), .lst 3 (eds es)])], 1⟩) (fun i => i ≤ es.length ∧ es.all (fitsE ns.length) = (es.drop i).all (fitsE ns.length)) (fun i => es.length - i) 0 ?_ ?_ ?_
          · simp (config := { maxSteps := 1000000 }) (disch := first | omega | (simp only [go_sem]; omega)) only [go_sem, ↓reduceIte]
            rfl
          · simp
          · intro i hi
            simp (config := { maxSteps := 1000000 }) (disch := first | omega | (simp only [go_sem]; omega)) only [go_sem, ↓reduceIte, c_r05_Valid_b14]
            refine bran_dec (fun f => ?_) (fun f => ?_)
            · have hd := drop_gt (l := es) (i := i) (by omega)
              simp (config := { maxSteps := 1000000 }) (disch := first | omega | (simp only [go_sem]; omega)) only [go_sem, ↓reduceIte]
              refine call_by (hr _ _) ?_
              simp (config := { maxSteps := 1000000 }) (disch := first | omega | (simp only [go_sem]; omega)) only [go_sem, ↓reduceIte]
              refine bran_nby (fun d => ?_) (fun d => ?_)
              · simp (config := { maxSteps := 1000000 }) (disch := first | omega | (simp only [go_sem]; omega)) only [go_sem, ↓reduceIte]
                rw [hi.2, hd]
                simp [d]
              · simp (config := { maxSteps := 1000000 }) (disch := first | omega | (simp only [go_sem]; omega)) only [go_sem, ↓reduceIte]
                exact ⟨i + 1, by simp, ⟨by omega, by rw [hi.2, hd]; simp [d]⟩, by omega⟩
            · simp (config := { maxSteps := 1000000 }) (disch := first | omega | (simp only [go_sem]; omega)) only [go_sem, ↓reduceIte]
              rw [hi.2, List.drop_of_length_le (by omega), hn]
              rfl
end
end Go.Am
