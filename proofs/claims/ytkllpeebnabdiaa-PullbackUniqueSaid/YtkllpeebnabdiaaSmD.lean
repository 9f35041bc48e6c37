/- All morphisms: All, and the reference's search. -/
import Derived.Test.YtkllpeebnabdiaaSmPa
namespace Go.Am
open Go
set_option linter.unusedVariables false
set_option linter.unusedSimpArgs false
attribute [local irreducible] W
/- r06.fits -/
def c_r06_fits_r0 (F : String → Nat) : List LI := [⟨some 3, .bx (.t 0), none⟩,
  ⟨some 4, .bx (.t 1), none⟩,
  ⟨some 6, .mov (.k (.bool false)), none⟩]
def c_r06_fits_r1 (F : String → Nat) : List LI := [⟨some 12, .mov (.t 2), none⟩,
  ⟨some 13, .len (.t 12), none⟩,
  ⟨some 14, .bin .sub (.t 13) (.k (.int .i64 (1))), none⟩,
  ⟨some 7, .mov (.t 14), none⟩]
def c_r06_fits_r2 (F : String → Nat) : List LI := [⟨some 8, .mov (.k (.int .i64 (0))), none⟩]
def c_r06_fits_r3 (F : String → Nat) : List LI := [⟨some 15, .mov (.t 8), none⟩,
  ⟨some 16, .fad 1 (.t 3), none⟩,
  ⟨some 17, .load false 1 (.t 16), none⟩,
  ⟨some 18, .len (.t 17), none⟩,
  ⟨some 19, .bin .lss (.t 15) (.t 18), none⟩]
def c_r06_fits_r4 (F : String → Nat) : List LI := [⟨some 22, .fad 1 (.t 3), none⟩,
  ⟨some 23, .load false 1 (.t 22), none⟩,
  ⟨some 24, .mov (.t 8), none⟩,
  ⟨some 25, .iad 3 (.t 23) (.t 24), none⟩,
  ⟨some 26, .load true 3 (.t 25), none⟩,
  ⟨some 9, .alloc [.int .i64 (0), .int .i64 (0), .int .i64 (0)], none⟩,
  ⟨none, .store 3 (.t 9) (.t 26), none⟩]
def c_r06_fits_r5 (F : String → Nat) : List LI := [⟨some 27, .fad 1 (.t 9), none⟩,
  ⟨some 28, .load false 1 (.t 27), none⟩,
  ⟨some 29, .fad 2 (.t 9), none⟩,
  ⟨some 30, .load false 1 (.t 29), none⟩,
  ⟨some 31, .mx [.t 28, .t 30], none⟩,
  ⟨some 32, .mov (.t 7), none⟩,
  ⟨some 33, .bin .neq (.t 31) (.t 32), none⟩]
def c_r06_fits_r6 (F : String → Nat) : List LI := [⟨some 10, .mov (.k (.bool false)), none⟩]
def c_r06_fits_r7 (F : String → Nat) : List LI := [⟨some 11, .mov (.k (.int .i64 (0))), none⟩]
def c_r06_fits_r8 (F : String → Nat) : List LI := [⟨some 34, .mov (.t 11), none⟩,
  ⟨some 35, .fad 1 (.t 4), none⟩,
  ⟨some 36, .load false 1 (.t 35), none⟩,
  ⟨some 37, .len (.t 36), none⟩,
  ⟨some 38, .bin .lss (.t 34) (.t 37), none⟩,
  ⟨some 39, .mov (.t 38), none⟩,
  ⟨some 40, .mov (.t 10), some (39, true)⟩,
  ⟨some 41, .not (.t 40), some (39, true)⟩,
  ⟨some 42, .pick (.t 39) (.t 41) (.k (.bool false)), none⟩]
def c_r06_fits_r9 (F : String → Nat) : List LI := [⟨some 45, .fad 1 (.t 4), none⟩,
  ⟨some 46, .load false 1 (.t 45), none⟩,
  ⟨some 47, .mov (.t 11), none⟩,
  ⟨some 48, .iad 3 (.t 46) (.t 47), none⟩,
  ⟨some 49, .load true 3 (.t 48), none⟩,
  ⟨some 50, .fad 0 (.t 9), none⟩,
  ⟨some 51, .load false 1 (.t 50), none⟩,
  ⟨some 52, .mov (.t 2), none⟩,
  ⟨some 53, .fad 1 (.t 9), none⟩,
  ⟨some 54, .load false 1 (.t 53), none⟩,
  ⟨some 55, .iad 1 (.t 52) (.t 54), none⟩,
  ⟨some 56, .load false 1 (.t 55), none⟩,
  ⟨some 57, .mov (.t 2), none⟩,
  ⟨some 58, .fad 2 (.t 9), none⟩,
  ⟨some 59, .load false 1 (.t 58), none⟩,
  ⟨some 60, .iad 1 (.t 57) (.t 59), none⟩,
  ⟨some 61, .load false 1 (.t 60), none⟩,
  ⟨some 62, .build [.int .i64 (0), .int .i64 (0), .int .i64 (0)] [(0, 1, .t 51), (1, 1, .t 56), (2, 1, .t 61)], none⟩,
  ⟨some 63, .eqA 3 false (.t 49) (.t 62), none⟩,
  ⟨some 10, .mov (.t 63), none⟩]
def c_r06_fits_r10 (F : String → Nat) : List LI := [⟨some 43, .mov (.t 11), none⟩,
  ⟨some 44, .bin .add (.t 43) (.k (.int .i64 (1))), none⟩,
  ⟨some 11, .mov (.t 44), none⟩]
def c_r06_fits_b11 (F : String → Nat) : LC := (.seq (.seq (.reg (c_r06_fits_r8 F) [2, 3, 4, 7, 8, 9, 10, 11, 42]) (.cond (.t 42) .skip (.exit 2))) (.seq (.block 3 (.dreg [] (c_r06_fits_r9 F) [2, 3, 4, 7, 8, 9, 10, 11])) (.reg (c_r06_fits_r10 F) [2, 3, 4, 7, 8, 9, 10, 11])))
def c_r06_fits_r12 (F : String → Nat) : List LI := [⟨some 64, .mov (.t 10), none⟩,
  ⟨some 65, .not (.t 64), none⟩]
def c_r06_fits_r13 (F : String → Nat) : List LI := [⟨some 6, .mov (.k (.bool false)), none⟩]
def c_r06_fits_r14 (F : String → Nat) : List LI := [⟨some 20, .mov (.t 8), none⟩,
  ⟨some 21, .bin .add (.t 20) (.k (.int .i64 (1))), none⟩,
  ⟨some 8, .mov (.t 21), none⟩]
def c_r06_fits_b15 (F : String → Nat) : LC := (.seq (.seq (.reg (c_r06_fits_r3 F) [2, 3, 4, 7, 8, 19]) (.cond (.t 19) .skip (.exit 0))) (.seq (.block 1 (.seq (.reg (c_r06_fits_r4 F) [2, 3, 4, 7, 8, 9]) (.seq (.seq (.reg (c_r06_fits_r5 F) [2, 3, 4, 7, 8, 9, 33]) (.cond (.t 33) (.exit 1) .skip)) (.seq (.reg (c_r06_fits_r6 F) [2, 3, 4, 7, 8, 9, 10]) (.seq (.seq (.reg (c_r06_fits_r7 F) [2, 3, 4, 7, 8, 9, 10, 11]) (.block 2 (.loop [2, 3, 4, 7, 8, 9, 10, 11] (c_r06_fits_b11 F)))) (.seq (.reg (c_r06_fits_r12 F) [2, 3, 4, 7, 8, 65]) (.cond (.t 65) (.seq (.reg (c_r06_fits_r13 F) [6]) .ret) .skip))))))) (.reg (c_r06_fits_r14 F) [2, 3, 4, 7, 8])))
def c_r06_fits_r16 (F : String → Nat) : List LI := [⟨some 6, .mov (.k (.bool true)), none⟩]
def c_r06_fits (F : String → Nat) : LC := (.seq (.reg (c_r06_fits_r0 F) [2, 3, 4]) (.seq (.reg (c_r06_fits_r1 F) [2, 3, 4, 7]) (.seq (.seq (.reg (c_r06_fits_r2 F) [2, 3, 4, 7, 8]) (.block 0 (.loop [2, 3, 4, 7, 8] (c_r06_fits_b15 F)))) (.seq (.reg (c_r06_fits_r16 F) [6]) .ret))))
def h_r06_fits : Hints := ⟨[], fun _ => [], tab [(0, [2, 3, 4]), (1, [2, 3, 4, 7]), (2, [2, 3, 4, 7, 8]), (3, [2, 3, 4, 7, 8, 19]), (4, [2, 3, 4, 7, 8]), (5, [2, 3, 4, 7, 8, 9]), (6, [2, 3, 4, 7, 8, 9, 33]), (7, [2, 3, 4, 7, 8, 9, 10]), (8, [2, 3, 4, 7, 8, 9, 10, 11]), (9, [2, 3, 4, 7, 8, 9, 10, 11, 42]), (10, [2, 3, 4, 7, 8, 9, 10, 11]), (11, [2, 3, 4, 7, 8, 9, 10, 11]), (12, [2, 3, 4, 7, 8, 65]), (13, [6]), (14, [6])], tab [(3, [2, 3, 4, 7, 8]), (9, [2, 3, 4, 7, 8, 9, 10, 11])]⟩

/- r06.edges -/
def c_r06_edges_r0 (F : String → Nat) : List LI := [⟨some 5, .bx (.t 0), none⟩,
  ⟨some 6, .bx (.t 1), none⟩,
  ⟨some 10, .mov (.k (.nl 2)), none⟩]
def c_r06_edges_r1 (F : String → Nat) : List LI := [⟨some 13, .mov (.t 4), none⟩,
  ⟨some 14, .len (.t 13), none⟩,
  ⟨some 15, .bin .gtr (.t 14) (.k (.int .i64 (2000))), none⟩]
def c_r06_edges_r2 (F : String → Nat) : List LI := [⟨some 16, .mov (.t 4), none⟩,
  ⟨some 10, .mov (.t 16), none⟩]
def c_r06_edges_r3 (F : String → Nat) : List LI := [⟨some 17, .mov (.t 3), none⟩,
  ⟨some 18, .len (.t 17), none⟩,
  ⟨some 19, .fad 1 (.t 5), none⟩,
  ⟨some 20, .load false 1 (.t 19), none⟩,
  ⟨some 21, .len (.t 20), none⟩,
  ⟨some 22, .bin .eql (.t 18) (.t 21), none⟩]
def c_r06_edges_r4 (F : String → Nat) : List LI := [⟨some 23, .mov (.t 4), none⟩,
  ⟨some 24, .buildSl 1 8 (.int .i64 (0)) 0 [], none⟩,
  ⟨some 25, .mov (.t 2), none⟩,
  ⟨some 26, .app 1 8 (.t 24) (.t 25), none⟩,
  ⟨some 27, .buildSl 1 8 (.int .i64 (0)) 0 [], none⟩,
  ⟨some 28, .mov (.t 3), none⟩,
  ⟨some 29, .app 1 8 (.t 27) (.t 28), none⟩,
  ⟨some 30, .build [.nl 1, .nl 1] [(0, 1, .t 26), (1, 1, .t 29)], none⟩,
  ⟨some 31, .buildSl 2 48 (.agg [.lst 1 [], .lst 1 []]) 1 [(0, .t 30)], none⟩,
  ⟨some 32, .app 2 48 (.t 23) (.t 31), none⟩,
  ⟨some 10, .mov (.t 32), none⟩]
def c_r06_edges_r5 (F : String → Nat) : List LI := [⟨some 33, .fad 1 (.t 5), none⟩,
  ⟨some 34, .load false 1 (.t 33), none⟩,
  ⟨some 35, .mov (.t 3), none⟩,
  ⟨some 36, .len (.t 35), none⟩,
  ⟨some 37, .iad 3 (.t 34) (.t 36), none⟩,
  ⟨some 38, .load true 3 (.t 37), none⟩,
  ⟨some 11, .alloc [.int .i64 (0), .int .i64 (0), .int .i64 (0)], none⟩,
  ⟨none, .store 3 (.t 11) (.t 38), none⟩]
def c_r06_edges_r6 (F : String → Nat) : List LI := [⟨some 12, .mov (.k (.int .i64 (0))), none⟩]
def c_r06_edges_r7 (F : String → Nat) : List LI := [⟨some 39, .mov (.t 12), none⟩,
  ⟨some 40, .fad 1 (.t 6), none⟩,
  ⟨some 41, .load false 1 (.t 40), none⟩,
  ⟨some 42, .len (.t 41), none⟩,
  ⟨some 43, .bin .lss (.t 39) (.t 42), none⟩]
def c_r06_edges_r8 (F : String → Nat) : List LI := [⟨some 46, .fad 1 (.t 6), none⟩,
  ⟨some 47, .load false 1 (.t 46), none⟩,
  ⟨some 48, .mov (.t 12), none⟩,
  ⟨some 49, .iad 3 (.t 47) (.t 48), none⟩,
  ⟨some 50, .load true 3 (.t 49), none⟩,
  ⟨some 51, .fad 0 (.t 11), none⟩,
  ⟨some 52, .load false 1 (.t 51), none⟩,
  ⟨some 53, .mov (.t 2), none⟩,
  ⟨some 54, .fad 1 (.t 11), none⟩,
  ⟨some 55, .load false 1 (.t 54), none⟩,
  ⟨some 56, .iad 1 (.t 53) (.t 55), none⟩,
  ⟨some 57, .load false 1 (.t 56), none⟩,
  ⟨some 58, .mov (.t 2), none⟩,
  ⟨some 59, .fad 2 (.t 11), none⟩,
  ⟨some 60, .load false 1 (.t 59), none⟩,
  ⟨some 61, .iad 1 (.t 58) (.t 60), none⟩,
  ⟨some 62, .load false 1 (.t 61), none⟩,
  ⟨some 63, .build [.int .i64 (0), .int .i64 (0), .int .i64 (0)] [(0, 1, .t 52), (1, 1, .t 57), (2, 1, .t 62)], none⟩,
  ⟨some 64, .eqA 3 false (.t 50) (.t 63), none⟩]
def c_r06_edges_r9 (F : String → Nat) : List LI := [⟨some 65, .load true 2 (.t 5), none⟩,
  ⟨some 66, .load true 2 (.t 6), none⟩,
  ⟨some 67, .mov (.t 2), none⟩,
  ⟨some 68, .buildSl 1 8 (.int .i64 (0)) 0 [], none⟩,
  ⟨some 69, .mov (.t 3), none⟩,
  ⟨some 70, .app 1 8 (.t 68) (.t 69), none⟩,
  ⟨some 71, .mov (.t 12), none⟩,
  ⟨some 72, .buildSl 1 8 (.int .i64 (0)) 1 [(0, .t 71)], none⟩,
  ⟨some 73, .app 1 8 (.t 70) (.t 72), none⟩,
  ⟨some 74, .mov (.t 4), none⟩,
  ⟨some 75, .call (F "r06.edges") [.t 65, .t 66, .t 67, .t 73, .t 74] [.rd, .rd, .rd, .rd, .ow], none⟩,
  ⟨some 4, .mov (.t 75), none⟩]
def c_r06_edges_r10 (F : String → Nat) : List LI := [⟨some 44, .mov (.t 12), none⟩,
  ⟨some 45, .bin .add (.t 44) (.k (.int .i64 (1))), none⟩,
  ⟨some 12, .mov (.t 45), none⟩]
def c_r06_edges_b11 (F : String → Nat) : LC := (.seq (.seq (.reg (c_r06_edges_r7 F) [2, 3, 4, 5, 6, 11, 12, 43]) (.cond (.t 43) .skip (.exit 0))) (.seq (.block 1 (.seq (.dreg [] (c_r06_edges_r8 F) [2, 3, 4, 5, 6, 11, 12, 64]) (.cond (.t 64) (.dreg [(0, none, [], true), (1, none, [], true), (5, none, [0, 1], true), (7, (some 64), [0, 1, 5], false), (8, none, [0, 1], false)] (c_r06_edges_r9 F) [2, 3, 4, 5, 6, 11, 12]) .skip))) (.reg (c_r06_edges_r10 F) [2, 3, 4, 5, 6, 11, 12])))
def c_r06_edges_r12 (F : String → Nat) : List LI := [⟨some 76, .mov (.t 4), none⟩,
  ⟨some 10, .mov (.t 76), none⟩]
def c_r06_edges (F : String → Nat) : LC := (.seq (.reg (c_r06_edges_r0 F) [2, 3, 4, 5, 6]) (.seq (.seq (.reg (c_r06_edges_r1 F) [2, 3, 4, 5, 6, 15]) (.cond (.t 15) (.seq (.reg (c_r06_edges_r2 F) [10]) .ret) .skip)) (.seq (.seq (.reg (c_r06_edges_r3 F) [2, 3, 4, 5, 6, 22]) (.cond (.t 22) (.seq (.reg (c_r06_edges_r4 F) [10]) .ret) .skip)) (.seq (.reg (c_r06_edges_r5 F) [2, 3, 4, 5, 6, 11]) (.seq (.seq (.reg (c_r06_edges_r6 F) [2, 3, 4, 5, 6, 11, 12]) (.block 0 (.loop [2, 3, 4, 5, 6, 11, 12] (c_r06_edges_b11 F)))) (.seq (.reg (c_r06_edges_r12 F) [10]) .ret))))))
def h_r06_edges : Hints := ⟨[], fun _ => [], tab [(0, [2, 3, 4, 5, 6]), (1, [2, 3, 4, 5, 6, 15]), (2, [10]), (3, [2, 3, 4, 5, 6, 22]), (4, [10]), (5, [2, 3, 4, 5, 6, 11]), (6, [2, 3, 4, 5, 6, 11, 12]), (7, [2, 3, 4, 5, 6, 11, 12, 43]), (8, [2, 3, 4, 5, 6, 11, 12]), (9, [2, 3, 4, 5, 6, 11, 12, 64]), (10, [2, 3, 4, 5, 6, 11, 12]), (11, [10])], tab [(7, [2, 3, 4, 5, 6, 11, 12])]⟩

/- r06.nodes -/
def c_r06_nodes_r0 (F : String → Nat) : List LI := [⟨some 4, .bx (.t 0), none⟩,
  ⟨some 5, .bx (.t 1), none⟩,
  ⟨some 8, .mov (.k (.nl 2)), none⟩]
def c_r06_nodes_r1 (F : String → Nat) : List LI := [⟨some 11, .mov (.t 3), none⟩,
  ⟨some 12, .len (.t 11), none⟩,
  ⟨some 13, .bin .gtr (.t 12) (.k (.int .i64 (2000))), none⟩]
def c_r06_nodes_r2 (F : String → Nat) : List LI := [⟨some 14, .mov (.t 3), none⟩,
  ⟨some 8, .mov (.t 14), none⟩]
def c_r06_nodes_r3 (F : String → Nat) : List LI := [⟨some 15, .mov (.t 2), none⟩,
  ⟨some 16, .len (.t 15), none⟩,
  ⟨some 17, .fad 0 (.t 4), none⟩,
  ⟨some 18, .load false 1 (.t 17), none⟩,
  ⟨some 19, .len (.t 18), none⟩,
  ⟨some 20, .bin .eql (.t 16) (.t 19), none⟩]
def c_r06_nodes_r4 (F : String → Nat) : List LI := [⟨some 21, .load true 2 (.t 4), none⟩,
  ⟨some 22, .load true 2 (.t 5), none⟩,
  ⟨some 23, .mov (.t 2), none⟩,
  ⟨some 24, .mov (.t 3), none⟩,
  ⟨some 25, .call (F "r06.edges") [.t 21, .t 22, .t 23, .k (.nl 0), .t 24] [.rd, .rd, .rd, .rd, .ow], none⟩,
  ⟨some 8, .mov (.t 25), none⟩]
def c_r06_nodes_r5 (F : String → Nat) : List LI := [⟨some 9, .mov (.k (.int .i64 (0))), none⟩]
def c_r06_nodes_r6 (F : String → Nat) : List LI := [⟨some 26, .mov (.t 9), none⟩,
  ⟨some 27, .fad 0 (.t 5), none⟩,
  ⟨some 28, .load false 1 (.t 27), none⟩,
  ⟨some 29, .len (.t 28), none⟩,
  ⟨some 30, .bin .lss (.t 26) (.t 29), none⟩]
def c_r06_nodes_r7 (F : String → Nat) : List LI := [⟨some 33, .fad 0 (.t 5), none⟩,
  ⟨some 34, .load false 1 (.t 33), none⟩,
  ⟨some 35, .mov (.t 9), none⟩,
  ⟨some 36, .iad 1 (.t 34) (.t 35), none⟩,
  ⟨some 37, .load false 1 (.t 36), none⟩,
  ⟨some 38, .fad 0 (.t 4), none⟩,
  ⟨some 39, .load false 1 (.t 38), none⟩,
  ⟨some 40, .mov (.t 2), none⟩,
  ⟨some 41, .len (.t 40), none⟩,
  ⟨some 42, .iad 1 (.t 39) (.t 41), none⟩,
  ⟨some 43, .load false 1 (.t 42), none⟩,
  ⟨some 44, .bin .neq (.t 37) (.t 43), none⟩]
def c_r06_nodes_r8 (F : String → Nat) : List LI := [⟨some 45, .buildSl 1 8 (.int .i64 (0)) 0 [], none⟩,
  ⟨some 46, .mov (.t 2), none⟩,
  ⟨some 47, .app 1 8 (.t 45) (.t 46), none⟩,
  ⟨some 48, .mov (.t 9), none⟩,
  ⟨some 49, .buildSl 1 8 (.int .i64 (0)) 1 [(0, .t 48)], none⟩,
  ⟨some 50, .app 1 8 (.t 47) (.t 49), none⟩,
  ⟨some 10, .mov (.t 50), none⟩]
def c_r06_nodes_r9 (F : String → Nat) : List LI := [⟨some 51, .load true 2 (.t 4), none⟩,
  ⟨some 52, .load true 2 (.t 5), none⟩,
  ⟨some 53, .mov (.t 10), none⟩,
  ⟨some 54, .call (F "r06.fits") [.t 51, .t 52, .t 53] [], none⟩]
def c_r06_nodes_r10 (F : String → Nat) : List LI := [⟨some 55, .load true 2 (.t 4), none⟩,
  ⟨some 56, .load true 2 (.t 5), none⟩,
  ⟨some 57, .mov (.t 10), none⟩,
  ⟨some 58, .mov (.t 3), none⟩,
  ⟨some 59, .call (F "r06.nodes") [.t 55, .t 56, .t 57, .t 58] [.rd, .rd, .rd, .ow], none⟩,
  ⟨some 3, .mov (.t 59), none⟩]
def c_r06_nodes_r11 (F : String → Nat) : List LI := [⟨some 31, .mov (.t 9), none⟩,
  ⟨some 32, .bin .add (.t 31) (.k (.int .i64 (1))), none⟩,
  ⟨some 9, .mov (.t 32), none⟩]
def c_r06_nodes_b12 (F : String → Nat) : LC := (.seq (.seq (.reg (c_r06_nodes_r6 F) [2, 3, 4, 5, 9, 30]) (.cond (.t 30) .skip (.exit 0))) (.seq (.block 1 (.seq (.seq (.dreg [] (c_r06_nodes_r7 F) [2, 3, 4, 5, 9, 44]) (.cond (.t 44) (.exit 1) .skip)) (.seq (.reg (c_r06_nodes_r8 F) [2, 3, 4, 5, 9, 10]) (.seq (.reg (c_r06_nodes_r9 F) [2, 3, 4, 5, 9, 10, 54]) (.cond (.t 54) (.reg (c_r06_nodes_r10 F) [2, 3, 4, 5, 9]) .skip))))) (.reg (c_r06_nodes_r11 F) [2, 3, 4, 5, 9])))
def c_r06_nodes_r13 (F : String → Nat) : List LI := [⟨some 60, .mov (.t 3), none⟩,
  ⟨some 8, .mov (.t 60), none⟩]
def c_r06_nodes (F : String → Nat) : LC := (.seq (.reg (c_r06_nodes_r0 F) [2, 3, 4, 5]) (.seq (.seq (.reg (c_r06_nodes_r1 F) [2, 3, 4, 5, 13]) (.cond (.t 13) (.seq (.reg (c_r06_nodes_r2 F) [8]) .ret) .skip)) (.seq (.seq (.reg (c_r06_nodes_r3 F) [2, 3, 4, 5, 20]) (.cond (.t 20) (.seq (.reg (c_r06_nodes_r4 F) [8]) .ret) .skip)) (.seq (.seq (.reg (c_r06_nodes_r5 F) [2, 3, 4, 5, 9]) (.block 0 (.loop [2, 3, 4, 5, 9] (c_r06_nodes_b12 F)))) (.seq (.reg (c_r06_nodes_r13 F) [8]) .ret)))))
def h_r06_nodes : Hints := ⟨[], fun _ => [], tab [(0, [2, 3, 4, 5]), (1, [2, 3, 4, 5, 13]), (2, [8]), (3, [2, 3, 4, 5, 20]), (4, [8]), (5, [2, 3, 4, 5, 9]), (6, [2, 3, 4, 5, 9, 30]), (7, [2, 3, 4, 5, 9]), (8, [2, 3, 4, 5, 9, 44]), (9, [2, 3, 4, 5, 9, 10]), (10, [2, 3, 4, 5, 9, 10, 54]), (11, [2, 3, 4, 5, 9]), (12, [8])], tab [(6, [2, 3, 4, 5, 9])]⟩

/- r06.All -/
def c_r06_All_r0 (F : String → Nat) : List LI := [⟨some 2, .bx (.t 0), none⟩,
  ⟨some 3, .bx (.t 1), none⟩,
  ⟨some 4, .mov (.k (.nl 2)), none⟩,
  ⟨some 5, .mov (.k (.int .i64 (0))), none⟩]
def c_r06_All_r1 (F : String → Nat) : List LI := [⟨some 9, .load true 2 (.t 2), none⟩,
  ⟨some 10, .call (F "r05.Valid") [.t 9] [], none⟩,
  ⟨some 6, .mov (.t 10), none⟩]
def c_r06_All_r2 (F : String → Nat) : List LI := [⟨some 11, .mov (.t 6), none⟩,
  ⟨some 12, .bin .neq (.t 11) (.k (.int .i64 (0))), none⟩]
def c_r06_All_r3 (F : String → Nat) : List LI := [⟨some 13, .mov (.t 6), none⟩,
  ⟨some 4, .mov (.k (.nl 2)), none⟩,
  ⟨some 5, .mov (.t 13), none⟩]
def c_r06_All_r4 (F : String → Nat) : List LI := [⟨some 14, .load true 2 (.t 3), none⟩,
  ⟨some 15, .call (F "r05.Valid") [.t 14] [], none⟩,
  ⟨some 7, .mov (.t 15), none⟩]
def c_r06_All_r5 (F : String → Nat) : List LI := [⟨some 16, .mov (.t 7), none⟩,
  ⟨some 17, .bin .neq (.t 16) (.k (.int .i64 (0))), none⟩]
def c_r06_All_r6 (F : String → Nat) : List LI := [⟨some 18, .mov (.t 7), none⟩,
  ⟨some 4, .mov (.k (.nl 2)), none⟩,
  ⟨some 5, .mov (.t 18), none⟩]
def c_r06_All_r7 (F : String → Nat) : List LI := [⟨some 19, .load true 2 (.t 2), none⟩,
  ⟨some 20, .load true 2 (.t 3), none⟩,
  ⟨some 21, .call (F "r06.nodes") [.t 19, .t 20, .k (.nl 0), .k (.nl 0)] [.rd, .rd, .rd, .ow], none⟩,
  ⟨some 8, .mov (.t 21), none⟩]
def c_r06_All_r8 (F : String → Nat) : List LI := [⟨some 22, .mov (.t 8), none⟩,
  ⟨some 23, .len (.t 22), none⟩,
  ⟨some 24, .bin .gtr (.t 23) (.k (.int .i64 (2000))), none⟩]
def c_r06_All_r9 (F : String → Nat) : List LI := [⟨some 4, .mov (.k (.nl 2)), none⟩,
  ⟨some 5, .mov (.k (.int .i64 (3))), none⟩]
def c_r06_All_r10 (F : String → Nat) : List LI := [⟨some 25, .mov (.t 8), none⟩,
  ⟨some 4, .mov (.t 25), none⟩,
  ⟨some 5, .mov (.k (.int .i64 (0))), none⟩]
def c_r06_All (F : String → Nat) : LC := (.seq (.reg (c_r06_All_r0 F) [2, 3]) (.seq (.seq (.reg (c_r06_All_r1 F) [2, 3, 6]) (.seq (.reg (c_r06_All_r2 F) [2, 3, 6, 12]) (.cond (.t 12) (.seq (.reg (c_r06_All_r3 F) [4, 5]) .ret) .skip))) (.seq (.seq (.reg (c_r06_All_r4 F) [2, 3, 7]) (.seq (.reg (c_r06_All_r5 F) [2, 3, 7, 17]) (.cond (.t 17) (.seq (.reg (c_r06_All_r6 F) [4, 5]) .ret) .skip))) (.seq (.reg (c_r06_All_r7 F) [8]) (.seq (.seq (.reg (c_r06_All_r8 F) [8, 24]) (.cond (.t 24) (.seq (.reg (c_r06_All_r9 F) [4, 5]) .ret) .skip)) (.seq (.reg (c_r06_All_r10 F) [4, 5]) .ret))))))
def h_r06_All : Hints := ⟨[], fun _ => [], tab [(0, [2, 3]), (1, [2, 3, 6]), (2, [2, 3, 6, 12]), (3, [4, 5]), (4, [2, 3, 7]), (5, [2, 3, 7, 17]), (6, [4, 5]), (7, [8]), (8, [8, 24]), (9, [4, 5]), (10, [4, 5])], tab []⟩

/- r06.SameAll -/
def c_r06_SameAll_r0 (F : String → Nat) : List LI := [⟨some 4, .mov (.k (.bool false)), none⟩]
def c_r06_SameAll_r1 (F : String → Nat) : List LI := [⟨some 6, .mov (.t 0), none⟩,
  ⟨some 7, .len (.t 6), none⟩,
  ⟨some 8, .mov (.t 1), none⟩,
  ⟨some 9, .len (.t 8), none⟩,
  ⟨some 10, .bin .neq (.t 7) (.t 9), none⟩]
def c_r06_SameAll_r2 (F : String → Nat) : List LI := [⟨some 4, .mov (.k (.bool false)), none⟩]
def c_r06_SameAll_r3 (F : String → Nat) : List LI := [⟨some 5, .mov (.k (.int .i64 (0))), none⟩]
def c_r06_SameAll_r4 (F : String → Nat) : List LI := [⟨some 11, .mov (.t 5), none⟩,
  ⟨some 12, .mov (.t 0), none⟩,
  ⟨some 13, .len (.t 12), none⟩,
  ⟨some 14, .bin .lss (.t 11) (.t 13), none⟩]
def c_r06_SameAll_r5 (F : String → Nat) : List LI := [⟨some 17, .mov (.t 0), none⟩,
  ⟨some 18, .mov (.t 5), none⟩,
  ⟨some 19, .iad 2 (.t 17) (.t 18), none⟩,
  ⟨some 20, .load true 2 (.t 19), none⟩,
  ⟨some 21, .mov (.t 1), none⟩,
  ⟨some 22, .mov (.t 5), none⟩,
  ⟨some 23, .iad 2 (.t 21) (.t 22), none⟩,
  ⟨some 24, .load true 2 (.t 23), none⟩,
  ⟨some 25, .call (F "r06.Same") [.t 20, .t 24] [], none⟩,
  ⟨some 26, .not (.t 25), none⟩]
def c_r06_SameAll_r6 (F : String → Nat) : List LI := [⟨some 4, .mov (.k (.bool false)), none⟩]
def c_r06_SameAll_r7 (F : String → Nat) : List LI := [⟨some 15, .mov (.t 5), none⟩,
  ⟨some 16, .bin .add (.t 15) (.k (.int .i64 (1))), none⟩,
  ⟨some 5, .mov (.t 16), none⟩]
def c_r06_SameAll_b8 (F : String → Nat) : LC := (.seq (.seq (.reg (c_r06_SameAll_r4 F) [0, 1, 5, 14]) (.cond (.t 14) .skip (.exit 0))) (.seq (.block 1 (.seq (.dreg [] (c_r06_SameAll_r5 F) [0, 1, 5, 26]) (.cond (.t 26) (.seq (.reg (c_r06_SameAll_r6 F) [4]) .ret) .skip))) (.reg (c_r06_SameAll_r7 F) [0, 1, 5])))
def c_r06_SameAll_r9 (F : String → Nat) : List LI := [⟨some 4, .mov (.k (.bool true)), none⟩]
def c_r06_SameAll (F : String → Nat) : LC := (.seq (.reg (c_r06_SameAll_r0 F) [0, 1]) (.seq (.seq (.reg (c_r06_SameAll_r1 F) [0, 1, 10]) (.cond (.t 10) (.seq (.reg (c_r06_SameAll_r2 F) [4]) .ret) .skip)) (.seq (.seq (.reg (c_r06_SameAll_r3 F) [0, 1, 5]) (.block 0 (.loop [0, 1, 5] (c_r06_SameAll_b8 F)))) (.seq (.reg (c_r06_SameAll_r9 F) [4]) .ret))))
def h_r06_SameAll : Hints := ⟨[], fun _ => [], tab [(0, [0, 1]), (1, [0, 1, 10]), (2, [4]), (3, [0, 1, 5]), (4, [0, 1, 5, 14]), (5, [0, 1, 5]), (6, [0, 1, 5, 26]), (7, [4]), (8, [4])], tab [(4, [0, 1, 5])]⟩

attribute [go_sem] c_r06_fits_r0 c_r06_fits_r1 c_r06_fits_r2 c_r06_fits_r3 c_r06_fits_r4 c_r06_fits_r5 c_r06_fits_r6 c_r06_fits_r7 c_r06_fits_r8 c_r06_fits_r9 c_r06_fits_r10 c_r06_fits_r12 c_r06_fits_r13 c_r06_fits_r14 c_r06_fits_r16 c_r06_fits c_r06_edges_r0 c_r06_edges_r1 c_r06_edges_r2 c_r06_edges_r3 c_r06_edges_r4 c_r06_edges_r5 c_r06_edges_r6 c_r06_edges_r7 c_r06_edges_r8 c_r06_edges_r9 c_r06_edges_r10 c_r06_edges_r12 c_r06_edges c_r06_nodes_r0 c_r06_nodes_r1 c_r06_nodes_r2 c_r06_nodes_r3 c_r06_nodes_r4 c_r06_nodes_r5 c_r06_nodes_r6 c_r06_nodes_r7 c_r06_nodes_r8 c_r06_nodes_r9 c_r06_nodes_r10 c_r06_nodes_r11 c_r06_nodes_r13 c_r06_nodes c_r06_All_r0 c_r06_All_r1 c_r06_All_r2 c_r06_All_r3 c_r06_All_r4 c_r06_All_r5 c_r06_All_r6 c_r06_All_r7 c_r06_All_r8 c_r06_All_r9 c_r06_All_r10 c_r06_All c_r06_SameAll_r0 c_r06_SameAll_r1 c_r06_SameAll_r2 c_r06_SameAll_r3 c_r06_SameAll_r4 c_r06_SameAll_r5 c_r06_SameAll_r6 c_r06_SameAll_r7 c_r06_SameAll_r9 c_r06_SameAll
section
variable (P : Program) (F : String → Nat)
def K_r06_fits : Prop := ∀ (a b : G) (ns : List Int), validG a = 0 → validG b = 0 → ns.length ≤ a.n.length → 0 < ns.length → FC P (F "r06.fits") [gD a, gD b, .lst 1 (ints ns)] (.bool (possL a b ns)) []
def KA_r06_edges (n : Nat) : Prop := ∀ (a b : G) (ns es : List Int) (out : List Mo), validG a = 0 → validG b = 0 → ns.length = a.n.length → es.length + n = a.e.length → out.length ≤ 2001 →
  FC P (F "r06.edges") [gD a, gD b, .lst 1 (ints ns), .lst 1 (ints es), .arr 2 (pts out)] (.arr 2 (pts (aE a b ns n es out))) []
def K_r06_edges : Prop := ∀ n, KA_r06_edges P F n
def KA_r06_nodes (n : Nat) : Prop := ∀ (a b : G) (ns : List Int) (out : List Mo), validG a = 0 → validG b = 0 → ns.length + n = a.n.length → out.length ≤ 2001 →
  FC P (F "r06.nodes") [gD a, gD b, .lst 1 (ints ns), .arr 2 (pts out)] (.arr 2 (pts (aN a b n ns out))) []
def K_r06_nodes : Prop := ∀ n, KA_r06_nodes P F n
def K_r06_All : Prop := ∀ (a b : G), FC P (F "r06.All") [gD a, gD b] (.tup [.arr 2 (pts (allM a b)), .int .i64 (allErr a b)]) []
def K_r06_SameAll : Prop := ∀ (l m : List Mo), l.length ≤ maxL → (∀ x ∈ l, x.sm) → FC P (F "r06.SameAll") [.lst 2 (pts l), .lst 2 (pts m)] (.bool (decide (l = m))) []
end
section
variable {P : Program} {F : String → Nat} {α : Type}
theorem w_morphism_All (hv : K_graph_Valid P F) (hn : K_morphism_search_addNodes P F) (a b : G) : W P (c_morphism_All F) (Done [.t 4, .t 5] [] (.tup [.arr 2 (pts (allM a b)), .int .i64 (allErr a b)]) []) (init [gD a, gD b]) := by
  refine W_of ?_
  have rva := hv a
  have rvb := hv b
  have hr : validG a = 0 → validG b = 0 → FC P (F "morphism.search.addNodes") [seBox a b [] [] []] (.tup []) [(0, seBox a b [] [] (aN a b a.n.length [] []))] := fun h1 h2 => hn a.n.length a b [] [] h1 h2 (by simp) (by simp)
  have hl := aN_len a b a.n.length [] [] (by simp)
  have hE : allErr a b = if validG a ≠ 0 then validG a else if validG b ≠ 0 then validG b else if 2000 < (aN a b a.n.length [] []).length then 3 else 0 := rfl
  have hM : allM a b = if allErr a b = 0 then aN a b a.n.length [] [] else [] := rfl
  generalize aN a b a.n.length [] [] = l at *
  generalize allErr a b = er at *
  generalize allM a b = m at *
  generalize validG a = va at *
  generalize validG b = vb at *
  simp only [gD, seBox] at *
  simp (config := { maxSteps := 1000000 }) (disch := first | omega | (simp only [go_sem]; omega)) only [go_sem, ↓reduceIte]
  refine call_by rva ?_
  simp (config := { maxSteps := 1000000 }) (disch := first | omega | (simp only [go_sem]; omega)) only [go_sem, ↓reduceIte]
  refine bran_ndec (fun c => ?_) (fun c => ?_)
  · rw [if_pos c] at hE
    rw [if_neg (by omega)] at hM
    subst hE hM
    simp (config := { maxSteps := 1000000 }) (disch := first | omega | (simp only [go_sem]; omega)) only [go_sem, ↓reduceIte]
    rfl
  · subst c
    rw [if_neg (by simp)] at hE
    simp (config := { maxSteps := 1000000 }) (disch := first | omega | (simp only [go_sem]; omega)) only [go_sem, ↓reduceIte]
    refine call_by rvb ?_
    simp (config := { maxSteps := 1000000 }) (disch := first | omega | (simp only [go_sem]; omega)) only [go_sem, ↓reduceIte]
    refine bran_ndec (fun c => ?_) (fun c => ?_)
    · rw [if_pos c] at hE
      rw [if_neg (by omega)] at hM
      subst hE hM
      simp (config := { maxSteps := 1000000 }) (disch := first | omega | (simp only [go_sem]; omega)) only [go_sem, ↓reduceIte]
      rfl
    · subst c
      rw [if_neg (by simp)] at hE
      have hr := hr rfl rfl
      simp only [ints, List.map_nil, pts] at hr
      simp (config := { maxSteps := 1000000 }) (disch := first | omega | (simp only [go_sem]; omega)) only [go_sem, ↓reduceIte]
      refine call_fz hr ?_
      have hpl : (List.map mD l).length = l.length := by simp
      simp (config := { maxSteps := 1000000 }) (disch := first | omega | (simp only [go_sem]; omega)) only [go_sem, ↓reduceIte, hpl]
      refine bran_dec (fun c => ?_) (fun c => ?_)
      · rw [if_pos (by omega)] at hE
        rw [if_neg (by omega)] at hM
        subst hE hM
        simp (config := { maxSteps := 1000000 }) (disch := first | omega | (simp only [go_sem]; omega)) only [go_sem, ↓reduceIte]
        rfl
      · rw [if_neg (by omega)] at hE
        rw [if_pos (by omega)] at hM
        subst hE hM
        simp (config := { maxSteps := 1000000 }) (disch := first | omega | (simp only [go_sem]; omega)) only [go_sem, ↓reduceIte, hpl]
        rfl
theorem any_succ (p : Nat → Bool) (k : Nat) : (List.range (k + 1)).any p = ((List.range k).any p || p k) := by rw [List.range_succ, List.any_append]; simp
theorem any_mono {p : Nat → Bool} {k n : Nat} (h : k ≤ n) (hk : (List.range k).any p = true) : (List.range n).any p = true := by
  rw [List.any_eq_true] at *
  obtain ⟨x, hx, hp⟩ := hk
  exact ⟨x, by simp at hx ⊢; omega, hp⟩
theorem w_r06_fits (a b : G) (ns : List Int) (va : validG a = 0) (vb : validG b = 0) (h1 : ns.length ≤ a.n.length) (h2 : 0 < ns.length) :
    W P (c_r06_fits F) (Done [.t 6] [] (.bool (possL a b ns)) []) (init [gD a, gD b, .lst 1 (ints ns)]) := by
  refine W_of ?_
  have ap := edges_pos va
  obtain ⟨a1, a2, _, a4⟩ := valid_spec va
  obtain ⟨b1, b2, _⟩ := valid_spec vb
  have hp : possL a b ns = a.e.all (possE b ns) := rfl
  rw [hp]
  have hpE : ∀ x, possE b ns x = (!(decide (mxE x = (ns.length : Int) - 1)) || (List.range b.e.length).any fun k : Nat => fitO ns x (gt b.e k)) := fun _ => rfl
  obtain ⟨an, ae⟩ := a
  obtain ⟨bn, be⟩ := b
  simp only at *
  generalize possE ⟨bn, be⟩ ns = pe at *
  simp only [gD] at *
  simp (config := { maxSteps := 1000000 }) (disch := first | omega | (simp only [go_sem]; omega)) only [go_sem, ↓reduceIte]
  refine W_loop (fun i : Nat => ⟨[(2, D.lst 1 (ints ns)), (3, D.pt 0 0), (4, D.pt 1 0), (7, .int .i64 ((ns.length : Int) - 1)), (8, .int .i64 i)], [(0, Ent.box [D.lst 1 (ints an), D.lst 3 (eds ae)]), (1, Ent.box [D.lst 1 (ints bn), D.lst 3 (eds be)])], 2⟩)
    (fun i => i ≤ ae.length ∧ ae.all pe = (ae.drop i).all pe) (fun i => ae.length - i) 0 ?_ ?_ ?_
  · simp (config := { maxSteps := 1000000 }) (disch := first | omega | (simp only [go_sem]; omega)) only [go_sem, ↓reduceIte]
    rfl
  · simp
  · rintro i ⟨hi, he⟩
    simp (config := { maxSteps := 1000000 }) (disch := first | omega | (simp only [go_sem]; omega)) only [go_sem, ↓reduceIte, c_r06_fits_b15]
    refine bran_dec (fun c => ?_) (fun c => ?_)
    · have hd := drop_gt (l := ae) (i := i) (by omega)
      have hall : (ae.drop i).all pe = (pe (gt ae i) && (ae.drop (i + 1)).all pe) := by rw [hd]; rfl
      have w2 := hpE (gt ae i)
      have hx := ap _ (gt_mem (l := ae) (j := i) (by omega) (by omega))
      simp only [mxE] at w2
      simp (config := { maxSteps := 1000000 }) (disch := first | omega | (simp only [go_sem]; omega)) only [go_sem, ↓reduceIte]
      refine bran_ndec (fun d => ?_) (fun d => ?_)
      · simp only [d, decide_false, Bool.not_false, Bool.true_or] at w2
        simp (config := { maxSteps := 1000000 }) (disch := first | omega | (simp only [go_sem]; omega)) only [go_sem, ↓reduceIte, d]
        exact ⟨i + 1, by simp, ⟨by omega, by rw [he, hall, w2]; simp⟩, by omega⟩
      · simp only [d, decide_true, Bool.not_true, Bool.false_or] at w2
        have hfo : (gt ae i).f < ns.length ∧ (gt ae i).o < ns.length := by split at d <;> omega
        generalize hxx : gt ae (i : Int) = x at *
        have hsu := any_succ (fun k : Nat => fitO ns x (gt be k))
        have hmo := fun k (h : k ≤ be.length) => any_mono (p := fun k : Nat => fitO ns x (gt be k)) h
        have hz : (List.range 0).any (fun k : Nat => fitO ns x (gt be k)) = false := rfl
        generalize hA : (fun n : Nat => (List.range n).any fun k : Nat => fitO ns x (gt be k)) = A
        have hA' : ∀ n, ((List.range n).any fun k : Nat => fitO ns x (gt be k)) = A n := fun n => by rw [← hA]
        simp only [hA'] at hsu hmo hz w2
        clear hA hA'
        simp only [fitO] at hsu
        simp (config := { maxSteps := 1000000 }) (disch := first | omega | (simp only [go_sem]; omega)) only [go_sem, ↓reduceIte, hxx]
        refine W_loop (fun k : Nat => ⟨[(2, D.lst 1 (ints ns)), (3, D.pt 0 0), (4, D.pt 1 0), (7, .int .i64 ((ns.length : Int) - 1)), (8, .int .i64 i), (9, D.pt 2 0), (10, .bool (A k)), (11, .int .i64 k)],
          [(0, Ent.box [D.lst 1 (ints an), D.lst 3 (eds ae)]), (1, Ent.box [D.lst 1 (ints bn), D.lst 3 (eds be)]), (2, Ent.box [.int .i64 x.t, .int .i64 x.f, .int .i64 x.o])], 3⟩) (fun k => k ≤ be.length) (fun k => be.length - k) 0 ?_ ?_ ?_
        · simp (config := { maxSteps := 1000000 }) (disch := first | omega | (simp only [go_sem]; omega)) only [go_sem, ↓reduceIte, hz]
          rfl
        · simp
        · intro k hk
          have w3 := hsu k
          have w4 := hmo k hk
          simp (config := { maxSteps := 1000000 }) (disch := first | omega | (simp only [go_sem]; omega)) only [go_sem, ↓reduceIte, c_r06_fits_b11]
          refine bran_dec (fun e => ?_) (fun e => ?_)
          · simp (config := { maxSteps := 1000000 }) (disch := first | omega | (simp only [go_sem]; omega)) only [go_sem, ↓reduceIte, e]
            refine bran_nby (fun g => ?_) (fun g => ?_)
            · rw [g, Bool.false_or] at w3
              simp (config := { maxSteps := 1000000 }) (disch := first | omega | (simp only [go_sem]; omega)) only [go_sem, ↓reduceIte, g, e]
              exact ⟨k + 1, by simp [w3], by omega, by omega⟩
            · have w4 := w4 g
              simp (config := { maxSteps := 1000000 }) (disch := first | omega | (simp only [go_sem]; omega)) only [go_sem, ↓reduceIte, g, e]
              exact ⟨i + 1, by simp, ⟨by omega, by rw [he, hall, w2, w4]; simp⟩, by omega⟩
          · obtain rfl : k = be.length := by omega
            simp (config := { maxSteps := 1000000 }) (disch := first | omega | (simp only [go_sem]; omega)) only [go_sem, ↓reduceIte, e]
            refine bran_nby (fun g => ?_) (fun g => ?_)
            · simp (config := { maxSteps := 1000000 }) (disch := first | omega | (simp only [go_sem]; omega)) only [go_sem, ↓reduceIte, g]
              rw [he, hall, w2, g]
              simp
            · simp (config := { maxSteps := 1000000 }) (disch := first | omega | (simp only [go_sem]; omega)) only [go_sem, ↓reduceIte, g]
              exact ⟨i + 1, by simp, ⟨by omega, by rw [he, hall, w2, g]; simp⟩, by omega⟩
    · simp (config := { maxSteps := 1000000 }) (disch := first | omega | (simp only [go_sem]; omega)) only [go_sem, ↓reduceIte]
      rw [he, List.drop_of_length_le (by omega)]
      rfl
end
end Go.Am
