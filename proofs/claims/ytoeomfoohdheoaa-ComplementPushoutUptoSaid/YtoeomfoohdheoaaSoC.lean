/- Partitions: the program's functions, and the reference's Generate. -/
import Derived.Test.YtoeomfoohdheoaaSoPa
namespace Go.Am
open Go
set_option linter.unusedVariables false
set_option linter.unusedSimpArgs false
attribute [local irreducible] W
/- partition.root -/
def c_partition_root_r0 (F : String → Nat) : List LI := [⟨some 4, .mov (.k (.int .i64 (0))), none⟩]
def c_partition_root_r1 (F : String → Nat) : List LI := [⟨some 5, .mov (.t 0), none⟩,
  ⟨some 6, .mov (.t 1), none⟩,
  ⟨some 7, .iad 1 (.t 5) (.t 6), none⟩,
  ⟨some 8, .load false 1 (.t 7), none⟩,
  ⟨some 9, .mov (.t 1), none⟩,
  ⟨some 10, .bin .neq (.t 8) (.t 9), none⟩]
def c_partition_root_r2 (F : String → Nat) : List LI := [⟨some 11, .mov (.t 0), none⟩,
  ⟨some 12, .mov (.t 1), none⟩,
  ⟨some 13, .iad 1 (.t 11) (.t 12), none⟩,
  ⟨some 14, .load false 1 (.t 13), none⟩,
  ⟨some 1, .mov (.t 14), none⟩]
def c_partition_root_b3 (F : String → Nat) : LC := (.seq (.seq (.reg (c_partition_root_r1 F) [0, 1, 10]) (.cond (.t 10) .skip (.exit 0))) (.block 1 (.reg (c_partition_root_r2 F) [0, 1])))
def c_partition_root_r4 (F : String → Nat) : List LI := [⟨some 15, .mov (.t 1), none⟩,
  ⟨some 4, .mov (.t 15), none⟩]
def c_partition_root (F : String → Nat) : LC := (.seq (.reg (c_partition_root_r0 F) [0, 1]) (.seq (.block 0 (.loop [0, 1] (c_partition_root_b3 F))) (.seq (.reg (c_partition_root_r4 F) [4]) .ret)))
def h_partition_root : Hints := ⟨[], fun _ => [], tab [(0, [0, 1]), (1, [0, 1, 10]), (2, [0, 1]), (3, [4])], tab [(1, [0, 1])]⟩

/- partition.unite -/
def c_partition_unite_r0 (F : String → Nat) : List LI := [⟨some 8, .mov (.t 0), none⟩,
  ⟨some 9, .mov (.t 1), none⟩,
  ⟨some 10, .call (F "partition.root") [.t 8, .t 9] [], none⟩,
  ⟨some 11, .mov (.t 0), none⟩,
  ⟨some 12, .mov (.t 2), none⟩,
  ⟨some 13, .call (F "partition.root") [.t 11, .t 12] [], none⟩,
  ⟨some 6, .mov (.t 10), none⟩,
  ⟨some 7, .mov (.t 13), none⟩]
def c_partition_unite_r1 (F : String → Nat) : List LI := [⟨some 14, .mov (.t 0), none⟩,
  ⟨some 15, .mov (.t 6), none⟩,
  ⟨some 16, .mov (.t 7), none⟩,
  ⟨some 17, .mx [.t 15, .t 16], none⟩,
  ⟨some 18, .mov (.t 6), none⟩,
  ⟨some 19, .mov (.t 7), none⟩,
  ⟨some 20, .mn [.t 18, .t 19], none⟩,
  ⟨some 21, .iad 1 (.t 14) (.t 17), none⟩,
  ⟨none, .store 1 (.t 21) (.t 20), none⟩]
def c_partition_unite (F : String → Nat) : LC := (.seq (.reg (c_partition_unite_r0 F) [0, 6, 7]) (.reg (c_partition_unite_r1 F) [0]))
def h_partition_unite : Hints := ⟨[0], fun _ => [], tab [(0, [0, 6, 7]), (1, [0])], tab []⟩

/- partition.finest -/
def c_partition_finest_r0 (F : String → Nat) : List LI := [⟨some 2, .mov (.k (.nl 1)), none⟩]
def c_partition_finest_r1 (F : String → Nat) : List LI := [⟨some 5, .mov (.t 0), none⟩,
  ⟨some 6, .makeSl 1 8 (.int .i64 (0)) (.t 5), none⟩,
  ⟨some 3, .mov (.t 6), none⟩]
def c_partition_finest_r2 (F : String → Nat) : List LI := [⟨some 7, .mov (.t 3), none⟩,
  ⟨some 8, .len (.t 7), none⟩,
  ⟨some 9, .mov (.k (.int .i64 (0))), none⟩]
def c_partition_finest_r3 (F : String → Nat) : List LI := [⟨some 10, .bin .lss (.t 9) (.t 8), none⟩]
def c_partition_finest_r4 (F : String → Nat) : List LI := [⟨some 11, .mov (.t 9), none⟩,
  ⟨some 4, .mov (.t 11), none⟩]
def c_partition_finest_r5 (F : String → Nat) : List LI := [⟨some 12, .mov (.t 3), none⟩,
  ⟨some 13, .mov (.t 4), none⟩,
  ⟨some 14, .mov (.t 4), none⟩,
  ⟨some 15, .iad 1 (.t 12) (.t 13), none⟩,
  ⟨none, .store 1 (.t 15) (.t 14), none⟩]
def c_partition_finest_r6 (F : String → Nat) : List LI := [⟨some 16, .bin .add (.t 9) (.k (.int .i64 (1))), none⟩,
  ⟨some 9, .mov (.t 16), none⟩]
def c_partition_finest_b7 (F : String → Nat) : LC := (.seq (.reg (c_partition_finest_r3 F) [3, 8, 9, 10]) (.seq (.cond (.t 10) .skip (.exit 0)) (.seq (.block 1 (.seq (.reg (c_partition_finest_r4 F) [3, 4, 8, 9]) (.reg (c_partition_finest_r5 F) [3, 8, 9]))) (.reg (c_partition_finest_r6 F) [3, 8, 9]))))
def c_partition_finest_r8 (F : String → Nat) : List LI := [⟨some 17, .mov (.t 3), none⟩,
  ⟨some 2, .mov (.t 17), none⟩]
def c_partition_finest (F : String → Nat) : LC := (.seq (.reg (c_partition_finest_r0 F) [0]) (.seq (.reg (c_partition_finest_r1 F) [3]) (.seq (.seq (.reg (c_partition_finest_r2 F) [3, 8, 9]) (.block 0 (.loop [3, 8, 9] (c_partition_finest_b7 F)))) (.seq (.reg (c_partition_finest_r8 F) [2]) .ret))))
def h_partition_finest : Hints := ⟨[], fun _ => [], tab [(0, [0]), (1, [3]), (2, [3, 8, 9]), (3, [3, 8, 9, 10]), (4, [3, 4, 8, 9]), (5, [3, 8, 9]), (6, [3, 8, 9]), (7, [2])], tab [(3, [3, 8, 9])]⟩

/- partition.flat -/
def c_partition_flat_r0 (F : String → Nat) : List LI := [⟨some 2, .mov (.k (.nl 1)), none⟩]
def c_partition_flat_r1 (F : String → Nat) : List LI := [⟨some 4, .mov (.t 0), none⟩,
  ⟨some 5, .len (.t 4), none⟩,
  ⟨some 6, .mov (.k (.int .i64 (0))), none⟩]
def c_partition_flat_r2 (F : String → Nat) : List LI := [⟨some 7, .bin .lss (.t 6) (.t 5), none⟩]
def c_partition_flat_r3 (F : String → Nat) : List LI := [⟨some 8, .mov (.t 6), none⟩,
  ⟨some 3, .mov (.t 8), none⟩]
def c_partition_flat_r4 (F : String → Nat) : List LI := [⟨some 9, .mov (.t 0), none⟩,
  ⟨some 10, .mov (.t 3), none⟩,
  ⟨some 11, .mov (.t 0), none⟩,
  ⟨some 12, .mov (.t 3), none⟩,
  ⟨some 13, .call (F "partition.root") [.t 11, .t 12] [], none⟩,
  ⟨some 14, .iad 1 (.t 9) (.t 10), none⟩,
  ⟨none, .store 1 (.t 14) (.t 13), none⟩]
def c_partition_flat_r5 (F : String → Nat) : List LI := [⟨some 15, .bin .add (.t 6) (.k (.int .i64 (1))), none⟩,
  ⟨some 6, .mov (.t 15), none⟩]
def c_partition_flat_b6 (F : String → Nat) : LC := (.seq (.reg (c_partition_flat_r2 F) [0, 5, 6, 7]) (.seq (.cond (.t 7) .skip (.exit 0)) (.seq (.block 1 (.seq (.reg (c_partition_flat_r3 F) [0, 3, 5, 6]) (.reg (c_partition_flat_r4 F) [0, 5, 6]))) (.reg (c_partition_flat_r5 F) [0, 5, 6]))))
def c_partition_flat_r7 (F : String → Nat) : List LI := [⟨some 16, .mov (.t 0), none⟩,
  ⟨some 2, .mov (.t 16), none⟩]
def c_partition_flat (F : String → Nat) : LC := (.seq (.reg (c_partition_flat_r0 F) [0]) (.seq (.seq (.reg (c_partition_flat_r1 F) [0, 5, 6]) (.block 0 (.loop [0, 5, 6] (c_partition_flat_b6 F)))) (.seq (.reg (c_partition_flat_r7 F) [2]) .ret)))
def h_partition_flat : Hints := ⟨[], fun _ => [], tab [(0, [0]), (1, [0, 5, 6]), (2, [0, 5, 6, 7]), (3, [0, 3, 5, 6]), (4, [0, 5, 6]), (5, [0, 5, 6]), (6, [2])], tab [(2, [0, 5, 6])]⟩

/- partition.Generate -/
def c_partition_Generate_r0 (F : String → Nat) : List LI := [⟨some 4, .mov (.k (.nl 1)), none⟩,
  ⟨some 5, .mov (.k (.int .i64 (0))), none⟩]
def c_partition_Generate_r1 (F : String → Nat) : List LI := [⟨some 9, .mov (.t 0), none⟩,
  ⟨some 10, .bin .gtr (.t 9) (.k (.int .i64 (80))), none⟩]
def c_partition_Generate_r2 (F : String → Nat) : List LI := [⟨some 4, .mov (.k (.nl 1)), none⟩,
  ⟨some 5, .mov (.k (.int .i64 (3))), none⟩]
def c_partition_Generate_r3 (F : String → Nat) : List LI := [⟨some 11, .mov (.t 0), none⟩,
  ⟨some 12, .bin .lss (.t 11) (.k (.int .i64 (0))), none⟩]
def c_partition_Generate_r4 (F : String → Nat) : List LI := [⟨some 4, .mov (.k (.nl 1)), none⟩,
  ⟨some 5, .mov (.k (.int .i64 (6))), none⟩]
def c_partition_Generate_r5 (F : String → Nat) : List LI := [⟨some 13, .mov (.t 0), none⟩,
  ⟨some 14, .call (F "partition.finest") [.t 13] [], none⟩,
  ⟨some 6, .mov (.t 14), none⟩]
def c_partition_Generate_r6 (F : String → Nat) : List LI := [⟨some 15, .mov (.t 1), none⟩,
  ⟨some 16, .len (.t 15), none⟩,
  ⟨some 17, .mov (.k (.int .i64 (0))), none⟩]
def c_partition_Generate_r7 (F : String → Nat) : List LI := [⟨some 18, .bin .lss (.t 17) (.t 16), none⟩]
def c_partition_Generate_r8 (F : String → Nat) : List LI := [⟨some 19, .iad 2 (.t 15) (.t 17), none⟩,
  ⟨some 20, .load true 2 (.t 19), none⟩,
  ⟨some 8, .alloc [.int .i64 (0), .int .i64 (0)], none⟩,
  ⟨none, .store 2 (.t 8) (.t 20), none⟩]
def c_partition_Generate_r9 (F : String → Nat) : List LI := [⟨some 21, .fad 0 (.t 8), none⟩,
  ⟨some 22, .load false 1 (.t 21), none⟩,
  ⟨some 23, .bin .lss (.t 22) (.k (.int .i64 (0))), none⟩,
  ⟨some 24, .mov (.t 23), none⟩,
  ⟨some 25, .fad 0 (.t 8), some (24, false)⟩,
  ⟨some 26, .load false 1 (.t 25), some (24, false)⟩,
  ⟨some 27, .mov (.t 0), some (24, false)⟩,
  ⟨some 28, .bin .geq (.t 26) (.t 27), some (24, false)⟩,
  ⟨some 29, .pick (.t 24) (.k (.bool true)) (.t 28), none⟩,
  ⟨some 30, .mov (.t 29), none⟩,
  ⟨some 31, .fad 1 (.t 8), some (30, false)⟩,
  ⟨some 32, .load false 1 (.t 31), some (30, false)⟩,
  ⟨some 33, .bin .lss (.t 32) (.k (.int .i64 (0))), some (30, false)⟩,
  ⟨some 34, .pick (.t 30) (.k (.bool true)) (.t 33), none⟩,
  ⟨some 35, .mov (.t 34), none⟩,
  ⟨some 36, .fad 1 (.t 8), some (35, false)⟩,
  ⟨some 37, .load false 1 (.t 36), some (35, false)⟩,
  ⟨some 38, .mov (.t 0), some (35, false)⟩,
  ⟨some 39, .bin .geq (.t 37) (.t 38), some (35, false)⟩,
  ⟨some 40, .pick (.t 35) (.k (.bool true)) (.t 39), none⟩]
def c_partition_Generate_r10 (F : String → Nat) : List LI := [⟨some 4, .mov (.k (.nl 1)), none⟩,
  ⟨some 5, .mov (.k (.int .i64 (6))), none⟩]
def c_partition_Generate_r11 (F : String → Nat) : List LI := [⟨some 41, .mov (.t 6), none⟩,
  ⟨some 42, .fad 0 (.t 8), none⟩,
  ⟨some 43, .load false 1 (.t 42), none⟩,
  ⟨some 44, .fad 1 (.t 8), none⟩,
  ⟨some 45, .load false 1 (.t 44), none⟩,
  ⟨some 46, .call (F "partition.unite") [.t 41, .t 43, .t 45] [.mu, .rd, .rd], none⟩]
def c_partition_Generate_r12 (F : String → Nat) : List LI := [⟨some 47, .bin .add (.t 17) (.k (.int .i64 (1))), none⟩,
  ⟨some 17, .mov (.t 47), none⟩]
def c_partition_Generate_b13 (F : String → Nat) : LC := (.seq (.reg (c_partition_Generate_r7 F) [0, 6, 15, 16, 17, 18]) (.seq (.cond (.t 18) .skip (.exit 0)) (.seq (.block 1 (.seq (.reg (c_partition_Generate_r8 F) [0, 6, 8, 15, 16, 17]) (.seq (.seq (.reg (c_partition_Generate_r9 F) [0, 6, 8, 15, 16, 17, 40]) (.cond (.t 40) (.seq (.reg (c_partition_Generate_r10 F) [4, 5]) .ret) .skip)) (.reg (c_partition_Generate_r11 F) [0, 6, 15, 16, 17])))) (.reg (c_partition_Generate_r12 F) [0, 6, 15, 16, 17]))))
def c_partition_Generate_r14 (F : String → Nat) : List LI := [⟨some 48, .mov (.t 6), none⟩,
  ⟨some 49, .call (F "partition.flat") [.t 48] [.ow], none⟩,
  ⟨some 4, .mov (.t 49), none⟩,
  ⟨some 5, .mov (.k (.int .i64 (0))), none⟩]
def c_partition_Generate (F : String → Nat) : LC := (.seq (.reg (c_partition_Generate_r0 F) [0, 1]) (.seq (.seq (.reg (c_partition_Generate_r1 F) [0, 1, 10]) (.cond (.t 10) (.seq (.reg (c_partition_Generate_r2 F) [4, 5]) .ret) .skip)) (.seq (.seq (.reg (c_partition_Generate_r3 F) [0, 1, 12]) (.cond (.t 12) (.seq (.reg (c_partition_Generate_r4 F) [4, 5]) .ret) .skip)) (.seq (.reg (c_partition_Generate_r5 F) [0, 1, 6]) (.seq (.seq (.reg (c_partition_Generate_r6 F) [0, 6, 15, 16, 17]) (.block 0 (.loop [0, 6, 15, 16, 17] (c_partition_Generate_b13 F)))) (.seq (.reg (c_partition_Generate_r14 F) [4, 5]) .ret))))))
def h_partition_Generate : Hints := ⟨[], fun _ => [], tab [(0, [0, 1]), (1, [0, 1, 10]), (2, [4, 5]), (3, [0, 1, 12]), (4, [4, 5]), (5, [0, 1, 6]), (6, [0, 6, 15, 16, 17]), (7, [0, 6, 15, 16, 17, 18]), (8, [0, 6, 8, 15, 16, 17]), (9, [0, 6, 8, 15, 16, 17, 40]), (10, [4, 5]), (11, [0, 6, 15, 16, 17]), (12, [0, 6, 15, 16, 17]), (13, [4, 5])], tab [(7, [0, 6, 15, 16, 17])]⟩

/- partition.right -/
def c_partition_right_r0 (F : String → Nat) : List LI := [⟨some 2, .mov (.k (.bool false)), none⟩]
def c_partition_right_r1 (F : String → Nat) : List LI := [⟨some 5, .mov (.t 0), none⟩,
  ⟨some 6, .len (.t 5), none⟩,
  ⟨some 7, .mov (.k (.int .i64 (0))), none⟩]
def c_partition_right_r2 (F : String → Nat) : List LI := [⟨some 8, .bin .lss (.t 7) (.t 6), none⟩]
def c_partition_right_r3 (F : String → Nat) : List LI := [⟨some 9, .mov (.t 7), none⟩,
  ⟨some 10, .iad 1 (.t 5) (.t 7), none⟩,
  ⟨some 11, .load false 1 (.t 10), none⟩,
  ⟨some 3, .mov (.t 9), none⟩,
  ⟨some 4, .mov (.t 11), none⟩]
def c_partition_right_r4 (F : String → Nat) : List LI := [⟨some 12, .mov (.t 4), none⟩,
  ⟨some 13, .bin .lss (.t 12) (.k (.int .i64 (0))), none⟩,
  ⟨some 14, .mov (.t 13), none⟩,
  ⟨some 15, .mov (.t 4), some (14, false)⟩,
  ⟨some 16, .mov (.t 3), some (14, false)⟩,
  ⟨some 17, .bin .gtr (.t 15) (.t 16), some (14, false)⟩,
  ⟨some 18, .pick (.t 14) (.k (.bool true)) (.t 17), none⟩,
  ⟨some 19, .mov (.t 18), none⟩,
  ⟨some 20, .mov (.t 0), some (19, false)⟩,
  ⟨some 21, .mov (.t 4), some (19, false)⟩,
  ⟨some 22, .iad 1 (.t 20) (.t 21), some (19, false)⟩,
  ⟨some 23, .load false 1 (.t 22), some (19, false)⟩,
  ⟨some 24, .mov (.t 4), some (19, false)⟩,
  ⟨some 25, .bin .neq (.t 23) (.t 24), some (19, false)⟩,
  ⟨some 26, .pick (.t 19) (.k (.bool true)) (.t 25), none⟩]
def c_partition_right_r5 (F : String → Nat) : List LI := [⟨some 2, .mov (.k (.bool false)), none⟩]
def c_partition_right_r6 (F : String → Nat) : List LI := [⟨some 27, .bin .add (.t 7) (.k (.int .i64 (1))), none⟩,
  ⟨some 7, .mov (.t 27), none⟩]
def c_partition_right_b7 (F : String → Nat) : LC := (.seq (.reg (c_partition_right_r2 F) [0, 5, 6, 7, 8]) (.seq (.cond (.t 8) .skip (.exit 0)) (.seq (.block 1 (.seq (.reg (c_partition_right_r3 F) [0, 3, 4, 5, 6, 7]) (.seq (.reg (c_partition_right_r4 F) [0, 5, 6, 7, 26]) (.cond (.t 26) (.seq (.reg (c_partition_right_r5 F) [2]) .ret) .skip)))) (.reg (c_partition_right_r6 F) [0, 5, 6, 7]))))
def c_partition_right_r8 (F : String → Nat) : List LI := [⟨some 2, .mov (.k (.bool true)), none⟩]
def c_partition_right (F : String → Nat) : LC := (.seq (.reg (c_partition_right_r0 F) [0]) (.seq (.seq (.reg (c_partition_right_r1 F) [0, 5, 6, 7]) (.block 0 (.loop [0, 5, 6, 7] (c_partition_right_b7 F)))) (.seq (.reg (c_partition_right_r8 F) [2]) .ret)))
def h_partition_right : Hints := ⟨[], fun _ => [], tab [(0, [0]), (1, [0, 5, 6, 7]), (2, [0, 5, 6, 7, 8]), (3, [0, 3, 4, 5, 6, 7]), (4, [0, 5, 6, 7, 26]), (5, [2]), (6, [0, 5, 6, 7]), (7, [2])], tab [(2, [0, 5, 6, 7])]⟩

/- partition.one -/
def c_partition_one_r0 (F : String → Nat) : List LI := [⟨some 2, .mov (.k (.int .i64 (0))), none⟩]
def c_partition_one_r1 (F : String → Nat) : List LI := [⟨some 3, .mov (.t 0), none⟩,
  ⟨some 4, .len (.t 3), none⟩,
  ⟨some 5, .bin .gtr (.t 4) (.k (.int .i64 (80))), none⟩]
def c_partition_one_r2 (F : String → Nat) : List LI := [⟨some 2, .mov (.k (.int .i64 (3))), none⟩]
def c_partition_one_r3 (F : String → Nat) : List LI := [⟨some 6, .mov (.t 0), none⟩,
  ⟨some 7, .call (F "partition.right") [.t 6] [], none⟩,
  ⟨some 8, .not (.t 7), none⟩]
def c_partition_one_r4 (F : String → Nat) : List LI := [⟨some 2, .mov (.k (.int .i64 (1))), none⟩]
def c_partition_one_r5 (F : String → Nat) : List LI := [⟨some 2, .mov (.k (.int .i64 (0))), none⟩]
def c_partition_one (F : String → Nat) : LC := (.seq (.reg (c_partition_one_r0 F) [0]) (.seq (.seq (.reg (c_partition_one_r1 F) [0, 5]) (.cond (.t 5) (.seq (.reg (c_partition_one_r2 F) [2]) .ret) .skip)) (.seq (.seq (.reg (c_partition_one_r3 F) [8]) (.cond (.t 8) (.seq (.reg (c_partition_one_r4 F) [2]) .ret) .skip)) (.seq (.reg (c_partition_one_r5 F) [2]) .ret))))
def h_partition_one : Hints := ⟨[], fun _ => [], tab [(0, [0]), (1, [0, 5]), (2, [2]), (3, [8]), (4, [2]), (5, [2])], tab []⟩

/- partition.Quotient -/
def c_partition_Quotient_r0 (F : String → Nat) : List LI := [⟨some 2, .mov (.k (.nl 1)), none⟩,
  ⟨some 3, .mov (.k (.int .i64 (0))), none⟩,
  ⟨some 4, .mov (.k (.int .i64 (0))), none⟩]
def c_partition_Quotient_r1 (F : String → Nat) : List LI := [⟨some 10, .mov (.t 0), none⟩,
  ⟨some 11, .call (F "partition.one") [.t 10] [], none⟩,
  ⟨some 5, .mov (.t 11), none⟩]
def c_partition_Quotient_r2 (F : String → Nat) : List LI := [⟨some 12, .mov (.t 5), none⟩,
  ⟨some 13, .bin .neq (.t 12) (.k (.int .i64 (0))), none⟩]
def c_partition_Quotient_r3 (F : String → Nat) : List LI := [⟨some 14, .mov (.t 5), none⟩,
  ⟨some 2, .mov (.k (.nl 1)), none⟩,
  ⟨some 3, .mov (.k (.int .i64 (0))), none⟩,
  ⟨some 4, .mov (.t 14), none⟩]
def c_partition_Quotient_r4 (F : String → Nat) : List LI := [⟨some 6, .mov (.k (.nl 1)), none⟩]
def c_partition_Quotient_r5 (F : String → Nat) : List LI := [⟨some 7, .mov (.k (.int .i64 (0))), none⟩]
def c_partition_Quotient_r6 (F : String → Nat) : List LI := [⟨some 15, .mov (.t 0), none⟩,
  ⟨some 16, .len (.t 15), none⟩,
  ⟨some 17, .mov (.k (.int .i64 (0))), none⟩]
def c_partition_Quotient_r7 (F : String → Nat) : List LI := [⟨some 18, .bin .lss (.t 17) (.t 16), none⟩]
def c_partition_Quotient_r8 (F : String → Nat) : List LI := [⟨some 19, .mov (.t 17), none⟩,
  ⟨some 20, .iad 1 (.t 15) (.t 17), none⟩,
  ⟨some 21, .load false 1 (.t 20), none⟩,
  ⟨some 8, .mov (.t 19), none⟩,
  ⟨some 9, .mov (.t 21), none⟩]
def c_partition_Quotient_r9 (F : String → Nat) : List LI := [⟨some 22, .mov (.t 9), none⟩,
  ⟨some 23, .mov (.t 8), none⟩,
  ⟨some 24, .bin .eql (.t 22) (.t 23), none⟩]
def c_partition_Quotient_r10 (F : String → Nat) : List LI := [⟨some 25, .mov (.t 6), none⟩,
  ⟨some 26, .mov (.t 7), none⟩,
  ⟨some 27, .buildSl 1 8 (.int .i64 (0)) 1 [(0, .t 26)], none⟩,
  ⟨some 28, .app 1 8 (.t 25) (.t 27), none⟩,
  ⟨some 6, .mov (.t 28), none⟩]
def c_partition_Quotient_r11 (F : String → Nat) : List LI := [⟨some 29, .mov (.t 7), none⟩,
  ⟨some 30, .bin .add (.t 29) (.k (.int .i64 (1))), none⟩,
  ⟨some 7, .mov (.t 30), none⟩]
def c_partition_Quotient_r12 (F : String → Nat) : List LI := [⟨some 31, .mov (.t 6), none⟩,
  ⟨some 32, .mov (.t 6), none⟩,
  ⟨some 33, .mov (.t 9), none⟩,
  ⟨some 34, .iad 1 (.t 32) (.t 33), none⟩,
  ⟨some 35, .load false 1 (.t 34), none⟩,
  ⟨some 36, .buildSl 1 8 (.int .i64 (0)) 1 [(0, .t 35)], none⟩,
  ⟨some 37, .app 1 8 (.t 31) (.t 36), none⟩,
  ⟨some 6, .mov (.t 37), none⟩]
def c_partition_Quotient_r13 (F : String → Nat) : List LI := [⟨some 38, .bin .add (.t 17) (.k (.int .i64 (1))), none⟩,
  ⟨some 17, .mov (.t 38), none⟩]
def c_partition_Quotient_b14 (F : String → Nat) : LC := (.seq (.reg (c_partition_Quotient_r7 F) [6, 7, 15, 16, 17, 18]) (.seq (.cond (.t 18) .skip (.exit 0)) (.seq (.block 1 (.seq (.reg (c_partition_Quotient_r8 F) [6, 7, 8, 9, 15, 16, 17]) (.seq (.reg (c_partition_Quotient_r9 F) [6, 7, 9, 15, 16, 17, 24]) (.cond (.t 24) (.seq (.reg (c_partition_Quotient_r10 F) [6, 7, 15, 16, 17]) (.reg (c_partition_Quotient_r11 F) [6, 7, 15, 16, 17])) (.reg (c_partition_Quotient_r12 F) [6, 7, 15, 16, 17]))))) (.reg (c_partition_Quotient_r13 F) [6, 7, 15, 16, 17]))))
def c_partition_Quotient_r15 (F : String → Nat) : List LI := [⟨some 39, .mov (.t 6), none⟩,
  ⟨some 40, .mov (.t 7), none⟩,
  ⟨some 2, .mov (.t 39), none⟩,
  ⟨some 3, .mov (.t 40), none⟩,
  ⟨some 4, .mov (.k (.int .i64 (0))), none⟩]
def c_partition_Quotient (F : String → Nat) : LC := (.seq (.reg (c_partition_Quotient_r0 F) [0]) (.seq (.seq (.reg (c_partition_Quotient_r1 F) [0, 5]) (.seq (.reg (c_partition_Quotient_r2 F) [0, 5, 13]) (.cond (.t 13) (.seq (.reg (c_partition_Quotient_r3 F) [2, 3, 4]) .ret) .skip))) (.seq (.reg (c_partition_Quotient_r4 F) [0, 6]) (.seq (.reg (c_partition_Quotient_r5 F) [0, 6, 7]) (.seq (.seq (.reg (c_partition_Quotient_r6 F) [6, 7, 15, 16, 17]) (.block 0 (.loop [6, 7, 15, 16, 17] (c_partition_Quotient_b14 F)))) (.seq (.reg (c_partition_Quotient_r15 F) [2, 3, 4]) .ret))))))
def h_partition_Quotient : Hints := ⟨[], fun _ => [], tab [(0, [0]), (1, [0, 5]), (2, [0, 5, 13]), (3, [2, 3, 4]), (4, [0, 6]), (5, [0, 6, 7]), (6, [6, 7, 15, 16, 17]), (7, [6, 7, 15, 16, 17, 18]), (8, [6, 7, 8, 9, 15, 16, 17]), (9, [6, 7, 9, 15, 16, 17, 24]), (10, [6, 7, 15, 16, 17]), (11, [6, 7, 15, 16, 17]), (12, [6, 7, 15, 16, 17]), (13, [6, 7, 15, 16, 17]), (14, [2, 3, 4])], tab [(7, [6, 7, 15, 16, 17])]⟩

attribute [go_sem] c_partition_root_r0 c_partition_root_r1 c_partition_root_r2 c_partition_root_r4 c_partition_root c_partition_unite_r0 c_partition_unite_r1 c_partition_unite c_partition_finest_r0 c_partition_finest_r1 c_partition_finest_r2 c_partition_finest_r3 c_partition_finest_r4 c_partition_finest_r5 c_partition_finest_r6 c_partition_finest_r8 c_partition_finest c_partition_flat_r0 c_partition_flat_r1 c_partition_flat_r2 c_partition_flat_r3 c_partition_flat_r4 c_partition_flat_r5 c_partition_flat_r7 c_partition_flat c_partition_Generate_r0 c_partition_Generate_r1 c_partition_Generate_r2 c_partition_Generate_r3 c_partition_Generate_r4 c_partition_Generate_r5 c_partition_Generate_r6 c_partition_Generate_r7 c_partition_Generate_r8 c_partition_Generate_r9 c_partition_Generate_r10 c_partition_Generate_r11 c_partition_Generate_r12 c_partition_Generate_r14 c_partition_Generate c_partition_right_r0 c_partition_right_r1 c_partition_right_r2 c_partition_right_r3 c_partition_right_r4 c_partition_right_r5 c_partition_right_r6 c_partition_right_r8 c_partition_right c_partition_one_r0 c_partition_one_r1 c_partition_one_r2 c_partition_one_r3 c_partition_one_r4 c_partition_one_r5 c_partition_one c_partition_Quotient_r0 c_partition_Quotient_r1 c_partition_Quotient_r2 c_partition_Quotient_r3 c_partition_Quotient_r4 c_partition_Quotient_r5 c_partition_Quotient_r6 c_partition_Quotient_r7 c_partition_Quotient_r8 c_partition_Quotient_r9 c_partition_Quotient_r10 c_partition_Quotient_r11 c_partition_Quotient_r12 c_partition_Quotient_r13 c_partition_Quotient_r15 c_partition_Quotient
section
variable (P : Program) (F : String → Nat)
def K_partition_root : Prop := ∀ (p r : List Int) (i : Nat), Fo p r → p.length ≤ 1000 → i < p.length → FC P (F "partition.root") [.lst 1 (ints p), .int .i64 i] (.int .i64 (gt r i)) []
def K_partition_unite : Prop := ∀ (p r : List Int) (a b : Nat), Fo p r → p.length ≤ 1000 → a < p.length → b < p.length → FC P (F "partition.unite") [.arr 1 (ints p), .int .i64 a, .int .i64 b] (.tup []) [(0, .arr 1 (ints (p.set (max (gt r a) (gt r b)).toNat (min (gt r a) (gt r b)))))]
def K_partition_finest : Prop := ∀ n : Nat, n ≤ 1000000 → FC P (F "partition.finest") [.int .i64 n] (.arr 1 (ints (nums 0 n))) []
def K_partition_flat : Prop := ∀ p r : List Int, Fo p r → p.length ≤ 1000 → FC P (F "partition.flat") [.arr 1 (ints p)] (.arr 1 (ints r)) []
def K_partition_Generate : Prop := ∀ (n : Nat) (l : List Pr), n ≤ 80 → l.length ≤ 1000 → PrIn n l → FC P (F "partition.Generate") [.int .i64 n, .lst 2 (prs l)] (.tup [.arr 1 (ints (genL n l)), .int .i64 0]) []
def K_partition_right : Prop := ∀ p : List Int, Idem p → p.length ≤ 80 → FC P (F "partition.right") [.lst 1 (ints p)] (.bool true) []
def K_partition_one : Prop := ∀ p : List Int, Idem p → p.length ≤ 80 → FC P (F "partition.one") [.lst 1 (ints p)] (.int .i64 0) []
def K_partition_Quotient : Prop := ∀ p : List Int, Idem p → p.length ≤ 80 → FC P (F "partition.Quotient") [.lst 1 (ints p)] (.tup [.arr 1 (ints (quo p p.length).1), .int .i64 (quo p p.length).2, .int .i64 0]) []
end
section
variable {P : Program} {F : String → Nat} {α : Type}
theorem w_partition_root (p r : List Int) (i : Nat) (h : Fo p r) (hl : p.length ≤ 1000) (hi : i < p.length) : W P (c_partition_root F) (Done [.t 4] [] (.int .i64 (gt r i)) []) (init [.lst 1 (ints p), .int .i64 i]) := by
  refine W_of ?_
  simp (config := { maxSteps := 1000000 }) (disch := first | omega | (simp only [go_sem]; omega)) only [go_sem, ↓reduceIte]
  refine W_loop (fun k : Nat => ⟨[(0, .lst 1 (ints p)), (1, .int .i64 k)], [], 0⟩) (fun k => k < p.length ∧ gt r k = gt r i) (fun k => k) i ?_ ?_ ?_
  · simp (config := { maxSteps := 1000000 }) (disch := first | omega | (simp only [go_sem]; omega)) only [go_sem, ↓reduceIte]
    try rfl
  · exact ⟨hi, rfl⟩
  · rintro k ⟨h1, h2⟩
    obtain ⟨b1, b2⟩ := h.b k h1
    obtain ⟨m, hm⟩ := natI b1
    have hs := h.s k h1
    have ht := h.t k h1
    simp (config := { maxSteps := 1000000 }) (disch := first | omega | (simp only [go_sem]; omega)) only [go_sem, ↓reduceIte, c_partition_root_b3]
    refine bran_ndec (fun c => ?_) (fun c => ?_)
    · rw [hm] at c hs b2
      simp (config := { maxSteps := 1000000 }) (disch := first | omega | (simp only [go_sem]; omega)) only [go_sem, ↓reduceIte]
      exact ⟨m, by rw [hm], ⟨by omega, by rw [hs, h2]⟩, by omega⟩
    · simp (config := { maxSteps := 1000000 }) (disch := first | omega | (simp only [go_sem]; omega)) only [go_sem, ↓reduceIte]
      rw [← h2, ht c]
theorem w_partition_unite (hr : K_partition_root P F) (p r : List Int) (a b : Nat) (h : Fo p r) (hl : p.length ≤ 1000) (ha : a < p.length) (hb : b < p.length) :
    W P (c_partition_unite F) (Done [] [0] (.tup []) [(0, .arr 1 (ints (p.set (max (gt r a) (gt r b)).toNat (min (gt r a) (gt r b)))))]) (init [.arr 1 (ints p), .int .i64 a, .int .i64 b]) := by
  refine W_of ?_
  have r1 := hr p r a h hl ha
  have r2 := hr p r b h hl hb
  have hlo : min (gt r a) (gt r b) = if gt r b < gt r a then gt r b else gt r a := by rw [Int.min_def]; split <;> split <;> omega
  have hhi : max (gt r a) (gt r b) = if gt r a < gt r b then gt r b else gt r a := by rw [Int.max_def]; split <;> split <;> omega
  have hb1 : 0 ≤ max (gt r a) (gt r b) ∧ max (gt r a) (gt r b) < p.length := by
    obtain ⟨⟨a1, a2⟩, _⟩ := h.c a ha
    obtain ⟨⟨b1, b2⟩, _⟩ := h.c b hb
    omega
  rw [hhi] at hb1
  rw [hlo, hhi]
  clear hlo hhi
  simp (config := { maxSteps := 1000000 }) (disch := first | omega | (simp only [go_sem]; omega)) only [go_sem, ↓reduceIte]
  refine call_by r1 ?_
  simp (config := { maxSteps := 1000000 }) (disch := first | omega | (simp only [go_sem]; omega)) only [go_sem, ↓reduceIte]
  refine call_by r2 ?_
  simp (config := { maxSteps := 1000000 }) (disch := first | omega | (simp only [go_sem]; omega)) only [go_sem, ↓reduceIte]
theorem w_partition_finest (n : Nat) (hn : n ≤ 1000000) : W P (c_partition_finest F) (Done [.t 2] [] (.arr 1 (ints (nums 0 n))) []) (init [.int .i64 n]) := by
  refine W_of ?_
  simp (config := { maxSteps := 1000000 }) (disch := first | omega | (simp only [go_sem]; omega)) only [go_sem, ↓reduceIte]
  refine W_loop (fun i : Nat => ⟨[(3, .sl 0 0 n), (8, .int .i64 n), (9, .int .i64 i)], [(0, .arr 1 (ints (nums 0 i ++ List.replicate (n - i) 0)))], 1⟩) (fun i => i ≤ n) (fun i => n - i) 0 ?_ ?_ ?_
  · simp (config := { maxSteps := 1000000 }) (disch := first | omega | (simp only [go_sem]; omega)) only [go_sem, ↓reduceIte, nums_zero]
    rfl
  · omega
  · intro i hi
    have hl := nums_len 0 i
    simp (config := { maxSteps := 1000000 }) (disch := first | omega | (simp only [go_sem]; omega)) only [go_sem, ↓reduceIte, c_partition_finest_b7]
    refine bran_dec (fun c => ?_) (fun c => ?_)
    · have hf : (nums 0 i ++ List.replicate (n - i) 0).set i (i : Int) = nums 0 (i + 1) ++ List.replicate (n - (i + 1)) 0 := by
        have := fillL (nums 0 i) (i : Int) 0 (n - (i + 1))
        rw [hl, show n - (i + 1) + 1 = n - i by omega] at this
        rw [this, nums_succ]
        simp
      simp (config := { maxSteps := 1000000 }) (disch := first | omega | (simp only [go_sem]; omega)) only [go_sem, ↓reduceIte, hl, hf]
      exact ⟨i + 1, by simp, by omega, by omega⟩
    · obtain rfl : i = n := by omega
      simp (config := { maxSteps := 1000000 }) (disch := first | omega | (simp only [go_sem]; omega)) only [go_sem, ↓reduceIte, hl]
      simp
theorem w_partition_flat (hr : K_partition_root P F) (p r : List Int) (h : Fo p r) (hl : p.length ≤ 1000) : W P (c_partition_flat F) (Done [.t 2] [] (.arr 1 (ints r)) []) (init [.arr 1 (ints p)]) := by
  refine W_of ?_
  have hlr := h.l
  generalize hn : p.length = n at *
  simp (config := { maxSteps := 1000000 }) (disch := first | omega | (simp only [go_sem]; omega)) only [go_sem, ↓reduceIte, hn]
  refine W_loop (fun s : Nat × List Int => ⟨[(0, .sl 0 0 n), (5, .int .i64 n), (6, .int .i64 s.1)], [(0, .arr 1 (ints s.2))], 1⟩) (fun s => s.1 ≤ n ∧ s.2.length = n ∧ Fo s.2 r ∧ ∀ j : Nat, j < s.1 → gt s.2 j = gt r j) (fun s => n - s.1) (0, p) ?_ ?_ ?_
  · simp (config := { maxSteps := 1000000 }) (disch := first | omega | (simp only [go_sem]; omega)) only [go_sem, ↓reduceIte, hn]
    rfl
  · exact ⟨by omega, hn, h, fun j hj => by omega⟩
  · rintro ⟨i, q⟩ ⟨h1, h2, h3, h4⟩
    simp only at h1 h2 h3 h4
    by_cases c : i < n
    · have g1 : decide ((i : Int) < n) = true := decide_eq_true (by omega)
      have r1 := hr q r i h3 (by omega) (by omega)
      simp (config := { maxSteps := 1000000 }) (disch := first | omega | (simp only [go_sem]; omega)) only [go_sem, ↓reduceIte, c_partition_flat_b6, g1, h2]
      refine call_by r1 ?_
      simp (config := { maxSteps := 1000000 }) (disch := first | omega | (simp only [go_sem]; omega)) only [go_sem, ↓reduceIte, h2]
      refine ⟨(i + 1, q.set i (gt r i)), by simp, ⟨by simp only; omega, by simp [h2], h3.flat (by omega), fun j hj => ?_⟩, by simp only; omega⟩
      simp only
      rw [gt_setS (by omega)]
      split
      · rename_i e; subst e; rfl
      · simp only at hj; exact h4 j (by omega)
    · have g1 : decide ((i : Int) < n) = false := decide_eq_false (by omega)
      have e : q = r := list_ext_gt (by omega) fun j hj => h4 j (by omega)
      subst e
      simp (config := { maxSteps := 1000000 }) (disch := first | omega | (simp only [go_sem]; omega)) only [go_sem, ↓reduceIte, c_partition_flat_b6, g1, h2]
theorem w_partition_Generate (hf : K_partition_finest P F) (hu : K_partition_unite P F) (hfl : K_partition_flat P F) (n : Nat) (l : List Pr) (hn : n ≤ 80) (hl : l.length ≤ 1000) (hp : PrIn n l) :
    W P (c_partition_Generate F) (Done [.t 4, .t 5] [] (.tup [.arr 1 (ints (genL n l)), .int .i64 0]) []) (init [.int .i64 n, .lst 2 (prs l)]) := by
  refine W_of ?_
  have d1 : decide ((80 : Int) < n) = false := decide_eq_false (by omega)
  have d2 : decide ((n : Int) < 0) = false := decide_eq_false (by omega)
  have r1 := hf n (by omega)
  have nl := nums_len 0 n
  simp (config := { maxSteps := 1000000 }) (disch := first | omega | (simp only [go_sem]; omega)) only [go_sem, ↓reduceIte, d1, d2]
  refine call_by r1 ?_
  simp (config := { maxSteps := 1000000 }) (disch := first | omega | (simp only [go_sem]; omega)) only [go_sem, ↓reduceIte, nl]
  refine W_loop (fun s : Nat × List Int => ⟨[(0, .int .i64 n), (6, .sl 0 0 n), (15, .lst 2 (prs l)), (16, .int .i64 l.length), (17, .int .i64 s.1)], [(0, .arr 1 (ints s.2))], 1⟩) (fun s => s.1 ≤ l.length ∧ s.2.length = n ∧ Fo s.2 (genI n l s.1)) (fun s => l.length - s.1) (0, nums 0 n) ?_ ?_ ?_
  · simp (config := { maxSteps := 1000000 }) (disch := first | omega | (simp only [go_sem]; omega)) only [go_sem, ↓reduceIte, nl]
    rfl
  · exact ⟨by simp, nl, nums_Fo n⟩
  · rintro ⟨i, q⟩ ⟨h1, h2, h3⟩
    simp only at h1 h2 h3
    by_cases c : i < l.length
    · have g1 : decide ((i : Int) < l.length) = true := decide_eq_true (by omega)
      obtain ⟨⟨a1, a2⟩, b1, b2⟩ := hp i c
      have hs : genI n l (i + 1) = mergeL (genI n l i) (gt l i).a (gt l i).b := rfl
      generalize hgi : genI n l (i + 1) = gi' at *
      generalize genI n l i = gi at *
      obtain ⟨a, ha⟩ := natI a1
      obtain ⟨b, hb⟩ := natI b1
      rw [ha, hb] at hs
      rw [ha] at a1 a2
      rw [hb] at b1 b2
      have r2 := hu q gi a b h3 (by omega) (by omega) (by omega)
      have e1 : decide ((a : Int) < 0) = false := decide_eq_false (by omega)
      have e2 : decide ((n : Int) ≤ a) = false := decide_eq_false (by omega)
      have e3 : decide ((b : Int) < 0) = false := decide_eq_false (by omega)
      have e4 : decide ((n : Int) ≤ b) = false := decide_eq_false (by omega)
      have hf2 := h3.unite (a := a) (b := b) (by omega) (by omega)
      rw [← hs] at hf2
      clear hs
      generalize hq : q.set (max (gt gi a) (gt gi b)).toNat (min (gt gi a) (gt gi b)) = q' at *
      have ql : q'.length = n := by rw [← hq, List.length_set, h2]
      simp (config := { maxSteps := 1000000 }) (disch := first | omega | (simp only [go_sem]; omega)) only [go_sem, ↓reduceIte, c_partition_Generate_b13, g1, ha, hb, e1, e2, e3, e4, h2]
      refine call_by r2 ?_
      simp (config := { maxSteps := 1000000 }) (disch := first | omega | (simp only [go_sem]; omega)) only [go_sem, ↓reduceIte, h2, ql]
      exact ⟨(i + 1, q'), by simp, ⟨by simp only; omega, ql, by show Fo q' (genI n l (i + 1)); rw [hgi]; exact hf2⟩, by simp only; omega⟩
    · have g1 : decide ((i : Int) < l.length) = false := decide_eq_false (by omega)
      obtain rfl : i = l.length := by omega
      have gl := gen_len (n := n) (l := l) l.length
      have r2 := hfl q _ h3 (by omega)
      have hE : genL n l = genI n l l.length := rfl
      rw [hE]
      generalize genI n l l.length = gi at *
      simp (config := { maxSteps := 1000000 }) (disch := first | omega | (simp only [go_sem]; omega)) only [go_sem, ↓reduceIte, c_partition_Generate_b13, g1, h2]
      refine call_by r2 ?_
      simp (config := { maxSteps := 1000000 }) (disch := first | omega | (simp only [go_sem]; omega)) only [go_sem, ↓reduceIte, gl]
theorem w_partition_right (p : List Int) (hp : Idem p) (hl : p.length ≤ 80) : W P (c_partition_right F) (Done [.t 2] [] (.bool true) []) (init [.lst 1 (ints p)]) := by
  refine W_of ?_
  simp (config := { maxSteps := 1000000 }) (disch := first | omega | (simp only [go_sem]; omega)) only [go_sem, ↓reduceIte]
  refine W_loop (fun i : Nat => ⟨[(0, .lst 1 (ints p)), (5, .lst 1 (ints p)), (6, .int .i64 p.length), (7, .int .i64 i)], [], 0⟩) (fun i => i ≤ p.length) (fun i => p.length - i) 0 ?_ ?_ ?_
  · simp (config := { maxSteps := 1000000 }) (disch := first | omega | (simp only [go_sem]; omega)) only [go_sem, ↓reduceIte]
    rfl
  · simp
  · intro i hi
    by_cases c : i < p.length
    · obtain ⟨⟨h1, h2⟩, h3⟩ := hp i c
      have g1 : decide ((i : Int) < p.length) = true := decide_eq_true (by omega)
      have g2 : decide (gt p i < 0) = false := decide_eq_false (by omega)
      have g3 : decide ((i : Int) < gt p i) = false := decide_eq_false (by omega)
      have g4 : decide (gt p (gt p i) = gt p i) = true := decide_eq_true h3
      simp (config := { maxSteps := 1000000 }) (disch := first | omega | (simp only [go_sem]; omega)) only [go_sem, ↓reduceIte, c_partition_right_b7, g1, g2, g3, g4]
      exact ⟨i + 1, by simp, by omega, by omega⟩
    · have g1 : decide ((i : Int) < p.length) = false := decide_eq_false (by omega)
      simp (config := { maxSteps := 1000000 }) (disch := first | omega | (simp only [go_sem]; omega)) only [go_sem, ↓reduceIte, c_partition_right_b7, g1]
theorem w_partition_one (hr : K_partition_right P F) (p : List Int) (hp : Idem p) (hl : p.length ≤ 80) : W P (c_partition_one F) (Done [.t 2] [] (.int .i64 0) []) (init [.lst 1 (ints p)]) := by
  refine W_of ?_
  have r := hr p hp hl
  have g0 : decide ((80 : Int) < p.length) = false := decide_eq_false (by omega)
  simp (config := { maxSteps := 1000000 }) (disch := first | omega | (simp only [go_sem]; omega)) only [go_sem, ↓reduceIte, g0]
  refine call_by r ?_
  simp (config := { maxSteps := 1000000 }) (disch := first | omega | (simp only [go_sem]; omega)) only [go_sem, ↓reduceIte]
theorem w_partition_Quotient (ho : K_partition_one P F) (p : List Int) (hp : Idem p) (hl : p.length ≤ 80) : W P (c_partition_Quotient F) (Done [.t 2, .t 3, .t 4] [] (.tup [.arr 1 (ints (quo p p.length).1), .int .i64 (quo p p.length).2, .int .i64 0]) []) (init [.lst 1 (ints p)]) := by
  refine W_of ?_
  have r := ho p hp hl
  have ql : ∀ i : Nat, (quo p i).1.length = i ∧ (quo p i).2 ≤ i := fun i => by
    induction i with
    | zero => simp [quo]
    | succ i ih =>
      rw [quo]
      split <;> simp [ih.1] <;> omega
  simp (config := { maxSteps := 1000000 }) (disch := first | omega | (simp only [go_sem]; omega)) only [go_sem, ↓reduceIte]
  refine call_by r ?_
  simp (config := { maxSteps := 1000000 }) (disch := first | omega | (simp only [go_sem]; omega)) only [go_sem, ↓reduceIte]
  refine W_loop (fun i : Nat => ⟨[(6, .sl 0 0 i), (7, .int .i64 (quo p i).2), (15, .lst 1 (ints p)), (16, .int .i64 p.length), (17, .int .i64 i)], [(0, .arr 1 (ints (quo p i).1))], 1⟩) (fun i => i ≤ p.length) (fun i => p.length - i) 0 ?_ ?_ ?_
  · simp (config := { maxSteps := 1000000 }) (disch := first | omega | (simp only [go_sem]; omega)) only [go_sem, ↓reduceIte, ints_nil, quo]
    rfl
  · simp
  · intro i hi
    obtain ⟨e1, e2⟩ := ql i
    have hs : quo p (i + 1) = if gt p i = i then ((quo p i).1 ++ [((quo p i).2 : Int)], (quo p i).2 + 1) else ((quo p i).1 ++ [gt (quo p i).1 (gt p i)], (quo p i).2) := rfl
    simp (config := { maxSteps := 1000000 }) (disch := first | omega | (simp only [go_sem]; omega)) only [go_sem, ↓reduceIte, c_partition_Quotient_b14]
    refine bran_dec (fun c => ?_) (fun c => ?_)
    · obtain ⟨⟨h1, h2⟩, h3⟩ := hp i (by omega)
      simp (config := { maxSteps := 1000000 }) (disch := first | omega | (simp only [go_sem]; omega)) only [go_sem, ↓reduceIte]
      refine bran_dec (fun d => ?_) (fun d => ?_)
      · rw [if_pos d] at hs
        simp (config := { maxSteps := 1000000 }) (disch := first | omega | (simp only [go_sem]; omega)) only [go_sem, ↓reduceIte, e1]
        exact ⟨i + 1, by simp [hs], by omega, by omega⟩
      · rw [if_neg d] at hs
        simp (config := { maxSteps := 1000000 }) (disch := first | omega | (simp only [go_sem]; omega)) only [go_sem, ↓reduceIte, e1]
        exact ⟨i + 1, by simp [hs], by omega, by omega⟩
    · obtain rfl : i = p.length := by omega
      simp (config := { maxSteps := 1000000 }) (disch := first | omega | (simp only [go_sem]; omega)) only [go_sem, ↓reduceIte, e1]
end
end Go.Am
