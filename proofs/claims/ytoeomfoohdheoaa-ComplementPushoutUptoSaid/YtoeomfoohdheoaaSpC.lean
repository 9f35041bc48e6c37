/- Complements: what is deleted, dangles, is identified. -/
import Derived.Test.YtoeomfoohdheoaaSpB
namespace Go.Am
open Go
set_option linter.unusedVariables false
set_option linter.unusedSimpArgs false
attribute [local irreducible] W
/- complement.gluing.given -/
def c_complement_gluing_given_r0 (F : String → Nat) : List LI := [⟨some 1, .bx (.t 0), none⟩,
  ⟨some 2, .mov (.k (.int .i64 (0))), none⟩]
def c_complement_gluing_given_r1 (F : String → Nat) : List LI := [⟨some 4, .fad 0 (.t 1), none⟩,
  ⟨some 5, .load true 2 (.t 4), none⟩,
  ⟨some 6, .fad 2 (.t 1), none⟩,
  ⟨some 7, .load true 2 (.t 6), none⟩,
  ⟨some 8, .fad 6 (.t 1), none⟩,
  ⟨some 9, .load true 2 (.t 8), none⟩,
  ⟨some 10, .call (F "morphism.Valid") [.t 5, .t 7, .t 9] [], none⟩,
  ⟨some 3, .mov (.t 10), none⟩]
def c_complement_gluing_given_r2 (F : String → Nat) : List LI := [⟨some 11, .mov (.t 3), none⟩,
  ⟨some 12, .bin .neq (.t 11) (.k (.int .i64 (0))), none⟩]
def c_complement_gluing_given_r3 (F : String → Nat) : List LI := [⟨some 13, .mov (.t 3), none⟩,
  ⟨some 2, .mov (.t 13), none⟩]
def c_complement_gluing_given_r4 (F : String → Nat) : List LI := [⟨some 14, .fad 0 (.t 1), none⟩,
  ⟨some 15, .load true 2 (.t 14), none⟩,
  ⟨some 16, .fad 4 (.t 1), none⟩,
  ⟨some 17, .load true 2 (.t 16), none⟩,
  ⟨some 18, .call (F "subgraph.Valid") [.t 15, .t 17] [], none⟩,
  ⟨some 2, .mov (.t 18), none⟩]
def c_complement_gluing_given (F : String → Nat) : LC := (.seq (.reg (c_complement_gluing_given_r0 F) [1]) (.seq (.seq (.reg (c_complement_gluing_given_r1 F) [1, 3]) (.seq (.reg (c_complement_gluing_given_r2 F) [1, 3, 12]) (.cond (.t 12) (.seq (.reg (c_complement_gluing_given_r3 F) [2]) .ret) .skip))) (.seq (.reg (c_complement_gluing_given_r4 F) [2]) .ret)))
def h_complement_gluing_given : Hints := ⟨[], fun _ => [], tab [(0, [1]), (1, [1, 3]), (2, [1, 3, 12]), (3, [2]), (4, [2])], tab []⟩

/- complement.gluing.deleted -/
def c_complement_gluing_deleted_r0 (F : String → Nat) : List LI := [⟨some 1, .bx (.t 0), none⟩,
  ⟨some 2, .mov (.k (.nl 1)), none⟩]
def c_complement_gluing_deleted_r1 (F : String → Nat) : List LI := [⟨some 3, .mov (.k (.nl 1)), none⟩]
def c_complement_gluing_deleted_r2 (F : String → Nat) : List LI := [⟨some 6, .fad 6 (.t 1), none⟩,
  ⟨some 7, .fad 0 (.t 6), none⟩,
  ⟨some 8, .load false 1 (.t 7), none⟩,
  ⟨some 9, .len (.t 8), none⟩,
  ⟨some 10, .mov (.k (.int .i64 (0))), none⟩]
def c_complement_gluing_deleted_r3 (F : String → Nat) : List LI := [⟨some 11, .bin .lss (.t 10) (.t 9), none⟩]
def c_complement_gluing_deleted_r4 (F : String → Nat) : List LI := [⟨some 12, .mov (.t 10), none⟩,
  ⟨some 13, .iad 1 (.t 8) (.t 10), none⟩,
  ⟨some 14, .load false 1 (.t 13), none⟩,
  ⟨some 4, .mov (.t 12), none⟩,
  ⟨some 5, .mov (.t 14), none⟩]
def c_complement_gluing_deleted_r5 (F : String → Nat) : List LI := [⟨some 15, .fad 4 (.t 1), none⟩,
  ⟨some 16, .fad 0 (.t 15), none⟩,
  ⟨some 17, .load false 1 (.t 16), none⟩,
  ⟨some 18, .mov (.t 4), none⟩,
  ⟨some 19, .call (F "slices.Contains.I") [.t 17, .t 18] [], none⟩,
  ⟨some 20, .not (.t 19), none⟩]
def c_complement_gluing_deleted_r6 (F : String → Nat) : List LI := [⟨some 21, .mov (.t 3), none⟩,
  ⟨some 22, .mov (.t 5), none⟩,
  ⟨some 23, .buildSl 1 8 (.int .i64 (0)) 1 [(0, .t 22)], none⟩,
  ⟨some 24, .app 1 8 (.t 21) (.t 23), none⟩,
  ⟨some 3, .mov (.t 24), none⟩]
def c_complement_gluing_deleted_r7 (F : String → Nat) : List LI := [⟨some 25, .bin .add (.t 10) (.k (.int .i64 (1))), none⟩,
  ⟨some 10, .mov (.t 25), none⟩]
def c_complement_gluing_deleted_b8 (F : String → Nat) : LC := (.seq (.reg (c_complement_gluing_deleted_r3 F) [1, 3, 8, 9, 10, 11]) (.seq (.cond (.t 11) .skip (.exit 0)) (.seq (.block 1 (.seq (.reg (c_complement_gluing_deleted_r4 F) [1, 3, 4, 5, 8, 9, 10]) (.seq (.reg (c_complement_gluing_deleted_r5 F) [1, 3, 5, 8, 9, 10, 20]) (.cond (.t 20) (.reg (c_complement_gluing_deleted_r6 F) [1, 3, 8, 9, 10]) .skip)))) (.reg (c_complement_gluing_deleted_r7 F) [1, 3, 8, 9, 10]))))
def c_complement_gluing_deleted_r9 (F : String → Nat) : List LI := [⟨some 26, .mov (.t 3), none⟩,
  ⟨some 2, .mov (.t 26), none⟩]
def c_complement_gluing_deleted (F : String → Nat) : LC := (.seq (.reg (c_complement_gluing_deleted_r0 F) [1]) (.seq (.reg (c_complement_gluing_deleted_r1 F) [1, 3]) (.seq (.seq (.reg (c_complement_gluing_deleted_r2 F) [1, 3, 8, 9, 10]) (.block 0 (.loop [1, 3, 8, 9, 10] (c_complement_gluing_deleted_b8 F)))) (.seq (.reg (c_complement_gluing_deleted_r9 F) [2]) .ret))))
def h_complement_gluing_deleted : Hints := ⟨[], fun _ => [], tab [(0, [1]), (1, [1, 3]), (2, [1, 3, 8, 9, 10]), (3, [1, 3, 8, 9, 10, 11]), (4, [1, 3, 4, 5, 8, 9, 10]), (5, [1, 3, 5, 8, 9, 10, 20]), (6, [1, 3, 8, 9, 10]), (7, [1, 3, 8, 9, 10]), (8, [2])], tab [(3, [1, 3, 8, 9, 10])]⟩

/- complement.gluing.dangling -/
def c_complement_gluing_dangling_r0 (F : String → Nat) : List LI := [⟨some 1, .bx (.t 0), none⟩,
  ⟨some 2, .mov (.k (.nl 1)), none⟩]
def c_complement_gluing_dangling_r1 (F : String → Nat) : List LI := [⟨some 7, .load true 8 (.t 1), none⟩,
  ⟨some 8, .call (F "complement.gluing.deleted") [.t 7] [], none⟩,
  ⟨some 3, .mov (.t 8), none⟩]
def c_complement_gluing_dangling_r2 (F : String → Nat) : List LI := [⟨some 4, .mov (.k (.nl 1)), none⟩]
def c_complement_gluing_dangling_r3 (F : String → Nat) : List LI := [⟨some 9, .fad 2 (.t 1), none⟩,
  ⟨some 10, .fad 1 (.t 9), none⟩,
  ⟨some 11, .load false 1 (.t 10), none⟩,
  ⟨some 12, .len (.t 11), none⟩,
  ⟨some 13, .mov (.k (.int .i64 (0))), none⟩]
def c_complement_gluing_dangling_r4 (F : String → Nat) : List LI := [⟨some 14, .bin .lss (.t 13) (.t 12), none⟩]
def c_complement_gluing_dangling_r5 (F : String → Nat) : List LI := [⟨some 15, .mov (.t 13), none⟩,
  ⟨some 16, .iad 3 (.t 11) (.t 13), none⟩,
  ⟨some 17, .load true 3 (.t 16), none⟩,
  ⟨some 6, .alloc [.int .i64 (0), .int .i64 (0), .int .i64 (0)], none⟩,
  ⟨some 5, .mov (.t 15), none⟩,
  ⟨none, .store 3 (.t 6) (.t 17), none⟩]
def c_complement_gluing_dangling_r6 (F : String → Nat) : List LI := [⟨some 18, .fad 6 (.t 1), none⟩,
  ⟨some 19, .fad 1 (.t 18), none⟩,
  ⟨some 20, .load false 1 (.t 19), none⟩,
  ⟨some 21, .mov (.t 5), none⟩,
  ⟨some 22, .call (F "slices.Contains.I") [.t 20, .t 21] [], none⟩,
  ⟨some 23, .not (.t 22), none⟩,
  ⟨some 24, .mov (.t 23), none⟩,
  ⟨some 25, .mov (.t 3), some (24, true)⟩,
  ⟨some 26, .fad 1 (.t 6), some (24, true)⟩,
  ⟨some 27, .load false 1 (.t 26), some (24, true)⟩,
  ⟨some 28, .call (F "slices.Contains.I") [.t 25, .t 27] [], some (24, true)⟩,
  ⟨some 29, .mov (.t 28), some (24, true)⟩,
  ⟨some 30, .mov (.t 3), some (29, false)⟩,
  ⟨some 31, .fad 2 (.t 6), some (29, false)⟩,
  ⟨some 32, .load false 1 (.t 31), some (29, false)⟩,
  ⟨some 33, .call (F "slices.Contains.I") [.t 30, .t 32] [], some (29, false)⟩,
  ⟨some 34, .pick (.t 29) (.k (.bool true)) (.t 33), some (24, true)⟩,
  ⟨some 35, .pick (.t 24) (.t 34) (.k (.bool false)), none⟩]
def c_complement_gluing_dangling_r7 (F : String → Nat) : List LI := [⟨some 36, .mov (.t 4), none⟩,
  ⟨some 37, .mov (.t 5), none⟩,
  ⟨some 38, .buildSl 1 8 (.int .i64 (0)) 1 [(0, .t 37)], none⟩,
  ⟨some 39, .app 1 8 (.t 36) (.t 38), none⟩,
  ⟨some 4, .mov (.t 39), none⟩]
def c_complement_gluing_dangling_r8 (F : String → Nat) : List LI := [⟨some 40, .bin .add (.t 13) (.k (.int .i64 (1))), none⟩,
  ⟨some 13, .mov (.t 40), none⟩]
def c_complement_gluing_dangling_b9 (F : String → Nat) : LC := (.seq (.reg (c_complement_gluing_dangling_r4 F) [1, 3, 4, 11, 12, 13, 14]) (.seq (.cond (.t 14) .skip (.exit 0)) (.seq (.block 1 (.seq (.reg (c_complement_gluing_dangling_r5 F) [1, 3, 4, 5, 6, 11, 12, 13]) (.seq (.reg (c_complement_gluing_dangling_r6 F) [1, 3, 4, 5, 11, 12, 13, 35]) (.cond (.t 35) (.reg (c_complement_gluing_dangling_r7 F) [1, 3, 4, 11, 12, 13]) .skip)))) (.reg (c_complement_gluing_dangling_r8 F) [1, 3, 4, 11, 12, 13]))))
def c_complement_gluing_dangling_r10 (F : String → Nat) : List LI := [⟨some 41, .mov (.t 4), none⟩,
  ⟨some 2, .mov (.t 41), none⟩]
def c_complement_gluing_dangling (F : String → Nat) : LC := (.seq (.reg (c_complement_gluing_dangling_r0 F) [1]) (.seq (.reg (c_complement_gluing_dangling_r1 F) [1, 3]) (.seq (.reg (c_complement_gluing_dangling_r2 F) [1, 3, 4]) (.seq (.seq (.reg (c_complement_gluing_dangling_r3 F) [1, 3, 4, 11, 12, 13]) (.block 0 (.loop [1, 3, 4, 11, 12, 13] (c_complement_gluing_dangling_b9 F)))) (.seq (.reg (c_complement_gluing_dangling_r10 F) [2]) .ret)))))
def h_complement_gluing_dangling : Hints := ⟨[], fun _ => [], tab [(0, [1]), (1, [1, 3]), (2, [1, 3, 4]), (3, [1, 3, 4, 11, 12, 13]), (4, [1, 3, 4, 11, 12, 13, 14]), (5, [1, 3, 4, 5, 6, 11, 12, 13]), (6, [1, 3, 4, 5, 11, 12, 13, 35]), (7, [1, 3, 4, 11, 12, 13]), (8, [1, 3, 4, 11, 12, 13]), (9, [2])], tab [(4, [1, 3, 4, 11, 12, 13])]⟩

/- complement.pairs -/
def c_complement_pairs_r0 (F : String → Nat) : List LI := [⟨some 4, .mov (.k (.nl 2)), none⟩]
def c_complement_pairs_r1 (F : String → Nat) : List LI := [⟨some 5, .mov (.k (.nl 2)), none⟩]
def c_complement_pairs_r2 (F : String → Nat) : List LI := [⟨some 8, .mov (.t 0), none⟩,
  ⟨some 9, .len (.t 8), none⟩,
  ⟨some 10, .mov (.k (.int .i64 (0))), none⟩]
def c_complement_pairs_r3 (F : String → Nat) : List LI := [⟨some 11, .bin .lss (.t 10) (.t 9), none⟩]
def c_complement_pairs_r4 (F : String → Nat) : List LI := [⟨some 12, .mov (.t 10), none⟩,
  ⟨some 6, .mov (.t 12), none⟩]
def c_complement_pairs_r5 (F : String → Nat) : List LI := [⟨some 13, .mov (.t 6), none⟩,
  ⟨some 14, .bin .add (.t 13) (.k (.int .i64 (1))), none⟩,
  ⟨some 7, .mov (.t 14), none⟩]
def c_complement_pairs_r6 (F : String → Nat) : List LI := [⟨some 15, .mov (.t 7), none⟩,
  ⟨some 16, .mov (.t 0), none⟩,
  ⟨some 17, .len (.t 16), none⟩,
  ⟨some 18, .bin .lss (.t 15) (.t 17), none⟩]
def c_complement_pairs_r7 (F : String → Nat) : List LI := [⟨some 21, .mov (.t 0), none⟩,
  ⟨some 22, .mov (.t 6), none⟩,
  ⟨some 23, .iad 1 (.t 21) (.t 22), none⟩,
  ⟨some 24, .load false 1 (.t 23), none⟩,
  ⟨some 25, .mov (.t 0), none⟩,
  ⟨some 26, .mov (.t 7), none⟩,
  ⟨some 27, .iad 1 (.t 25) (.t 26), none⟩,
  ⟨some 28, .load false 1 (.t 27), none⟩,
  ⟨some 29, .bin .eql (.t 24) (.t 28), none⟩,
  ⟨some 30, .mov (.t 29), none⟩,
  ⟨some 31, .mov (.t 1), some (30, true)⟩,
  ⟨some 32, .mov (.t 6), some (30, true)⟩,
  ⟨some 33, .call (F "slices.Contains.I") [.t 31, .t 32] [], some (30, true)⟩,
  ⟨some 34, .not (.t 33), some (30, true)⟩,
  ⟨some 35, .mov (.t 34), some (30, true)⟩,
  ⟨some 36, .mov (.t 1), some (35, false)⟩,
  ⟨some 37, .mov (.t 7), some (35, false)⟩,
  ⟨some 38, .call (F "slices.Contains.I") [.t 36, .t 37] [], some (35, false)⟩,
  ⟨some 39, .not (.t 38), some (35, false)⟩,
  ⟨some 40, .pick (.t 35) (.k (.bool true)) (.t 39), some (30, true)⟩,
  ⟨some 41, .pick (.t 30) (.t 40) (.k (.bool false)), none⟩]
def c_complement_pairs_r8 (F : String → Nat) : List LI := [⟨some 42, .mov (.t 5), none⟩,
  ⟨some 43, .mov (.t 6), none⟩,
  ⟨some 44, .mov (.t 7), none⟩,
  ⟨some 45, .build [.int .i64 (0), .int .i64 (0)] [(0, 1, .t 43), (1, 1, .t 44)], none⟩,
  ⟨some 46, .buildSl 2 16 (.agg [.int .i64 (0), .int .i64 (0)]) 1 [(0, .t 45)], none⟩,
  ⟨some 47, .app 2 16 (.t 42) (.t 46), none⟩,
  ⟨some 5, .mov (.t 47), none⟩]
def c_complement_pairs_r9 (F : String → Nat) : List LI := [⟨some 19, .mov (.t 7), none⟩,
  ⟨some 20, .bin .add (.t 19) (.k (.int .i64 (1))), none⟩,
  ⟨some 7, .mov (.t 20), none⟩]
def c_complement_pairs_b10 (F : String → Nat) : LC := (.seq (.seq (.reg (c_complement_pairs_r6 F) [0, 1, 5, 6, 7, 9, 10, 18]) (.cond (.t 18) .skip (.exit 2))) (.seq (.block 3 (.seq (.dreg [] (c_complement_pairs_r7 F) [0, 1, 5, 6, 7, 9, 10, 41]) (.cond (.t 41) (.reg (c_complement_pairs_r8 F) [0, 1, 5, 6, 7, 9, 10]) .skip))) (.reg (c_complement_pairs_r9 F) [0, 1, 5, 6, 7, 9, 10])))
def c_complement_pairs_r11 (F : String → Nat) : List LI := [⟨some 48, .bin .add (.t 10) (.k (.int .i64 (1))), none⟩,
  ⟨some 10, .mov (.t 48), none⟩]
def c_complement_pairs_b12 (F : String → Nat) : LC := (.seq (.reg (c_complement_pairs_r3 F) [0, 1, 5, 9, 10, 11]) (.seq (.cond (.t 11) .skip (.exit 0)) (.seq (.block 1 (.seq (.reg (c_complement_pairs_r4 F) [0, 1, 5, 6, 9, 10]) (.seq (.reg (c_complement_pairs_r5 F) [0, 1, 5, 6, 7, 9, 10]) (.block 2 (.loop [0, 1, 5, 6, 7, 9, 10] (c_complement_pairs_b10 F)))))) (.reg (c_complement_pairs_r11 F) [0, 1, 5, 9, 10]))))
def c_complement_pairs_r13 (F : String → Nat) : List LI := [⟨some 49, .mov (.t 5), none⟩,
  ⟨some 4, .mov (.t 49), none⟩]
def c_complement_pairs (F : String → Nat) : LC := (.seq (.reg (c_complement_pairs_r0 F) [0, 1]) (.seq (.reg (c_complement_pairs_r1 F) [0, 1, 5]) (.seq (.seq (.reg (c_complement_pairs_r2 F) [0, 1, 5, 9, 10]) (.block 0 (.loop [0, 1, 5, 9, 10] (c_complement_pairs_b12 F)))) (.seq (.reg (c_complement_pairs_r13 F) [4]) .ret))))
def h_complement_pairs : Hints := ⟨[], fun _ => [], tab [(0, [0, 1]), (1, [0, 1, 5]), (2, [0, 1, 5, 9, 10]), (3, [0, 1, 5, 9, 10, 11]), (4, [0, 1, 5, 6, 9, 10]), (5, [0, 1, 5, 6, 7, 9, 10]), (6, [0, 1, 5, 6, 7, 9, 10, 18]), (7, [0, 1, 5, 6, 7, 9, 10]), (8, [0, 1, 5, 6, 7, 9, 10, 41]), (9, [0, 1, 5, 6, 7, 9, 10]), (10, [0, 1, 5, 9, 10]), (11, [4])], tab [(3, [0, 1, 5, 9, 10]), (6, [0, 1, 5, 6, 7, 9, 10])]⟩

/- complement.gluing.identified -/
def c_complement_gluing_identified_r0 (F : String → Nat) : List LI := [⟨some 1, .bx (.t 0), none⟩,
  ⟨some 2, .mov (.k (.nl 2)), none⟩,
  ⟨some 3, .mov (.k (.nl 2)), none⟩]
def c_complement_gluing_identified_r1 (F : String → Nat) : List LI := [⟨some 4, .fad 6 (.t 1), none⟩,
  ⟨some 5, .fad 0 (.t 4), none⟩,
  ⟨some 6, .load false 1 (.t 5), none⟩,
  ⟨some 7, .fad 4 (.t 1), none⟩,
  ⟨some 8, .fad 0 (.t 7), none⟩,
  ⟨some 9, .load false 1 (.t 8), none⟩,
  ⟨some 10, .call (F "complement.pairs") [.t 6, .t 9] [], none⟩,
  ⟨some 11, .fad 6 (.t 1), none⟩,
  ⟨some 12, .fad 1 (.t 11), none⟩,
  ⟨some 13, .load false 1 (.t 12), none⟩,
  ⟨some 14, .fad 4 (.t 1), none⟩,
  ⟨some 15, .fad 1 (.t 14), none⟩,
  ⟨some 16, .load false 1 (.t 15), none⟩,
  ⟨some 17, .call (F "complement.pairs") [.t 13, .t 16] [], none⟩,
  ⟨some 2, .mov (.t 10), none⟩,
  ⟨some 3, .mov (.t 17), none⟩]
def c_complement_gluing_identified (F : String → Nat) : LC := (.seq (.reg (c_complement_gluing_identified_r0 F) [1]) (.seq (.dreg [(6, none, [], true), (9, (some 384), [6], false), (12, (some 3072), [6], false)] (c_complement_gluing_identified_r1 F) [2, 3]) .ret))
def h_complement_gluing_identified : Hints := ⟨[], fun _ => [], tab [(0, [1]), (1, [2, 3])], tab []⟩

/- complement.rest -/
def c_complement_rest_r0 (F : String → Nat) : List LI := [⟨some 6, .mov (.k (.nl 1)), none⟩]
def c_complement_rest_r1 (F : String → Nat) : List LI := [⟨some 13, .mov (.t 0), none⟩,
  ⟨some 14, .makeSl 1 1 (.bool false) (.t 13), none⟩,
  ⟨some 7, .mov (.t 14), none⟩]
def c_complement_rest_r2 (F : String → Nat) : List LI := [⟨some 15, .mov (.t 1), none⟩,
  ⟨some 16, .len (.t 15), none⟩,
  ⟨some 17, .mov (.k (.int .i64 (0))), none⟩]
def c_complement_rest_r3 (F : String → Nat) : List LI := [⟨some 18, .bin .lss (.t 17) (.t 16), none⟩]
def c_complement_rest_r4 (F : String → Nat) : List LI := [⟨some 19, .mov (.t 17), none⟩,
  ⟨some 20, .iad 1 (.t 15) (.t 17), none⟩,
  ⟨some 21, .load false 1 (.t 20), none⟩,
  ⟨some 8, .mov (.t 19), none⟩,
  ⟨some 9, .mov (.t 21), none⟩]
def c_complement_rest_r5 (F : String → Nat) : List LI := [⟨some 22, .mov (.t 2), none⟩,
  ⟨some 23, .mov (.t 8), none⟩,
  ⟨some 24, .call (F "slices.Contains.I") [.t 22, .t 23] [], none⟩,
  ⟨some 25, .not (.t 24), none⟩]
def c_complement_rest_r6 (F : String → Nat) : List LI := [⟨some 26, .mov (.t 7), none⟩,
  ⟨some 27, .mov (.t 9), none⟩,
  ⟨some 28, .iad 1 (.t 26) (.t 27), none⟩,
  ⟨none, .store 1 (.t 28) (.k (.bool true)), none⟩]
def c_complement_rest_r7 (F : String → Nat) : List LI := [⟨some 29, .bin .add (.t 17) (.k (.int .i64 (1))), none⟩,
  ⟨some 17, .mov (.t 29), none⟩]
def c_complement_rest_b8 (F : String → Nat) : LC := (.seq (.reg (c_complement_rest_r3 F) [2, 7, 15, 16, 17, 18]) (.seq (.cond (.t 18) .skip (.exit 0)) (.seq (.block 1 (.seq (.reg (c_complement_rest_r4 F) [2, 7, 8, 9, 15, 16, 17]) (.seq (.reg (c_complement_rest_r5 F) [2, 7, 9, 15, 16, 17, 25]) (.cond (.t 25) (.reg (c_complement_rest_r6 F) [2, 7, 15, 16, 17]) .skip)))) (.reg (c_complement_rest_r7 F) [2, 7, 15, 16, 17]))))
def c_complement_rest_r9 (F : String → Nat) : List LI := [⟨some 10, .mov (.k (.nl 1)), none⟩]
def c_complement_rest_r10 (F : String → Nat) : List LI := [⟨some 30, .mov (.t 7), none⟩,
  ⟨some 31, .len (.t 30), none⟩,
  ⟨some 32, .mov (.k (.int .i64 (0))), none⟩]
def c_complement_rest_r11 (F : String → Nat) : List LI := [⟨some 33, .bin .lss (.t 32) (.t 31), none⟩]
def c_complement_rest_r12 (F : String → Nat) : List LI := [⟨some 34, .mov (.t 32), none⟩,
  ⟨some 35, .iad 1 (.t 30) (.t 32), none⟩,
  ⟨some 36, .load false 1 (.t 35), none⟩,
  ⟨some 11, .mov (.t 34), none⟩,
  ⟨some 12, .mov (.t 36), none⟩]
def c_complement_rest_r13 (F : String → Nat) : List LI := [⟨some 37, .mov (.t 12), none⟩,
  ⟨some 38, .not (.t 37), none⟩]
def c_complement_rest_r14 (F : String → Nat) : List LI := [⟨some 39, .mov (.t 10), none⟩,
  ⟨some 40, .mov (.t 11), none⟩,
  ⟨some 41, .buildSl 1 8 (.int .i64 (0)) 1 [(0, .t 40)], none⟩,
  ⟨some 42, .app 1 8 (.t 39) (.t 41), none⟩,
  ⟨some 10, .mov (.t 42), none⟩]
def c_complement_rest_r15 (F : String → Nat) : List LI := [⟨some 43, .bin .add (.t 32) (.k (.int .i64 (1))), none⟩,
  ⟨some 32, .mov (.t 43), none⟩]
def c_complement_rest_b16 (F : String → Nat) : LC := (.seq (.reg (c_complement_rest_r11 F) [10, 30, 31, 32, 33]) (.seq (.cond (.t 33) .skip (.exit 2)) (.seq (.block 3 (.seq (.reg (c_complement_rest_r12 F) [10, 11, 12, 30, 31, 32]) (.seq (.reg (c_complement_rest_r13 F) [10, 11, 30, 31, 32, 38]) (.cond (.t 38) (.reg (c_complement_rest_r14 F) [10, 30, 31, 32]) .skip)))) (.reg (c_complement_rest_r15 F) [10, 30, 31, 32]))))
def c_complement_rest_r17 (F : String → Nat) : List LI := [⟨some 44, .mov (.t 10), none⟩,
  ⟨some 6, .mov (.t 44), none⟩]
def c_complement_rest (F : String → Nat) : LC := (.seq (.reg (c_complement_rest_r0 F) [0, 1, 2]) (.seq (.reg (c_complement_rest_r1 F) [1, 2, 7]) (.seq (.seq (.reg (c_complement_rest_r2 F) [2, 7, 15, 16, 17]) (.block 0 (.loop [2, 7, 15, 16, 17] (c_complement_rest_b8 F)))) (.seq (.reg (c_complement_rest_r9 F) [7, 10]) (.seq (.seq (.reg (c_complement_rest_r10 F) [10, 30, 31, 32]) (.block 2 (.loop [10, 30, 31, 32] (c_complement_rest_b16 F)))) (.seq (.reg (c_complement_rest_r17 F) [6]) .ret))))))
def h_complement_rest : Hints := ⟨[], fun _ => [], tab [(0, [0, 1, 2]), (1, [1, 2, 7]), (2, [2, 7, 15, 16, 17]), (3, [2, 7, 15, 16, 17, 18]), (4, [2, 7, 8, 9, 15, 16, 17]), (5, [2, 7, 9, 15, 16, 17, 25]), (6, [2, 7, 15, 16, 17]), (7, [2, 7, 15, 16, 17]), (8, [7, 10]), (9, [10, 30, 31, 32]), (10, [10, 30, 31, 32, 33]), (11, [10, 11, 12, 30, 31, 32]), (12, [10, 11, 30, 31, 32, 38]), (13, [10, 30, 31, 32]), (14, [10, 30, 31, 32]), (15, [6])], tab [(3, [2, 7, 15, 16, 17]), (10, [10, 30, 31, 32])]⟩

attribute [go_sem] c_complement_gluing_given_r0 c_complement_gluing_given_r1 c_complement_gluing_given_r2 c_complement_gluing_given_r3 c_complement_gluing_given_r4 c_complement_gluing_given c_complement_gluing_deleted_r0 c_complement_gluing_deleted_r1 c_complement_gluing_deleted_r2 c_complement_gluing_deleted_r3 c_complement_gluing_deleted_r4 c_complement_gluing_deleted_r5 c_complement_gluing_deleted_r6 c_complement_gluing_deleted_r7 c_complement_gluing_deleted_r9 c_complement_gluing_deleted c_complement_gluing_dangling_r0 c_complement_gluing_dangling_r1 c_complement_gluing_dangling_r2 c_complement_gluing_dangling_r3 c_complement_gluing_dangling_r4 c_complement_gluing_dangling_r5 c_complement_gluing_dangling_r6 c_complement_gluing_dangling_r7 c_complement_gluing_dangling_r8 c_complement_gluing_dangling_r10 c_complement_gluing_dangling c_complement_pairs_r0 c_complement_pairs_r1 c_complement_pairs_r2 c_complement_pairs_r3 c_complement_pairs_r4 c_complement_pairs_r5 c_complement_pairs_r6 c_complement_pairs_r7 c_complement_pairs_r8 c_complement_pairs_r9 c_complement_pairs_r11 c_complement_pairs_r13 c_complement_pairs c_complement_gluing_identified_r0 c_complement_gluing_identified_r1 c_complement_gluing_identified c_complement_rest_r0 c_complement_rest_r1 c_complement_rest_r2 c_complement_rest_r3 c_complement_rest_r4 c_complement_rest_r5 c_complement_rest_r6 c_complement_rest_r7 c_complement_rest_r9 c_complement_rest_r10 c_complement_rest_r11 c_complement_rest_r12 c_complement_rest_r13 c_complement_rest_r14 c_complement_rest_r15 c_complement_rest_r17 c_complement_rest
/-- A case: a graph with a part, and a morphism from it. -/
structure Cx where
  l : G
  g : G
  k : Mo
  m : Mo
  deriving DecidableEq, Inhabited
def cxD (x : Cx) : D := .agg [.lst 1 (ints x.l.n), .lst 3 (eds x.l.e), .lst 1 (ints x.g.n), .lst 3 (eds x.g.e), .lst 1 (ints x.k.n), .lst 1 (ints x.k.e), .lst 1 (ints x.m.n), .lst 1 (ints x.m.e)]
def cxE (x : Cx) : Int := if validM x.l x.g x.m ≠ 0 then validM x.l x.g x.m else validP x.l x.k
/-- The images of what is not kept. -/
def goneI (im keep : List Int) : Nat → List Int
  | 0 => []
  | i + 1 => if (i : Int) ∈ keep then goneI im keep i else goneI im keep i ++ [gt im i]
def goneL (im keep : List Int) : List Int := goneI im keep im.length
def danE (g : G) (gone me : List Int) (i : Nat) : Bool := !decide ((i : Int) ∈ me) && (decide ((gt g.e i).f ∈ gone) || decide ((gt g.e i).o ∈ gone))
def danL (g : G) (gone me : List Int) : List Int := sel (danE g gone me) g.e.length
def idP (im keep : List Int) (i k : Nat) : Bool := decide (gt im i = gt im k) && (!decide ((i : Int) ∈ keep) || !decide ((k : Int) ∈ keep))
def idR (im keep : List Int) (i : Nat) : Nat → List Pr
  | 0 => []
  | k + 1 => if i < k ∧ idP im keep i k = true then idR im keep i k ++ [⟨i, k⟩] else idR im keep i k
def idA (im keep : List Int) : Nat → List Pr
  | 0 => []
  | i + 1 => idA im keep i ++ idR im keep i im.length
def idL (im keep : List Int) : List Pr := idA im keep im.length
def restL (n : Nat) (gone : List Int) : List Int := sel (fun i : Nat => !decide ((i : Int) ∈ gone)) n
def cxDan (x : Cx) : List Int := danL x.g (goneL x.m.n x.k.n) x.m.e
section
variable (P : Program) (F : String → Nat)
def Cx.sm (x : Cx) : Prop := x.k.n.length ≤ maxL ∧ x.k.e.length ≤ maxL
def K_complement_gluing_given : Prop := ∀ x : Cx, x.sm → FC P (F "complement.gluing.given") [cxD x] (.int .i64 (cxE x)) []
def K_complement_gluing_deleted : Prop := ∀ x : Cx, x.m.n.length ≤ 1000 → x.k.n.length ≤ maxL → FC P (F "complement.gluing.deleted") [cxD x] (.arr 1 (ints (goneL x.m.n x.k.n))) []
def K_complement_gluing_dangling : Prop := ∀ x : Cx, cxE x = 0 → FC P (F "complement.gluing.dangling") [cxD x] (.arr 1 (ints (cxDan x))) []
def K_complement_pairs : Prop := ∀ im keep : List Int, im.length ≤ 1000 → keep.length ≤ maxL → FC P (F "complement.pairs") [.lst 1 (ints im), .lst 1 (ints keep)] (.arr 2 (prs (idL im keep))) []
def K_complement_gluing_identified : Prop := ∀ x : Cx, cxE x = 0 → FC P (F "complement.gluing.identified") [cxD x] (.tup [.arr 2 (prs (idL x.m.n x.k.n)), .arr 2 (prs (idL x.m.e x.k.e))]) []
def K_complement_rest : Prop := ∀ (n : Nat) (im keep : List Int), n ≤ 1000 → im.length ≤ 1000 → keep.length ≤ maxL → (∀ v ∈ im, 0 ≤ v ∧ v < n) → FC P (F "complement.rest") [.int .i64 n, .lst 1 (ints im), .lst 1 (ints keep)] (.arr 1 (ints (restL n (goneL im keep)))) []
end
section
variable {P : Program} {F : String → Nat} {α : Type}
theorem goneI_len (im keep : List Int) : ∀ i, (goneI im keep i).length ≤ i
  | 0 => by simp [goneI]
  | i + 1 => by rw [goneI]; have := goneI_len im keep i; split <;> simp <;> omega
theorem goneI_mem {im keep : List Int} {x : Int} : ∀ {n : Nat}, x ∈ goneI im keep n ↔ ∃ i : Nat, i < n ∧ ¬ (i : Int) ∈ keep ∧ gt im i = x
  | 0 => by simp [goneI]
  | n + 1 => by
    rw [goneI]
    have ih := goneI_mem (im := im) (keep := keep) (x := x) (n := n)
    split
    · rename_i h
      rw [ih]
      constructor
      · rintro ⟨i, h1, h2⟩; exact ⟨i, by omega, h2⟩
      · rintro ⟨i, h1, h2, h3⟩
        refine ⟨i, ?_, h2, h3⟩
        by_cases e : i = n
        · subst e; exact absurd h h2
        · omega
    · rename_i h
      rw [List.mem_append, ih, List.mem_singleton]
      constructor
      · rintro (⟨i, h1, h2⟩ | rfl)
        · exact ⟨i, by omega, h2⟩
        · exact ⟨n, by omega, h, rfl⟩
      · rintro ⟨i, h1, h2, h3⟩
        by_cases e : i = n
        · subst e; exact .inr h3.symm
        · exact .inl ⟨i, by omega, h2, h3⟩
theorem goneL_mem {im keep : List Int} {x : Int} : x ∈ goneL im keep ↔ ∃ i : Nat, i < im.length ∧ ¬ (i : Int) ∈ keep ∧ gt im i = x := goneI_mem
theorem idR_low (im keep : List Int) (i : Nat) : ∀ k, k ≤ i + 1 → idR im keep i k = []
  | 0, _ => rfl
  | k + 1, h => by rw [idR, if_neg (fun h' => by omega)]; exact idR_low im keep i k (by omega)
theorem idR_len (im keep : List Int) (i : Nat) : ∀ k, (idR im keep i k).length ≤ k
  | 0 => by simp [idR]
  | k + 1 => by rw [idR]; have := idR_len im keep i k; split <;> simp <;> omega
theorem idA_len (im keep : List Int) : ∀ i, (idA im keep i).length ≤ i * im.length
  | 0 => by simp [idA]
  | i + 1 => by
    rw [idA, List.length_append]
    have := idA_len im keep i
    have := idR_len im keep i im.length
    have e : (i + 1) * im.length = i * im.length + im.length := by rw [Nat.add_mul]; omega
    omega
theorem idA_bd {im keep : List Int} (h : im.length ≤ 1000) {i : Nat} (hi : i ≤ im.length) : (idA im keep i).length ≤ 1000000 := by
  have := idA_len im keep i
  have : i * im.length ≤ 1000 * 1000 := Nat.mul_le_mul (by omega) h
  omega
theorem w_complement_gluing_given (hv : K_morphism_Valid P F) (hp : K_subgraph_Valid P F) (x : Cx) (hs : x.sm) : W P (c_complement_gluing_given F) (Done [.t 2] [] (.int .i64 (cxE x)) []) (init [cxD x]) := by
  refine W_of ?_
  have r1 := hv x.l x.g x.m
  have r2 := hp x.l x.k hs.1 hs.2
  have hE : cxE x = if validM x.l x.g x.m ≠ 0 then validM x.l x.g x.m else validP x.l x.k := rfl
  rw [hE]
  generalize validM x.l x.g x.m = u at *
  generalize validP x.l x.k = v at *
  simp only [gD, mD, cxD] at *
  simp (config := { maxSteps := 1000000 }) (disch := first | omega | (simp only [go_sem]; omega)) only [go_sem, ↓reduceIte]
  refine call_by r1 ?_
  simp (config := { maxSteps := 1000000 }) (disch := first | omega | (simp only [go_sem]; omega)) only [go_sem, ↓reduceIte]
  refine bran_ndec (fun c => ?_) (fun c => ?_)
  · simp (config := { maxSteps := 1000000 }) (disch := first | omega | (simp only [go_sem]; omega)) only [go_sem, ↓reduceIte]
    try simp [c]
  · subst c
    simp (config := { maxSteps := 1000000 }) (disch := first | omega | (simp only [go_sem]; omega)) only [go_sem, ↓reduceIte]
    refine call_by r2 ?_
    simp (config := { maxSteps := 1000000 }) (disch := first | omega | (simp only [go_sem]; omega)) only [go_sem, ↓reduceIte]
    try simp
theorem w_complement_gluing_deleted (hc : K_slices_Contains_I P F) (x : Cx) (h1 : x.m.n.length ≤ 1000) (h2 : x.k.n.length ≤ maxL) : W P (c_complement_gluing_deleted F) (Done [.t 2] [] (.arr 1 (ints (goneL x.m.n x.k.n))) []) (init [cxD x]) := by
  refine W_of ?_
  obtain ⟨⟨ln, le⟩, ⟨gn, ge⟩, ⟨kn, ke⟩, ⟨mn, me⟩⟩ := x
  simp only at h1 h2
  have hl := goneI_len mn kn
  have h0 : goneI mn kn 0 = [] := rfl
  simp only [cxD]
  simp (config := { maxSteps := 1000000 }) (disch := first | omega | (simp only [go_sem]; omega)) only [go_sem, ↓reduceIte]
  refine W_loop (fun i : Nat => ⟨[(1, .pt 0 0), (3, .sl 1 0 (goneI mn kn i).length), (8, .lst 1 (ints mn)), (9, .int .i64 mn.length), (10, .int .i64 i)],
    [(0, .box [.lst 1 (ints ln), .lst 3 (eds le), .lst 1 (ints gn), .lst 3 (eds ge), .lst 1 (ints kn), .lst 1 (ints ke), .lst 1 (ints mn), .lst 1 (ints me)]), (1, .arr 1 (ints (goneI mn kn i)))], 2⟩) (fun i => i ≤ mn.length) (fun i => mn.length - i) 0 ?_ ?_ ?_
  · simp (config := { maxSteps := 1000000 }) (disch := first | omega | (simp only [go_sem]; omega)) only [go_sem, ↓reduceIte, h0, ints_nil]
    rfl
  · simp
  · intro i hi
    have hli := hl i
    by_cases c : i < mn.length
    · have g1 : decide ((i : Int) < mn.length) = true := decide_eq_true (by omega)
      have r := hc kn i h2
      have hs : goneI mn kn (i + 1) = if (i : Int) ∈ kn then goneI mn kn i else goneI mn kn i ++ [gt mn i] := rfl
      by_cases d : (i : Int) ∈ kn
      · rw [if_pos d] at hs
        rw [decide_eq_true d] at r
        simp (config := { maxSteps := 1000000 }) (disch := first | omega | (simp only [go_sem]; omega)) only [go_sem, ↓reduceIte, c_complement_gluing_deleted_b8, g1]
        refine call_by r ?_
        simp (config := { maxSteps := 1000000 }) (disch := first | omega | (simp only [go_sem]; omega)) only [go_sem, ↓reduceIte]
        exact ⟨i + 1, by simp [hs], by omega, by omega⟩
      · rw [if_neg d] at hs
        rw [decide_eq_false d] at r
        simp (config := { maxSteps := 1000000 }) (disch := first | omega | (simp only [go_sem]; omega)) only [go_sem, ↓reduceIte, c_complement_gluing_deleted_b8, g1]
        refine call_by r ?_
        simp (config := { maxSteps := 1000000 }) (disch := first | omega | (simp only [go_sem]; omega)) only [go_sem, ↓reduceIte]
        exact ⟨i + 1, by simp [hs], by omega, by omega⟩
    · have g1 : decide ((i : Int) < mn.length) = false := decide_eq_false (by omega)
      obtain rfl : i = mn.length := by omega
      simp (config := { maxSteps := 1000000 }) (disch := first | omega | (simp only [go_sem]; omega)) only [go_sem, ↓reduceIte, c_complement_gluing_deleted_b8, g1]
      rfl
theorem cx_len {x : Cx} (h : cxE x = 0) : MOk x.l x.g x.m ∧ PK x.l x.k := by
  unfold cxE at h
  split at h
  · rename_i e; exact absurd h e
  · rename_i e; exact ⟨mok.1 (Decidable.not_not.1 e), validP_ok.1 h⟩
theorem goneL_len (im keep : List Int) : (goneL im keep).length ≤ im.length := goneI_len _ _ _
set_option maxHeartbeats 1000000 in
theorem w_complement_gluing_dangling (hd : K_complement_gluing_deleted P F) (hc : K_slices_Contains_I P F) (x : Cx) (he : cxE x = 0) : W P (c_complement_gluing_dangling F) (Done [.t 2] [] (.arr 1 (ints (cxDan x))) []) (init [cxD x]) := by
  refine W_of ?_
  obtain ⟨hm, hk⟩ := cx_len he
  have vl := valid_spec hm.va
  have vg := valid_spec hm.vb
  have l1 := hm.ln
  have l2 := hm.le
  have l3 := hk.len
  have r1 := hd x (by omega) (by unfold maxL; omega)
  have gl := goneL_len x.m.n x.k.n
  have cM := fun i => hc x.m.e i (by unfold maxL; omega)
  have cG := fun i => hc (goneL x.m.n x.k.n) i (by unfold maxL; omega)
  have hD : cxDan x = sel (danE x.g (goneL x.m.n x.k.n) x.m.e) x.g.e.length := rfl
  have hE : ∀ i, danE x.g (goneL x.m.n x.k.n) x.m.e i = (!decide ((i : Int) ∈ x.m.e) && (decide ((gt x.g.e i).f ∈ goneL x.m.n x.k.n) || decide ((gt x.g.e i).o ∈ goneL x.m.n x.k.n))) := fun i => rfl
  have sl := sel_len (danE x.g (goneL x.m.n x.k.n) x.m.e)
  have ss := sel_succ (danE x.g (goneL x.m.n x.k.n) x.m.e)
  have s0 := sel_zero (danE x.g (goneL x.m.n x.k.n) x.m.e)
  rw [hD]
  clear hm hk he hD vl
  generalize danE x.g (goneL x.m.n x.k.n) x.m.e = de at *
  generalize goneL x.m.n x.k.n = gone at *
  obtain ⟨⟨ln, le⟩, ⟨gn, ge⟩, ⟨kn, ke⟩, ⟨mn, me⟩⟩ := x
  simp only [cxD] at *
  simp (config := { maxSteps := 1000000 }) (disch := first | omega | (simp only [go_sem]; omega)) only [go_sem, ↓reduceIte]
  refine call_by r1 ?_
  simp (config := { maxSteps := 1000000 }) (disch := first | omega | (simp only [go_sem]; omega)) only [go_sem, ↓reduceIte]
  refine W_loop (fun i : Nat => ⟨[(1, .pt 0 0), (3, .sl 1 0 gone.length), (4, .sl 2 0 (sel de i).length), (11, .lst 3 (eds ge)), (12, .int .i64 ge.length), (13, .int .i64 i)],
    [(0, .box [.lst 1 (ints ln), .lst 3 (eds le), .lst 1 (ints gn), .lst 3 (eds ge), .lst 1 (ints kn), .lst 1 (ints ke), .lst 1 (ints mn), .lst 1 (ints me)]), (1, .arr 1 (ints gone)), (2, .arr 1 (ints (sel de i)))], 3⟩) (fun i => i ≤ ge.length) (fun i => ge.length - i) 0 ?_ ?_ ?_
  · simp (config := { maxSteps := 1000000 }) (disch := first | omega | (simp only [go_sem]; omega)) only [go_sem, ↓reduceIte, s0, ints_nil]
    rfl
  · simp
  · intro i hi
    have sli := sl i
    by_cases c : i < ge.length
    · have g1 : decide ((i : Int) < ge.length) = true := decide_eq_true (by omega)
      have c1 := cM i
      have c2 := cG (gt ge i).f
      have c3 := cG (gt ge i).o
      have hs := ss i
      rw [hE] at hs
      try simp only at hs
      generalize decide ((i : Int) ∈ me) = b1 at *
      generalize decide ((gt ge i).f ∈ gone) = b2 at *
      generalize decide ((gt ge i).o ∈ gone) = b3 at *
      cases b1
      · cases b2
        · cases b3
          · simp (config := { maxSteps := 1000000 }) (disch := first | omega | (simp only [go_sem]; omega)) only [go_sem, ↓reduceIte, c_complement_gluing_dangling_b9, g1]
            refine call_by c1 ?_
            simp (config := { maxSteps := 1000000 }) (disch := first | omega | (simp only [go_sem]; omega)) only [go_sem, ↓reduceIte]
            refine call_by c2 ?_
            simp (config := { maxSteps := 1000000 }) (disch := first | omega | (simp only [go_sem]; omega)) only [go_sem, ↓reduceIte]
            refine call_by c3 ?_
            simp (config := { maxSteps := 1000000 }) (disch := first | omega | (simp only [go_sem]; omega)) only [go_sem, ↓reduceIte]
            exact ⟨i + 1, by simp [hs], by omega, by omega⟩
          · simp (config := { maxSteps := 1000000 }) (disch := first | omega | (simp only [go_sem]; omega)) only [go_sem, ↓reduceIte, c_complement_gluing_dangling_b9, g1]
            refine call_by c1 ?_
            simp (config := { maxSteps := 1000000 }) (disch := first | omega | (simp only [go_sem]; omega)) only [go_sem, ↓reduceIte]
            refine call_by c2 ?_
            simp (config := { maxSteps := 1000000 }) (disch := first | omega | (simp only [go_sem]; omega)) only [go_sem, ↓reduceIte]
            refine call_by c3 ?_
            simp (config := { maxSteps := 1000000 }) (disch := first | omega | (simp only [go_sem]; omega)) only [go_sem, ↓reduceIte]
            exact ⟨i + 1, by simp [hs], by omega, by omega⟩
        · simp (config := { maxSteps := 1000000 }) (disch := first | omega | (simp only [go_sem]; omega)) only [go_sem, ↓reduceIte, c_complement_gluing_dangling_b9, g1]
          refine call_by c1 ?_
          simp (config := { maxSteps := 1000000 }) (disch := first | omega | (simp only [go_sem]; omega)) only [go_sem, ↓reduceIte]
          refine call_by c2 ?_
          simp (config := { maxSteps := 1000000 }) (disch := first | omega | (simp only [go_sem]; omega)) only [go_sem, ↓reduceIte]
          exact ⟨i + 1, by simp [hs], by omega, by omega⟩
      · simp (config := { maxSteps := 1000000 }) (disch := first | omega | (simp only [go_sem]; omega)) only [go_sem, ↓reduceIte, c_complement_gluing_dangling_b9, g1]
        refine call_by c1 ?_
        simp (config := { maxSteps := 1000000 }) (disch := first | omega | (simp only [go_sem]; omega)) only [go_sem, ↓reduceIte]
        exact ⟨i + 1, by simp [hs], by omega, by omega⟩
    · have g1 : decide ((i : Int) < ge.length) = false := decide_eq_false (by omega)
      obtain rfl : i = ge.length := by omega
      simp (config := { maxSteps := 1000000 }) (disch := first | omega | (simp only [go_sem]; omega)) only [go_sem, ↓reduceIte, c_complement_gluing_dangling_b9, g1]
      try rfl
set_option maxHeartbeats 1000000 in
theorem w_complement_pairs (hc : K_slices_Contains_I P F) (im kn : List Int) (h1 : im.length ≤ 1000) (h2 : kn.length ≤ maxL) : W P (c_complement_pairs F) (Done [.t 4] [] (.arr 2 (prs (idL im kn))) []) (init [.lst 1 (ints im), .lst 1 (ints kn)]) := by
  refine W_of ?_
  have hA : ∀ i : Nat, i ≤ im.length → (idA im kn i).length ≤ 1000000 := fun i hi => idA_bd h1 hi
  have hR := idR_len im kn
  have a0 : idA im kn 0 = [] := rfl
  have aS : ∀ i, idA im kn (i + 1) = idA im kn i ++ idR im kn i im.length := fun i => rfl
  have rS : ∀ i k, idR im kn i (k + 1) = if i < k ∧ idP im kn i k = true then idR im kn i k ++ [⟨i, k⟩] else idR im kn i k := fun i k => rfl
  have r0 : ∀ i, idR im kn i (i + 1) = [] := fun i => idR_low im kn i (i + 1) (Nat.le_refl _)
  have hP : ∀ i k, idP im kn i k = (decide (gt im i = gt im k) && (!decide ((i : Int) ∈ kn) || !decide ((k : Int) ∈ kn))) := fun i k => rfl
  have hL : idL im kn = idA im kn im.length := rfl
  rw [hL]
  clear hL
  generalize idA im kn = A at *
  generalize idR im kn = R at *
  generalize idP im kn = Q at *
  simp (config := { maxSteps := 1000000 }) (disch := first | omega | (simp only [go_sem]; omega)) only [go_sem, ↓reduceIte]
  refine W_loop (fun i : Nat => ⟨[(0, .lst 1 (ints im)), (1, .lst 1 (ints kn)), (5, .sl 0 0 (A i).length), (9, .int .i64 im.length), (10, .int .i64 i)], [(0, .arr 2 (prs (A i)))], 1⟩) (fun i => i ≤ im.length) (fun i => im.length - i) 0 ?_ ?_ ?_
  · simp (config := { maxSteps := 1000000 }) (disch := first | omega | (simp only [go_sem]; omega)) only [go_sem, ↓reduceIte, a0, prs_nil]
    rfl
  · simp
  · intro i hi
    have hAi := hA i hi
    by_cases c : i < im.length
    · have g1 : decide ((i : Int) < im.length) = true := decide_eq_true (by omega)
      simp (config := { maxSteps := 1000000 }) (disch := first | omega | (simp only [go_sem]; omega)) only [go_sem, ↓reduceIte, c_complement_pairs_b12, g1]
      refine W_loop (fun k : Nat => ⟨[(0, .lst 1 (ints im)), (1, .lst 1 (ints kn)), (5, .sl 0 0 ((A i).length + (R i k).length)), (6, .int .i64 i), (7, .int .i64 k), (9, .int .i64 im.length), (10, .int .i64 i)], [(0, .arr 2 (prs (A i ++ R i k)))], 1⟩) (fun k => i < k ∧ k ≤ im.length) (fun k => im.length - k) (i + 1) ?_ ?_ ?_
      · simp (config := { maxSteps := 1000000 }) (disch := first | omega | (simp only [go_sem]; omega)) only [go_sem, ↓reduceIte, r0]
        simp
      · omega
      · rintro k ⟨k1, k2⟩
        have hRi := hR i k
        have al : (A i ++ R i k).length = (A i).length + (R i k).length := List.length_append
        by_cases d : k < im.length
        · have g2 : decide ((k : Int) < im.length) = true := decide_eq_true (by omega)
          have c1 := hc kn i h2
          have c2 := hc kn k h2
          have hs := rS i k
          rw [hP] at hs
          by_cases e : gt im i = gt im k
          · have g3 : decide (gt im i = gt im k) = true := decide_eq_true e
            rw [g3] at hs
            generalize decide ((i : Int) ∈ kn) = b1 at *
            generalize decide ((k : Int) ∈ kn) = b2 at *
            cases b1
            · simp (config := { maxSteps := 1000000 }) (disch := first | omega | (simp only [go_sem]; omega)) only [go_sem, ↓reduceIte, c_complement_pairs_b10, g2, g3, al]
              refine call_by c1 ?_
              simp (config := { maxSteps := 1000000 }) (disch := first | omega | (simp only [go_sem]; omega)) only [go_sem, ↓reduceIte, al]
              exact ⟨k + 1, by simp [hs, k1]; try omega, by omega, by omega⟩
            · cases b2
              · simp (config := { maxSteps := 1000000 }) (disch := first | omega | (simp only [go_sem]; omega)) only [go_sem, ↓reduceIte, c_complement_pairs_b10, g2, g3, al]
                refine call_by c1 ?_
                simp (config := { maxSteps := 1000000 }) (disch := first | omega | (simp only [go_sem]; omega)) only [go_sem, ↓reduceIte, al]
                refine call_by c2 ?_
                simp (config := { maxSteps := 1000000 }) (disch := first | omega | (simp only [go_sem]; omega)) only [go_sem, ↓reduceIte, al]
                exact ⟨k + 1, by simp [hs, k1]; try omega, by omega, by omega⟩
              · simp (config := { maxSteps := 1000000 }) (disch := first | omega | (simp only [go_sem]; omega)) only [go_sem, ↓reduceIte, c_complement_pairs_b10, g2, g3, al]
                refine call_by c1 ?_
                simp (config := { maxSteps := 1000000 }) (disch := first | omega | (simp only [go_sem]; omega)) only [go_sem, ↓reduceIte, al]
                refine call_by c2 ?_
                simp (config := { maxSteps := 1000000 }) (disch := first | omega | (simp only [go_sem]; omega)) only [go_sem, ↓reduceIte, al]
                exact ⟨k + 1, by simp [hs], by omega, by omega⟩
          · have g3 : decide (gt im i = gt im k) = false := decide_eq_false e
            rw [g3] at hs
            simp (config := { maxSteps := 1000000 }) (disch := first | omega | (simp only [go_sem]; omega)) only [go_sem, ↓reduceIte, c_complement_pairs_b10, g2, g3, al]
            exact ⟨k + 1, by simp [hs], by omega, by omega⟩
        · have g2 : decide ((k : Int) < im.length) = false := decide_eq_false (by omega)
          obtain rfl : k = im.length := by omega
          simp (config := { maxSteps := 1000000 }) (disch := first | omega | (simp only [go_sem]; omega)) only [go_sem, ↓reduceIte, c_complement_pairs_b10, g2, al]
          exact ⟨i + 1, by simp [aS], by omega, by omega⟩
    · have g1 : decide ((i : Int) < im.length) = false := decide_eq_false (by omega)
      obtain rfl : i = im.length := by omega
      simp (config := { maxSteps := 1000000 }) (disch := first | omega | (simp only [go_sem]; omega)) only [go_sem, ↓reduceIte, c_complement_pairs_b12, g1]
theorem w_complement_gluing_identified (hp : K_complement_pairs P F) (x : Cx) (he : cxE x = 0) : W P (c_complement_gluing_identified F) (Done [.t 2, .t 3] [] (.tup [.arr 2 (prs (idL x.m.n x.k.n)), .arr 2 (prs (idL x.m.e x.k.e))]) []) (init [cxD x]) := by
  refine W_of ?_
  obtain ⟨hm, hk⟩ := cx_len he
  have vl := valid_spec hm.va
  have l1 := hm.ln
  have l2 := hm.le
  have l3 := hk.len
  have r1 := hp x.m.n x.k.n (by omega) (by unfold maxL; omega)
  have r2 := hp x.m.e x.k.e (by omega) (by unfold maxL; omega)
  simp only [cxD]
  simp (config := { maxSteps := 1000000 }) (disch := first | omega | (simp only [go_sem]; omega)) only [go_sem, ↓reduceIte]
  refine call_by r1 ?_
  simp (config := { maxSteps := 1000000 }) (disch := first | omega | (simp only [go_sem]; omega)) only [go_sem, ↓reduceIte]
  refine call_by r2 ?_
  simp (config := { maxSteps := 1000000 }) (disch := first | omega | (simp only [go_sem]; omega)) only [go_sem, ↓reduceIte]
theorem w_complement_rest (hc : K_slices_Contains_I P F) (n : Nat) (im kn : List Int) (hn : n ≤ 1000) (h1 : im.length ≤ 1000) (h2 : kn.length ≤ maxL) (hb : ∀ v ∈ im, 0 ≤ v ∧ v < n) : W P (c_complement_rest F) (Done [.t 6] [] (.arr 1 (ints (restL n (goneL im kn)))) []) (init [.int .i64 n, .lst 1 (ints im), .lst 1 (ints kn)]) := by
  refine W_of ?_
  have hR : restL n (goneL im kn) = sel (fun i : Nat => !decide ((i : Int) ∈ goneL im kn)) n := rfl
  have sl := sel_len (fun i : Nat => !decide ((i : Int) ∈ goneL im kn))
  have ss := sel_succ (fun i : Nat => !decide ((i : Int) ∈ goneL im kn))
  have s0 := sel_zero (fun i : Nat => !decide ((i : Int) ∈ goneL im kn))
  rw [hR]
  clear hR
  generalize hS : sel (fun i : Nat => !decide ((i : Int) ∈ goneL im kn)) = S at *
  simp (config := { maxSteps := 1000000 }) (disch := first | omega | (simp only [go_sem]; omega)) only [go_sem, ↓reduceIte]
  refine W_loop (fun s : Nat × List Bool => ⟨[(2, .lst 1 (ints kn)), (7, .sl 0 0 n), (15, .lst 1 (ints im)), (16, .int .i64 im.length), (17, .int .i64 s.1)], [(0, .arr 1 (bls s.2))], 1⟩) (fun s => s.1 ≤ im.length ∧ s.2.length = n ∧ ∀ k : Nat, k < n → gt s.2 k = decide ((k : Int) ∈ goneI im kn s.1)) (fun s => im.length - s.1) (0, List.replicate n false) ?_ ?_ ?_
  · simp (config := { maxSteps := 1000000 }) (disch := first | omega | (simp only [go_sem]; omega)) only [go_sem, ↓reduceIte]
    rfl
  · refine ⟨by simp, by simp, fun k hk => ?_⟩
    rw [gt_nat (by simpa using hk)]
    simp [goneI]
  · rintro ⟨i, z⟩ ⟨i1, i2, i3⟩
    simp only at i1 i2 i3
    by_cases c : i < im.length
    · have g1 : decide ((i : Int) < im.length) = true := decide_eq_true (by omega)
      have r := hc kn i h2
      have hbi := hb _ (gt_mem (l := im) (j := i) (by omega) (by omega))
      by_cases d : (i : Int) ∈ kn
      · rw [decide_eq_true d] at r
        simp (config := { maxSteps := 1000000 }) (disch := first | omega | (simp only [go_sem]; omega)) only [go_sem, ↓reduceIte, c_complement_rest_b8, g1, i2]
        refine call_by r ?_
        simp (config := { maxSteps := 1000000 }) (disch := first | omega | (simp only [go_sem]; omega)) only [go_sem, ↓reduceIte, i2]
        refine ⟨(i + 1, z), by simp, ⟨by simp only; omega, i2, fun k hk => ?_⟩, by simp only; omega⟩
        rw [i3 k hk]
        simp only [goneI, if_pos d]
      · rw [decide_eq_false d] at r
        simp (config := { maxSteps := 1000000 }) (disch := first | omega | (simp only [go_sem]; omega)) only [go_sem, ↓reduceIte, c_complement_rest_b8, g1, i2]
        refine call_by r ?_
        simp (config := { maxSteps := 1000000 }) (disch := first | omega | (simp only [go_sem]; omega)) only [go_sem, ↓reduceIte, i2]
        refine ⟨(i + 1, z.set (gt im i).toNat true), by simp, ⟨by simp only; omega, by simp [i2], fun k hk => ?_⟩, by simp only; omega⟩
        simp only
        rw [gt_setB (by omega), i3 k hk]
        simp only [goneI, if_neg d, List.mem_append, List.mem_singleton]
        by_cases e : (gt im i).toNat = k
        · have : (k : Int) = gt im i := by omega
          simp [e, this]
        · have : ¬ (k : Int) = gt im i := by omega
          simp [e, this]
    · have g1 : decide ((i : Int) < im.length) = false := decide_eq_false (by omega)
      obtain rfl : i = im.length := by omega
      simp (config := { maxSteps := 1000000 }) (disch := first | omega | (simp only [go_sem]; omega)) only [go_sem, ↓reduceIte, c_complement_rest_b8, g1, i2]
      refine W_loop (fun i : Nat => ⟨[(10, .sl 0 0 (S i).length), (30, .sl 1 0 n), (31, .int .i64 n), (32, .int .i64 i)], [(0, .arr 1 (ints (S i))), (1, .arr 1 (bls z))], 2⟩) (fun i => i ≤ n) (fun i => n - i) 0 ?_ ?_ ?_
      · simp (config := { maxSteps := 1000000 }) (disch := first | omega | (simp only [go_sem]; omega)) only [go_sem, ↓reduceIte, s0, i2, ints_nil]
        rfl
      · simp
      · intro i hi
        have sli := sl i
        by_cases c : i < n
        · have g1 : decide ((i : Int) < n) = true := decide_eq_true (by omega)
          have hz := i3 i c
          have hs := ss i
          have hz2 : (!gt z i) = !decide ((i : Int) ∈ goneL im kn) := by rw [hz]; rfl
          rw [← hz2] at hs
          generalize hzb : gt z i = b at *
          cases b
          · simp (config := { maxSteps := 1000000 }) (disch := first | omega | (simp only [go_sem]; omega)) only [go_sem, ↓reduceIte, c_complement_rest_b16, g1, i2, hzb]
            exact ⟨i + 1, by simp [hs], by omega, by omega⟩
          · simp (config := { maxSteps := 1000000 }) (disch := first | omega | (simp only [go_sem]; omega)) only [go_sem, ↓reduceIte, c_complement_rest_b16, g1, i2, hzb]
            exact ⟨i + 1, by simp [hs], by omega, by omega⟩
        · have g1 : decide ((i : Int) < n) = false := decide_eq_false (by omega)
          obtain rfl : i = n := by omega
          simp (config := { maxSteps := 1000000 }) (disch := first | omega | (simp only [go_sem]; omega)) only [go_sem, ↓reduceIte, c_complement_rest_b16, g1]
end
end Go.Am
