/- Pairs of numbers; pullbacks: pairs, sides, and what is equal. -/
/- Pullbacks: places, comparison, injectivity. -/
import Derived.Test.YtkllpeebnabdiaaSkB
namespace Go.Am
open Go
set_option linter.unusedVariables false
set_option linter.unusedSimpArgs false
/- pullback.pairs -/
def c_pullback_pairs_r0 (F : String → Nat) : List LI := [⟨some 4, .mov (.k (.nl 2)), none⟩]
def c_pullback_pairs_r1 (F : String → Nat) : List LI := [⟨some 5, .mov (.k (.nl 2)), none⟩]
def c_pullback_pairs_r2 (F : String → Nat) : List LI := [⟨some 10, .mov (.t 0), none⟩,
  ⟨some 11, .len (.t 10), none⟩,
  ⟨some 12, .mov (.k (.int .i64 (0))), none⟩]
def c_pullback_pairs_r3 (F : String → Nat) : List LI := [⟨some 13, .bin .lss (.t 12) (.t 11), none⟩]
def c_pullback_pairs_r4 (F : String → Nat) : List LI := [⟨some 14, .mov (.t 12), none⟩,
  ⟨some 15, .iad 1 (.t 10) (.t 12), none⟩,
  ⟨some 16, .load false 1 (.t 15), none⟩,
  ⟨some 6, .mov (.t 14), none⟩,
  ⟨some 7, .mov (.t 16), none⟩]
def c_pullback_pairs_r5 (F : String → Nat) : List LI := [⟨some 17, .mov (.t 1), none⟩,
  ⟨some 18, .len (.t 17), none⟩,
  ⟨some 19, .mov (.k (.int .i64 (0))), none⟩]
def c_pullback_pairs_r6 (F : String → Nat) : List LI := [⟨some 20, .bin .lss (.t 19) (.t 18), none⟩]
def c_pullback_pairs_r7 (F : String → Nat) : List LI := [⟨some 21, .mov (.t 19), none⟩,
  ⟨some 22, .iad 1 (.t 17) (.t 19), none⟩,
  ⟨some 23, .load false 1 (.t 22), none⟩,
  ⟨some 8, .mov (.t 21), none⟩,
  ⟨some 9, .mov (.t 23), none⟩]
def c_pullback_pairs_r8 (F : String → Nat) : List LI := [⟨some 24, .mov (.t 7), none⟩,
  ⟨some 25, .mov (.t 9), none⟩,
  ⟨some 26, .bin .eql (.t 24) (.t 25), none⟩]
def c_pullback_pairs_r9 (F : String → Nat) : List LI := [⟨some 27, .mov (.t 5), none⟩,
  ⟨some 28, .mov (.t 6), none⟩,
  ⟨some 29, .mov (.t 8), none⟩,
  ⟨some 30, .build [.int .i64 (0), .int .i64 (0)] [(0, 1, .t 28), (1, 1, .t 29)], none⟩,
  ⟨some 31, .buildSl 2 16 (.agg [.int .i64 (0), .int .i64 (0)]) 1 [(0, .t 30)], none⟩,
  ⟨some 32, .app 2 16 (.t 27) (.t 31), none⟩,
  ⟨some 5, .mov (.t 32), none⟩]
def c_pullback_pairs_r10 (F : String → Nat) : List LI := [⟨some 33, .bin .add (.t 19) (.k (.int .i64 (1))), none⟩,
  ⟨some 19, .mov (.t 33), none⟩]
def c_pullback_pairs_b11 (F : String → Nat) : LC := (.seq (.reg (c_pullback_pairs_r6 F) [1, 5, 6, 7, 10, 11, 12, 17, 18, 19, 20]) (.seq (.cond (.t 20) .skip (.exit 2)) (.seq (.block 3 (.seq (.reg (c_pullback_pairs_r7 F) [1, 5, 6, 7, 8, 9, 10, 11, 12, 17, 18, 19]) (.seq (.reg (c_pullback_pairs_r8 F) [1, 5, 6, 7, 8, 10, 11, 12, 17, 18, 19, 26]) (.cond (.t 26) (.reg (c_pullback_pairs_r9 F) [1, 5, 6, 7, 10, 11, 12, 17, 18, 19]) .skip)))) (.reg (c_pullback_pairs_r10 F) [1, 5, 6, 7, 10, 11, 12, 17, 18, 19]))))
def c_pullback_pairs_r12 (F : String → Nat) : List LI := [⟨some 34, .bin .add (.t 12) (.k (.int .i64 (1))), none⟩,
  ⟨some 12, .mov (.t 34), none⟩]
def c_pullback_pairs_b13 (F : String → Nat) : LC := (.seq (.reg (c_pullback_pairs_r3 F) [1, 5, 10, 11, 12, 13]) (.seq (.cond (.t 13) .skip (.exit 0)) (.seq (.block 1 (.seq (.reg (c_pullback_pairs_r4 F) [1, 5, 6, 7, 10, 11, 12]) (.seq (.reg (c_pullback_pairs_r5 F) [1, 5, 6, 7, 10, 11, 12, 17, 18, 19]) (.block 2 (.loop [1, 5, 6, 7, 10, 11, 12, 17, 18, 19] (c_pullback_pairs_b11 F)))))) (.reg (c_pullback_pairs_r12 F) [1, 5, 10, 11, 12]))))
def c_pullback_pairs_r14 (F : String → Nat) : List LI := [⟨some 35, .mov (.t 5), none⟩,
  ⟨some 4, .mov (.t 35), none⟩]
def c_pullback_pairs (F : String → Nat) : LC := (.seq (.reg (c_pullback_pairs_r0 F) [0, 1]) (.seq (.reg (c_pullback_pairs_r1 F) [0, 1, 5]) (.seq (.seq (.reg (c_pullback_pairs_r2 F) [1, 5, 10, 11, 12]) (.block 0 (.loop [1, 5, 10, 11, 12] (c_pullback_pairs_b13 F)))) (.seq (.reg (c_pullback_pairs_r14 F) [4]) .ret))))
def h_pullback_pairs : Hints := ⟨[], fun _ => [], tab [(0, [0, 1]), (1, [0, 1, 5]), (2, [1, 5, 10, 11, 12]), (3, [1, 5, 10, 11, 12, 13]), (4, [1, 5, 6, 7, 10, 11, 12]), (5, [1, 5, 6, 7, 10, 11, 12, 17, 18, 19]), (6, [1, 5, 6, 7, 10, 11, 12, 17, 18, 19, 20]), (7, [1, 5, 6, 7, 8, 9, 10, 11, 12, 17, 18, 19]), (8, [1, 5, 6, 7, 8, 10, 11, 12, 17, 18, 19, 26]), (9, [1, 5, 6, 7, 10, 11, 12, 17, 18, 19]), (10, [1, 5, 6, 7, 10, 11, 12, 17, 18, 19]), (11, [1, 5, 10, 11, 12]), (12, [4])], tab [(3, [1, 5, 10, 11, 12]), (6, [1, 5, 6, 7, 10, 11, 12, 17, 18, 19])]⟩

/- r11.pairs -/
def c_r11_pairs_r0 (F : String → Nat) : List LI := [⟨some 6, .mov (.k (.nl 2)), none⟩]
def c_r11_pairs_r1 (F : String → Nat) : List LI := [⟨some 7, .mov (.k (.nl 2)), none⟩]
def c_r11_pairs_r2 (F : String → Nat) : List LI := [⟨some 8, .mov (.k (.int .i64 (0))), none⟩]
def c_r11_pairs_r3 (F : String → Nat) : List LI := [⟨some 10, .mov (.t 8), none⟩,
  ⟨some 11, .mov (.t 0), none⟩,
  ⟨some 12, .len (.t 11), none⟩,
  ⟨some 13, .bin .lss (.t 10) (.t 12), none⟩]
def c_r11_pairs_r4 (F : String → Nat) : List LI := [⟨some 9, .mov (.k (.int .i64 (0))), none⟩]
def c_r11_pairs_r5 (F : String → Nat) : List LI := [⟨some 16, .mov (.t 9), none⟩,
  ⟨some 17, .mov (.t 1), none⟩,
  ⟨some 18, .len (.t 17), none⟩,
  ⟨some 19, .bin .lss (.t 16) (.t 18), none⟩]
def c_r11_pairs_r6 (F : String → Nat) : List LI := [⟨some 22, .mov (.t 0), none⟩,
  ⟨some 23, .mov (.t 8), none⟩,
  ⟨some 24, .iad 1 (.t 22) (.t 23), none⟩,
  ⟨some 25, .load false 1 (.t 24), none⟩,
  ⟨some 26, .mov (.t 1), none⟩,
  ⟨some 27, .mov (.t 9), none⟩,
  ⟨some 28, .iad 1 (.t 26) (.t 27), none⟩,
  ⟨some 29, .load false 1 (.t 28), none⟩,
  ⟨some 30, .bin .eql (.t 25) (.t 29), none⟩,
  ⟨some 31, .mov (.t 30), none⟩,
  ⟨some 32, .mov (.t 7), some (31, true)⟩,
  ⟨some 33, .len (.t 32), some (31, true)⟩,
  ⟨some 34, .mov (.t 2), some (31, true)⟩,
  ⟨some 35, .bin .leq (.t 33) (.t 34), some (31, true)⟩,
  ⟨some 36, .pick (.t 31) (.t 35) (.k (.bool false)), none⟩]
def c_r11_pairs_r7 (F : String → Nat) : List LI := [⟨some 37, .mov (.t 7), none⟩,
  ⟨some 38, .mov (.t 8), none⟩,
  ⟨some 39, .mov (.t 9), none⟩,
  ⟨some 40, .build [.int .i64 (0), .int .i64 (0)] [(0, 1, .t 38), (1, 1, .t 39)], none⟩,
  ⟨some 41, .buildSl 2 16 (.agg [.int .i64 (0), .int .i64 (0)]) 1 [(0, .t 40)], none⟩,
  ⟨some 42, .app 2 16 (.t 37) (.t 41), none⟩,
  ⟨some 7, .mov (.t 42), none⟩]
def c_r11_pairs_r8 (F : String → Nat) : List LI := [⟨some 20, .mov (.t 9), none⟩,
  ⟨some 21, .bin .add (.t 20) (.k (.int .i64 (1))), none⟩,
  ⟨some 9, .mov (.t 21), none⟩]
def c_r11_pairs_b9 (F : String → Nat) : LC := (.seq (.seq (.reg (c_r11_pairs_r5 F) [0, 1, 2, 7, 8, 9, 19]) (.cond (.t 19) .skip (.exit 2))) (.seq (.block 3 (.seq (.dreg [] (c_r11_pairs_r6 F) [0, 1, 2, 7, 8, 9, 36]) (.cond (.t 36) (.reg (c_r11_pairs_r7 F) [0, 1, 2, 7, 8, 9]) .skip))) (.reg (c_r11_pairs_r8 F) [0, 1, 2, 7, 8, 9])))
def c_r11_pairs_r10 (F : String → Nat) : List LI := [⟨some 14, .mov (.t 8), none⟩,
  ⟨some 15, .bin .add (.t 14) (.k (.int .i64 (1))), none⟩,
  ⟨some 8, .mov (.t 15), none⟩]
def c_r11_pairs_b11 (F : String → Nat) : LC := (.seq (.seq (.reg (c_r11_pairs_r3 F) [0, 1, 2, 7, 8, 13]) (.cond (.t 13) .skip (.exit 0))) (.seq (.block 1 (.seq (.reg (c_r11_pairs_r4 F) [0, 1, 2, 7, 8, 9]) (.block 2 (.loop [0, 1, 2, 7, 8, 9] (c_r11_pairs_b9 F))))) (.reg (c_r11_pairs_r10 F) [0, 1, 2, 7, 8])))
def c_r11_pairs_r12 (F : String → Nat) : List LI := [⟨some 43, .mov (.t 7), none⟩,
  ⟨some 6, .mov (.t 43), none⟩]
def c_r11_pairs (F : String → Nat) : LC := (.seq (.reg (c_r11_pairs_r0 F) [0, 1, 2]) (.seq (.reg (c_r11_pairs_r1 F) [0, 1, 2, 7]) (.seq (.seq (.reg (c_r11_pairs_r2 F) [0, 1, 2, 7, 8]) (.block 0 (.loop [0, 1, 2, 7, 8] (c_r11_pairs_b11 F)))) (.seq (.reg (c_r11_pairs_r12 F) [6]) .ret))))
def h_r11_pairs : Hints := ⟨[], fun _ => [], tab [(0, [0, 1, 2]), (1, [0, 1, 2, 7]), (2, [0, 1, 2, 7, 8]), (3, [0, 1, 2, 7, 8, 13]), (4, [0, 1, 2, 7, 8]), (5, [0, 1, 2, 7, 8, 9]), (6, [0, 1, 2, 7, 8, 9, 19]), (7, [0, 1, 2, 7, 8, 9]), (8, [0, 1, 2, 7, 8, 9, 36]), (9, [0, 1, 2, 7, 8, 9]), (10, [6])], tab [(3, [0, 1, 2, 7, 8]), (6, [0, 1, 2, 7, 8, 9])]⟩

/- pullback.sides -/
def c_pullback_sides_r0 (F : String → Nat) : List LI := [⟨some 2, .mov (.k (.nl 1)), none⟩,
  ⟨some 3, .mov (.k (.nl 1)), none⟩]
def c_pullback_sides_r1 (F : String → Nat) : List LI := [⟨some 4, .mov (.k (.nl 1)), none⟩,
  ⟨some 5, .mov (.k (.nl 1)), none⟩]
def c_pullback_sides_r2 (F : String → Nat) : List LI := [⟨some 8, .mov (.t 0), none⟩,
  ⟨some 9, .len (.t 8), none⟩,
  ⟨some 10, .mov (.k (.int .i64 (0))), none⟩]
def c_pullback_sides_r3 (F : String → Nat) : List LI := [⟨some 11, .bin .lss (.t 10) (.t 9), none⟩]
def c_pullback_sides_r4 (F : String → Nat) : List LI := [⟨some 12, .iad 2 (.t 8) (.t 10), none⟩,
  ⟨some 13, .load true 2 (.t 12), none⟩,
  ⟨some 7, .alloc [.int .i64 (0), .int .i64 (0)], none⟩,
  ⟨none, .store 2 (.t 7) (.t 13), none⟩]
def c_pullback_sides_r5 (F : String → Nat) : List LI := [⟨some 14, .mov (.t 4), none⟩,
  ⟨some 15, .fad 0 (.t 7), none⟩,
  ⟨some 16, .load false 1 (.t 15), none⟩,
  ⟨some 17, .buildSl 1 8 (.int .i64 (0)) 1 [(0, .t 16)], none⟩,
  ⟨some 18, .app 1 8 (.t 14) (.t 17), none⟩,
  ⟨some 19, .mov (.t 5), none⟩,
  ⟨some 20, .fad 1 (.t 7), none⟩,
  ⟨some 21, .load false 1 (.t 20), none⟩,
  ⟨some 22, .buildSl 1 8 (.int .i64 (0)) 1 [(0, .t 21)], none⟩,
  ⟨some 23, .app 1 8 (.t 19) (.t 22), none⟩,
  ⟨some 4, .mov (.t 18), none⟩,
  ⟨some 5, .mov (.t 23), none⟩]
def c_pullback_sides_r6 (F : String → Nat) : List LI := [⟨some 24, .bin .add (.t 10) (.k (.int .i64 (1))), none⟩,
  ⟨some 10, .mov (.t 24), none⟩]
def c_pullback_sides_b7 (F : String → Nat) : LC := (.seq (.reg (c_pullback_sides_r3 F) [4, 5, 8, 9, 10, 11]) (.seq (.cond (.t 11) .skip (.exit 0)) (.seq (.block 1 (.seq (.reg (c_pullback_sides_r4 F) [4, 5, 7, 8, 9, 10]) (.dreg [(2, none, [], true), (3, none, [], true), (4, none, [], true), (7, (some 64), [3, 4], false), (8, (some 192), [2, 3, 4], false)] (c_pullback_sides_r5 F) [4, 5, 8, 9, 10]))) (.reg (c_pullback_sides_r6 F) [4, 5, 8, 9, 10]))))
def c_pullback_sides_r8 (F : String → Nat) : List LI := [⟨some 25, .mov (.t 4), none⟩,
  ⟨some 26, .mov (.t 5), none⟩,
  ⟨some 2, .mov (.t 25), none⟩,
  ⟨some 3, .mov (.t 26), none⟩]
def c_pullback_sides (F : String → Nat) : LC := (.seq (.reg (c_pullback_sides_r0 F) [0]) (.seq (.reg (c_pullback_sides_r1 F) [0, 4, 5]) (.seq (.seq (.reg (c_pullback_sides_r2 F) [4, 5, 8, 9, 10]) (.block 0 (.loop [4, 5, 8, 9, 10] (c_pullback_sides_b7 F)))) (.seq (.reg (c_pullback_sides_r8 F) [2, 3]) .ret))))
def h_pullback_sides : Hints := ⟨[], fun _ => [], tab [(0, [0]), (1, [0, 4, 5]), (2, [4, 5, 8, 9, 10]), (3, [4, 5, 8, 9, 10, 11]), (4, [4, 5, 7, 8, 9, 10]), (5, [4, 5, 8, 9, 10]), (6, [4, 5, 8, 9, 10]), (7, [2, 3])], tab [(3, [4, 5, 8, 9, 10])]⟩

/- r11.sides -/
def c_r11_sides_r0 (F : String → Nat) : List LI := [⟨some 2, .mov (.k (.nl 1)), none⟩,
  ⟨some 3, .mov (.k (.nl 1)), none⟩]
def c_r11_sides_r1 (F : String → Nat) : List LI := [⟨some 4, .mov (.k (.nl 1)), none⟩,
  ⟨some 5, .mov (.k (.nl 1)), none⟩]
def c_r11_sides_r2 (F : String → Nat) : List LI := [⟨some 6, .mov (.k (.int .i64 (0))), none⟩]
def c_r11_sides_r3 (F : String → Nat) : List LI := [⟨some 7, .mov (.t 6), none⟩,
  ⟨some 8, .mov (.t 0), none⟩,
  ⟨some 9, .len (.t 8), none⟩,
  ⟨some 10, .bin .lss (.t 7) (.t 9), none⟩]
def c_r11_sides_r4 (F : String → Nat) : List LI := [⟨some 13, .mov (.t 4), none⟩,
  ⟨some 14, .mov (.t 0), none⟩,
  ⟨some 15, .mov (.t 6), none⟩,
  ⟨some 16, .iad 2 (.t 14) (.t 15), none⟩,
  ⟨some 17, .fad 0 (.t 16), none⟩,
  ⟨some 18, .load false 1 (.t 17), none⟩,
  ⟨some 19, .buildSl 1 8 (.int .i64 (0)) 1 [(0, .t 18)], none⟩,
  ⟨some 20, .app 1 8 (.t 13) (.t 19), none⟩,
  ⟨some 21, .mov (.t 5), none⟩,
  ⟨some 22, .mov (.t 0), none⟩,
  ⟨some 23, .mov (.t 6), none⟩,
  ⟨some 24, .iad 2 (.t 22) (.t 23), none⟩,
  ⟨some 25, .fad 1 (.t 24), none⟩,
  ⟨some 26, .load false 1 (.t 25), none⟩,
  ⟨some 27, .buildSl 1 8 (.int .i64 (0)) 1 [(0, .t 26)], none⟩,
  ⟨some 28, .app 1 8 (.t 21) (.t 27), none⟩,
  ⟨some 4, .mov (.t 20), none⟩,
  ⟨some 5, .mov (.t 28), none⟩]
def c_r11_sides_r5 (F : String → Nat) : List LI := [⟨some 11, .mov (.t 6), none⟩,
  ⟨some 12, .bin .add (.t 11) (.k (.int .i64 (1))), none⟩,
  ⟨some 6, .mov (.t 12), none⟩]
def c_r11_sides_b6 (F : String → Nat) : LC := (.seq (.seq (.reg (c_r11_sides_r3 F) [0, 4, 5, 6, 10]) (.cond (.t 10) .skip (.exit 0))) (.seq (.block 1 (.dreg [(3, none, [], true), (5, none, [], true), (6, none, [], true), (7, none, [], true), (11, (some 1536), [6, 7], false), (13, (some 7680), [6, 7], false), (14, (some 15872), [3, 5, 6, 7], false)] (c_r11_sides_r4 F) [0, 4, 5, 6])) (.reg (c_r11_sides_r5 F) [0, 4, 5, 6])))
def c_r11_sides_r7 (F : String → Nat) : List LI := [⟨some 29, .mov (.t 4), none⟩,
  ⟨some 30, .mov (.t 5), none⟩,
  ⟨some 2, .mov (.t 29), none⟩,
  ⟨some 3, .mov (.t 30), none⟩]
def c_r11_sides (F : String → Nat) : LC := (.seq (.reg (c_r11_sides_r0 F) [0]) (.seq (.reg (c_r11_sides_r1 F) [0, 4, 5]) (.seq (.seq (.reg (c_r11_sides_r2 F) [0, 4, 5, 6]) (.block 0 (.loop [0, 4, 5, 6] (c_r11_sides_b6 F)))) (.seq (.reg (c_r11_sides_r7 F) [2, 3]) .ret))))
def h_r11_sides : Hints := ⟨[], fun _ => [], tab [(0, [0]), (1, [0, 4, 5]), (2, [0, 4, 5, 6]), (3, [0, 4, 5, 6, 10]), (4, [0, 4, 5, 6]), (5, [0, 4, 5, 6]), (6, [2, 3])], tab [(3, [0, 4, 5, 6])]⟩

/- pullback.equal -/
def c_pullback_equal_r0 (F : String → Nat) : List LI := [⟨some 4, .mov (.k (.nl 1)), none⟩]
def c_pullback_equal_r1 (F : String → Nat) : List LI := [⟨some 5, .mov (.k (.nl 1)), none⟩]
def c_pullback_equal_r2 (F : String → Nat) : List LI := [⟨some 7, .mov (.t 0), none⟩,
  ⟨some 8, .len (.t 7), none⟩,
  ⟨some 9, .mov (.k (.int .i64 (0))), none⟩]
def c_pullback_equal_r3 (F : String → Nat) : List LI := [⟨some 10, .bin .lss (.t 9) (.t 8), none⟩]
def c_pullback_equal_r4 (F : String → Nat) : List LI := [⟨some 11, .mov (.t 9), none⟩,
  ⟨some 6, .mov (.t 11), none⟩]
def c_pullback_equal_r5 (F : String → Nat) : List LI := [⟨some 12, .mov (.t 0), none⟩,
  ⟨some 13, .mov (.t 6), none⟩,
  ⟨some 14, .iad 1 (.t 12) (.t 13), none⟩,
  ⟨some 15, .load false 1 (.t 14), none⟩,
  ⟨some 16, .mov (.t 1), none⟩,
  ⟨some 17, .mov (.t 6), none⟩,
  ⟨some 18, .iad 1 (.t 16) (.t 17), none⟩,
  ⟨some 19, .load false 1 (.t 18), none⟩,
  ⟨some 20, .bin .eql (.t 15) (.t 19), none⟩]
def c_pullback_equal_r6 (F : String → Nat) : List LI := [⟨some 21, .mov (.t 5), none⟩,
  ⟨some 22, .mov (.t 6), none⟩,
  ⟨some 23, .buildSl 1 8 (.int .i64 (0)) 1 [(0, .t 22)], none⟩,
  ⟨some 24, .app 1 8 (.t 21) (.t 23), none⟩,
  ⟨some 5, .mov (.t 24), none⟩]
def c_pullback_equal_r7 (F : String → Nat) : List LI := [⟨some 25, .bin .add (.t 9) (.k (.int .i64 (1))), none⟩,
  ⟨some 9, .mov (.t 25), none⟩]
def c_pullback_equal_b8 (F : String → Nat) : LC := (.seq (.reg (c_pullback_equal_r3 F) [0, 1, 5, 8, 9, 10]) (.seq (.cond (.t 10) .skip (.exit 0)) (.seq (.block 1 (.seq (.reg (c_pullback_equal_r4 F) [0, 1, 5, 6, 8, 9]) (.seq (.dreg [] (c_pullback_equal_r5 F) [0, 1, 5, 6, 8, 9, 20]) (.cond (.t 20) (.reg (c_pullback_equal_r6 F) [0, 1, 5, 8, 9]) .skip)))) (.reg (c_pullback_equal_r7 F) [0, 1, 5, 8, 9]))))
def c_pullback_equal_r9 (F : String → Nat) : List LI := [⟨some 26, .mov (.t 5), none⟩,
  ⟨some 4, .mov (.t 26), none⟩]
def c_pullback_equal (F : String → Nat) : LC := (.seq (.reg (c_pullback_equal_r0 F) [0, 1]) (.seq (.reg (c_pullback_equal_r1 F) [0, 1, 5]) (.seq (.seq (.reg (c_pullback_equal_r2 F) [0, 1, 5, 8, 9]) (.block 0 (.loop [0, 1, 5, 8, 9] (c_pullback_equal_b8 F)))) (.seq (.reg (c_pullback_equal_r9 F) [4]) .ret))))
def h_pullback_equal : Hints := ⟨[], fun _ => [], tab [(0, [0, 1]), (1, [0, 1, 5]), (2, [0, 1, 5, 8, 9]), (3, [0, 1, 5, 8, 9, 10]), (4, [0, 1, 5, 6, 8, 9]), (5, [0, 1, 5, 6, 8, 9, 20]), (6, [0, 1, 5, 8, 9]), (7, [0, 1, 5, 8, 9]), (8, [4])], tab [(3, [0, 1, 5, 8, 9])]⟩

/- r11.agree -/
def c_r11_agree_r0 (F : String → Nat) : List LI := [⟨some 4, .mov (.k (.nl 1)), none⟩]
def c_r11_agree_r1 (F : String → Nat) : List LI := [⟨some 5, .mov (.k (.nl 1)), none⟩]
def c_r11_agree_r2 (F : String → Nat) : List LI := [⟨some 6, .mov (.k (.int .i64 (0))), none⟩]
def c_r11_agree_r3 (F : String → Nat) : List LI := [⟨some 7, .mov (.t 6), none⟩,
  ⟨some 8, .mov (.t 0), none⟩,
  ⟨some 9, .len (.t 8), none⟩,
  ⟨some 10, .bin .lss (.t 7) (.t 9), none⟩]
def c_r11_agree_r4 (F : String → Nat) : List LI := [⟨some 13, .mov (.t 0), none⟩,
  ⟨some 14, .mov (.t 6), none⟩,
  ⟨some 15, .iad 1 (.t 13) (.t 14), none⟩,
  ⟨some 16, .load false 1 (.t 15), none⟩,
  ⟨some 17, .mov (.t 1), none⟩,
  ⟨some 18, .mov (.t 6), none⟩,
  ⟨some 19, .iad 1 (.t 17) (.t 18), none⟩,
  ⟨some 20, .load false 1 (.t 19), none⟩,
  ⟨some 21, .bin .eql (.t 16) (.t 20), none⟩]
def c_r11_agree_r5 (F : String → Nat) : List LI := [⟨some 22, .mov (.t 5), none⟩,
  ⟨some 23, .mov (.t 6), none⟩,
  ⟨some 24, .buildSl 1 8 (.int .i64 (0)) 1 [(0, .t 23)], none⟩,
  ⟨some 25, .app 1 8 (.t 22) (.t 24), none⟩,
  ⟨some 5, .mov (.t 25), none⟩]
def c_r11_agree_r6 (F : String → Nat) : List LI := [⟨some 11, .mov (.t 6), none⟩,
  ⟨some 12, .bin .add (.t 11) (.k (.int .i64 (1))), none⟩,
  ⟨some 6, .mov (.t 12), none⟩]
def c_r11_agree_b7 (F : String → Nat) : LC := (.seq (.seq (.reg (c_r11_agree_r3 F) [0, 1, 5, 6, 10]) (.cond (.t 10) .skip (.exit 0))) (.seq (.block 1 (.seq (.dreg [] (c_r11_agree_r4 F) [0, 1, 5, 6, 21]) (.cond (.t 21) (.reg (c_r11_agree_r5 F) [0, 1, 5, 6]) .skip))) (.reg (c_r11_agree_r6 F) [0, 1, 5, 6])))
def c_r11_agree_r8 (F : String → Nat) : List LI := [⟨some 26, .mov (.t 5), none⟩,
  ⟨some 4, .mov (.t 26), none⟩]
def c_r11_agree (F : String → Nat) : LC := (.seq (.reg (c_r11_agree_r0 F) [0, 1]) (.seq (.reg (c_r11_agree_r1 F) [0, 1, 5]) (.seq (.seq (.reg (c_r11_agree_r2 F) [0, 1, 5, 6]) (.block 0 (.loop [0, 1, 5, 6] (c_r11_agree_b7 F)))) (.seq (.reg (c_r11_agree_r8 F) [4]) .ret))))
def h_r11_agree : Hints := ⟨[], fun _ => [], tab [(0, [0, 1]), (1, [0, 1, 5]), (2, [0, 1, 5, 6]), (3, [0, 1, 5, 6, 10]), (4, [0, 1, 5, 6]), (5, [0, 1, 5, 6, 21]), (6, [0, 1, 5, 6]), (7, [4])], tab [(3, [0, 1, 5, 6])]⟩

/- r11.equal -/
def c_r11_equal_r0 (F : String → Nat) : List LI := [⟨some 2, .mov (.k (.nl 2)), none⟩]
def c_r11_equal_r1 (F : String → Nat) : List LI := [⟨some 3, .mov (.k (.nl 2)), none⟩]
def c_r11_equal_r2 (F : String → Nat) : List LI := [⟨some 4, .mov (.k (.int .i64 (0))), none⟩]
def c_r11_equal_r3 (F : String → Nat) : List LI := [⟨some 6, .mov (.t 4), none⟩,
  ⟨some 7, .mov (.t 0), none⟩,
  ⟨some 8, .len (.t 7), none⟩,
  ⟨some 9, .bin .lss (.t 6) (.t 8), none⟩]
def c_r11_equal_r4 (F : String → Nat) : List LI := [⟨some 12, .mov (.t 4), none⟩,
  ⟨some 13, .bin .add (.t 12) (.k (.int .i64 (1))), none⟩,
  ⟨some 5, .mov (.t 13), none⟩]
def c_r11_equal_r5 (F : String → Nat) : List LI := [⟨some 14, .mov (.t 5), none⟩,
  ⟨some 15, .mov (.t 0), none⟩,
  ⟨some 16, .len (.t 15), none⟩,
  ⟨some 17, .bin .lss (.t 14) (.t 16), none⟩]
def c_r11_equal_r6 (F : String → Nat) : List LI := [⟨some 20, .mov (.t 0), none⟩,
  ⟨some 21, .mov (.t 4), none⟩,
  ⟨some 22, .iad 1 (.t 20) (.t 21), none⟩,
  ⟨some 23, .load false 1 (.t 22), none⟩,
  ⟨some 24, .mov (.t 0), none⟩,
  ⟨some 25, .mov (.t 5), none⟩,
  ⟨some 26, .iad 1 (.t 24) (.t 25), none⟩,
  ⟨some 27, .load false 1 (.t 26), none⟩,
  ⟨some 28, .bin .eql (.t 23) (.t 27), none⟩]
def c_r11_equal_r7 (F : String → Nat) : List LI := [⟨some 29, .mov (.t 3), none⟩,
  ⟨some 30, .mov (.t 4), none⟩,
  ⟨some 31, .mov (.t 5), none⟩,
  ⟨some 32, .build [.int .i64 (0), .int .i64 (0)] [(0, 1, .t 30), (1, 1, .t 31)], none⟩,
  ⟨some 33, .buildSl 2 16 (.agg [.int .i64 (0), .int .i64 (0)]) 1 [(0, .t 32)], none⟩,
  ⟨some 34, .app 2 16 (.t 29) (.t 33), none⟩,
  ⟨some 3, .mov (.t 34), none⟩]
def c_r11_equal_r8 (F : String → Nat) : List LI := [⟨some 18, .mov (.t 5), none⟩,
  ⟨some 19, .bin .add (.t 18) (.k (.int .i64 (1))), none⟩,
  ⟨some 5, .mov (.t 19), none⟩]
def c_r11_equal_b9 (F : String → Nat) : LC := (.seq (.seq (.reg (c_r11_equal_r5 F) [0, 3, 4, 5, 17]) (.cond (.t 17) .skip (.exit 2))) (.seq (.block 3 (.seq (.dreg [] (c_r11_equal_r6 F) [0, 3, 4, 5, 28]) (.cond (.t 28) (.reg (c_r11_equal_r7 F) [0, 3, 4, 5]) .skip))) (.reg (c_r11_equal_r8 F) [0, 3, 4, 5])))
def c_r11_equal_r10 (F : String → Nat) : List LI := [⟨some 10, .mov (.t 4), none⟩,
  ⟨some 11, .bin .add (.t 10) (.k (.int .i64 (1))), none⟩,
  ⟨some 4, .mov (.t 11), none⟩]
def c_r11_equal_b11 (F : String → Nat) : LC := (.seq (.seq (.reg (c_r11_equal_r3 F) [0, 3, 4, 9]) (.cond (.t 9) .skip (.exit 0))) (.seq (.block 1 (.seq (.reg (c_r11_equal_r4 F) [0, 3, 4, 5]) (.block 2 (.loop [0, 3, 4, 5] (c_r11_equal_b9 F))))) (.reg (c_r11_equal_r10 F) [0, 3, 4])))
def c_r11_equal_r12 (F : String → Nat) : List LI := [⟨some 35, .mov (.t 3), none⟩,
  ⟨some 2, .mov (.t 35), none⟩]
def c_r11_equal (F : String → Nat) : LC := (.seq (.reg (c_r11_equal_r0 F) [0]) (.seq (.reg (c_r11_equal_r1 F) [0, 3]) (.seq (.seq (.reg (c_r11_equal_r2 F) [0, 3, 4]) (.block 0 (.loop [0, 3, 4] (c_r11_equal_b11 F)))) (.seq (.reg (c_r11_equal_r12 F) [2]) .ret))))
def h_r11_equal : Hints := ⟨[], fun _ => [], tab [(0, [0]), (1, [0, 3]), (2, [0, 3, 4]), (3, [0, 3, 4, 9]), (4, [0, 3, 4]), (5, [0, 3, 4, 5]), (6, [0, 3, 4, 5, 17]), (7, [0, 3, 4, 5]), (8, [0, 3, 4, 5, 28]), (9, [0, 3, 4, 5]), (10, [2])], tab [(3, [0, 3, 4]), (6, [0, 3, 4, 5])]⟩

/- r11.place -/
def c_r11_place_r0 (F : String → Nat) : List LI := [⟨some 6, .mov (.k (.int .i64 (0))), none⟩]
def c_r11_place_r1 (F : String → Nat) : List LI := [⟨some 7, .mov (.k (.int .i64 (0))), none⟩]
def c_r11_place_r2 (F : String → Nat) : List LI := [⟨some 8, .mov (.t 7), none⟩,
  ⟨some 9, .mov (.t 0), none⟩,
  ⟨some 10, .len (.t 9), none⟩,
  ⟨some 11, .bin .lss (.t 8) (.t 10), none⟩]
def c_r11_place_r3 (F : String → Nat) : List LI := [⟨some 14, .mov (.t 0), none⟩,
  ⟨some 15, .mov (.t 7), none⟩,
  ⟨some 16, .iad 2 (.t 14) (.t 15), none⟩,
  ⟨some 17, .fad 0 (.t 16), none⟩,
  ⟨some 18, .load false 1 (.t 17), none⟩,
  ⟨some 19, .mov (.t 1), none⟩,
  ⟨some 20, .bin .eql (.t 18) (.t 19), none⟩,
  ⟨some 21, .mov (.t 20), none⟩,
  ⟨some 22, .mov (.t 0), some (21, true)⟩,
  ⟨some 23, .mov (.t 7), some (21, true)⟩,
  ⟨some 24, .iad 2 (.t 22) (.t 23), some (21, true)⟩,
  ⟨some 25, .fad 1 (.t 24), some (21, true)⟩,
  ⟨some 26, .load false 1 (.t 25), some (21, true)⟩,
  ⟨some 27, .mov (.t 2), some (21, true)⟩,
  ⟨some 28, .bin .eql (.t 26) (.t 27), some (21, true)⟩,
  ⟨some 29, .pick (.t 21) (.t 28) (.k (.bool false)), none⟩]
def c_r11_place_r4 (F : String → Nat) : List LI := [⟨some 30, .mov (.t 7), none⟩,
  ⟨some 6, .mov (.t 30), none⟩]
def c_r11_place_r5 (F : String → Nat) : List LI := [⟨some 12, .mov (.t 7), none⟩,
  ⟨some 13, .bin .add (.t 12) (.k (.int .i64 (1))), none⟩,
  ⟨some 7, .mov (.t 13), none⟩]
def c_r11_place_b6 (F : String → Nat) : LC := (.seq (.seq (.reg (c_r11_place_r2 F) [0, 1, 2, 7, 11]) (.cond (.t 11) .skip (.exit 0))) (.seq (.block 1 (.seq (.reg (c_r11_place_r3 F) [0, 1, 2, 7, 29]) (.cond (.t 29) (.seq (.reg (c_r11_place_r4 F) [6]) .ret) .skip))) (.reg (c_r11_place_r5 F) [0, 1, 2, 7])))
def c_r11_place_r7 (F : String → Nat) : List LI := [⟨some 6, .mov (.k (.int .i64 (-1))), none⟩]
def c_r11_place (F : String → Nat) : LC := (.seq (.reg (c_r11_place_r0 F) [0, 1, 2]) (.seq (.seq (.reg (c_r11_place_r1 F) [0, 1, 2, 7]) (.block 0 (.loop [0, 1, 2, 7] (c_r11_place_b6 F)))) (.seq (.reg (c_r11_place_r7 F) [6]) .ret)))
def h_r11_place : Hints := ⟨[], fun _ => [], tab [(0, [0, 1, 2]), (1, [0, 1, 2, 7]), (2, [0, 1, 2, 7, 11]), (3, [0, 1, 2, 7]), (4, [0, 1, 2, 7, 29]), (5, [6]), (6, [6])], tab [(2, [0, 1, 2, 7])]⟩

/- r11.SamePairs -/
def c_r11_SamePairs_r0 (F : String → Nat) : List LI := [⟨some 4, .mov (.k (.bool false)), none⟩]
def c_r11_SamePairs_r1 (F : String → Nat) : List LI := [⟨some 6, .mov (.t 0), none⟩,
  ⟨some 7, .len (.t 6), none⟩,
  ⟨some 8, .mov (.t 1), none⟩,
  ⟨some 9, .len (.t 8), none⟩,
  ⟨some 10, .bin .neq (.t 7) (.t 9), none⟩]
def c_r11_SamePairs_r2 (F : String → Nat) : List LI := [⟨some 4, .mov (.k (.bool false)), none⟩]
def c_r11_SamePairs_r3 (F : String → Nat) : List LI := [⟨some 5, .mov (.k (.int .i64 (0))), none⟩]
def c_r11_SamePairs_r4 (F : String → Nat) : List LI := [⟨some 11, .mov (.t 5), none⟩,
  ⟨some 12, .mov (.t 0), none⟩,
  ⟨some 13, .len (.t 12), none⟩,
  ⟨some 14, .bin .lss (.t 11) (.t 13), none⟩]
def c_r11_SamePairs_r5 (F : String → Nat) : List LI := [⟨some 17, .mov (.t 0), none⟩,
  ⟨some 18, .mov (.t 5), none⟩,
  ⟨some 19, .iad 2 (.t 17) (.t 18), none⟩,
  ⟨some 20, .load true 2 (.t 19), none⟩,
  ⟨some 21, .mov (.t 1), none⟩,
  ⟨some 22, .mov (.t 5), none⟩,
  ⟨some 23, .iad 2 (.t 21) (.t 22), none⟩,
  ⟨some 24, .load true 2 (.t 23), none⟩,
  ⟨some 25, .eqA 2 true (.t 20) (.t 24), none⟩]
def c_r11_SamePairs_r6 (F : String → Nat) : List LI := [⟨some 4, .mov (.k (.bool false)), none⟩]
def c_r11_SamePairs_r7 (F : String → Nat) : List LI := [⟨some 15, .mov (.t 5), none⟩,
  ⟨some 16, .bin .add (.t 15) (.k (.int .i64 (1))), none⟩,
  ⟨some 5, .mov (.t 16), none⟩]
def c_r11_SamePairs_b8 (F : String → Nat) : LC := (.seq (.seq (.reg (c_r11_SamePairs_r4 F) [0, 1, 5, 14]) (.cond (.t 14) .skip (.exit 0))) (.seq (.block 1 (.seq (.dreg [] (c_r11_SamePairs_r5 F) [0, 1, 5, 25]) (.cond (.t 25) (.seq (.reg (c_r11_SamePairs_r6 F) [4]) .ret) .skip))) (.reg (c_r11_SamePairs_r7 F) [0, 1, 5])))
def c_r11_SamePairs_r9 (F : String → Nat) : List LI := [⟨some 4, .mov (.k (.bool true)), none⟩]
def c_r11_SamePairs (F : String → Nat) : LC := (.seq (.reg (c_r11_SamePairs_r0 F) [0, 1]) (.seq (.seq (.reg (c_r11_SamePairs_r1 F) [0, 1, 10]) (.cond (.t 10) (.seq (.reg (c_r11_SamePairs_r2 F) [4]) .ret) .skip)) (.seq (.seq (.reg (c_r11_SamePairs_r3 F) [0, 1, 5]) (.block 0 (.loop [0, 1, 5] (c_r11_SamePairs_b8 F)))) (.seq (.reg (c_r11_SamePairs_r9 F) [4]) .ret))))
def h_r11_SamePairs : Hints := ⟨[], fun _ => [], tab [(0, [0, 1]), (1, [0, 1, 10]), (2, [4]), (3, [0, 1, 5]), (4, [0, 1, 5, 14]), (5, [0, 1, 5]), (6, [0, 1, 5, 25]), (7, [4]), (8, [4])], tab [(4, [0, 1, 5])]⟩

/- r11.first -/
def c_r11_first_r0 (F : String → Nat) : List LI := [⟨some 8, .mov (.k (.int .i64 (0))), none⟩]
def c_r11_first_r1 (F : String → Nat) : List LI := [⟨some 9, .mov (.k (.int .i64 (0))), none⟩]
def c_r11_first_r2 (F : String → Nat) : List LI := [⟨some 10, .mov (.t 9), none⟩,
  ⟨some 11, .mov (.t 0), none⟩,
  ⟨some 12, .len (.t 11), none⟩,
  ⟨some 13, .bin .lss (.t 10) (.t 12), none⟩]
def c_r11_first_r3 (F : String → Nat) : List LI := [⟨some 16, .mov (.t 0), none⟩,
  ⟨some 17, .mov (.t 9), none⟩,
  ⟨some 18, .iad 1 (.t 16) (.t 17), none⟩,
  ⟨some 19, .load false 1 (.t 18), none⟩,
  ⟨some 20, .mov (.t 2), none⟩,
  ⟨some 21, .bin .eql (.t 19) (.t 20), none⟩,
  ⟨some 22, .mov (.t 21), none⟩,
  ⟨some 23, .mov (.t 1), some (22, true)⟩,
  ⟨some 24, .mov (.t 9), some (22, true)⟩,
  ⟨some 25, .iad 1 (.t 23) (.t 24), some (22, true)⟩,
  ⟨some 26, .load false 1 (.t 25), some (22, true)⟩,
  ⟨some 27, .mov (.t 3), some (22, true)⟩,
  ⟨some 28, .bin .eql (.t 26) (.t 27), some (22, true)⟩,
  ⟨some 29, .pick (.t 22) (.t 28) (.k (.bool false)), none⟩]
def c_r11_first_r4 (F : String → Nat) : List LI := [⟨some 30, .mov (.t 9), none⟩,
  ⟨some 8, .mov (.t 30), none⟩]
def c_r11_first_r5 (F : String → Nat) : List LI := [⟨some 14, .mov (.t 9), none⟩,
  ⟨some 15, .bin .add (.t 14) (.k (.int .i64 (1))), none⟩,
  ⟨some 9, .mov (.t 15), none⟩]
def c_r11_first_b6 (F : String → Nat) : LC := (.seq (.seq (.reg (c_r11_first_r2 F) [0, 1, 2, 3, 9, 13]) (.cond (.t 13) .skip (.exit 0))) (.seq (.block 1 (.seq (.reg (c_r11_first_r3 F) [0, 1, 2, 3, 9, 29]) (.cond (.t 29) (.seq (.reg (c_r11_first_r4 F) [8]) .ret) .skip))) (.reg (c_r11_first_r5 F) [0, 1, 2, 3, 9])))
def c_r11_first_r7 (F : String → Nat) : List LI := [⟨some 8, .mov (.k (.int .i64 (-1))), none⟩]
def c_r11_first (F : String → Nat) : LC := (.seq (.reg (c_r11_first_r0 F) [0, 1, 2, 3]) (.seq (.seq (.reg (c_r11_first_r1 F) [0, 1, 2, 3, 9]) (.block 0 (.loop [0, 1, 2, 3, 9] (c_r11_first_b6 F)))) (.seq (.reg (c_r11_first_r7 F) [8]) .ret)))
def h_r11_first : Hints := ⟨[], fun _ => [], tab [(0, [0, 1, 2, 3]), (1, [0, 1, 2, 3, 9]), (2, [0, 1, 2, 3, 9, 13]), (3, [0, 1, 2, 3, 9]), (4, [0, 1, 2, 3, 9, 29]), (5, [8]), (6, [8])], tab [(2, [0, 1, 2, 3, 9])]⟩

/- slices.Index.apiPair -/
def c_slices_Index_apiPair_r0 (F : String → Nat) : List LI := [⟨some 3, .bx (.t 1), none⟩,
  ⟨some 4, .mov (.k (.int .i64 (0))), none⟩]
def c_slices_Index_apiPair_r1 (F : String → Nat) : List LI := [⟨some 6, .mov (.t 0), none⟩,
  ⟨some 7, .len (.t 6), none⟩,
  ⟨some 8, .mov (.k (.int .i64 (0))), none⟩]
def c_slices_Index_apiPair_r2 (F : String → Nat) : List LI := [⟨some 9, .bin .lss (.t 8) (.t 7), none⟩]
def c_slices_Index_apiPair_r3 (F : String → Nat) : List LI := [⟨some 10, .mov (.t 8), none⟩,
  ⟨some 5, .mov (.t 10), none⟩]
def c_slices_Index_apiPair_r4 (F : String → Nat) : List LI := [⟨some 11, .load true 2 (.t 3), none⟩,
  ⟨some 12, .mov (.t 0), none⟩,
  ⟨some 13, .mov (.t 5), none⟩,
  ⟨some 14, .iad 2 (.t 12) (.t 13), none⟩,
  ⟨some 15, .load true 2 (.t 14), none⟩,
  ⟨some 16, .eqA 2 false (.t 11) (.t 15), none⟩]
def c_slices_Index_apiPair_r5 (F : String → Nat) : List LI := [⟨some 17, .mov (.t 5), none⟩,
  ⟨some 4, .mov (.t 17), none⟩]
def c_slices_Index_apiPair_r6 (F : String → Nat) : List LI := [⟨some 18, .bin .add (.t 8) (.k (.int .i64 (1))), none⟩,
  ⟨some 8, .mov (.t 18), none⟩]
def c_slices_Index_apiPair_b7 (F : String → Nat) : LC := (.seq (.reg (c_slices_Index_apiPair_r2 F) [0, 3, 7, 8, 9]) (.seq (.cond (.t 9) .skip (.exit 0)) (.seq (.block 1 (.seq (.reg (c_slices_Index_apiPair_r3 F) [0, 3, 5, 7, 8]) (.seq (.dreg [] (c_slices_Index_apiPair_r4 F) [0, 3, 5, 7, 8, 16]) (.cond (.t 16) (.seq (.reg (c_slices_Index_apiPair_r5 F) [4]) .ret) .skip)))) (.reg (c_slices_Index_apiPair_r6 F) [0, 3, 7, 8]))))
def c_slices_Index_apiPair_r8 (F : String → Nat) : List LI := [⟨some 4, .mov (.k (.int .i64 (-1))), none⟩]
def c_slices_Index_apiPair (F : String → Nat) : LC := (.seq (.reg (c_slices_Index_apiPair_r0 F) [0, 3]) (.seq (.seq (.reg (c_slices_Index_apiPair_r1 F) [0, 3, 7, 8]) (.block 0 (.loop [0, 3, 7, 8] (c_slices_Index_apiPair_b7 F)))) (.seq (.reg (c_slices_Index_apiPair_r8 F) [4]) .ret)))
def h_slices_Index_apiPair : Hints := ⟨[], fun _ => [], tab [(0, [0, 3]), (1, [0, 3, 7, 8]), (2, [0, 3, 7, 8, 9]), (3, [0, 3, 5, 7, 8]), (4, [0, 3, 5, 7, 8, 16]), (5, [4]), (6, [0, 3, 7, 8]), (7, [4])], tab [(2, [0, 3, 7, 8])]⟩

/- r07.Same -/
def c_r07_Same_r0 (F : String → Nat) : List LI := [⟨some 2, .bx (.t 0), none⟩,
  ⟨some 3, .bx (.t 1), none⟩,
  ⟨some 4, .mov (.k (.bool false)), none⟩]
def c_r07_Same_r1 (F : String → Nat) : List LI := [⟨some 5, .fad 0 (.t 2), none⟩,
  ⟨some 6, .load false 1 (.t 5), none⟩,
  ⟨some 7, .fad 0 (.t 3), none⟩,
  ⟨some 8, .load false 1 (.t 7), none⟩,
  ⟨some 9, .call (F "r05.SameInts") [.t 6, .t 8] [], none⟩,
  ⟨some 10, .mov (.t 9), none⟩,
  ⟨some 11, .fad 1 (.t 2), some (10, true)⟩,
  ⟨some 12, .load false 1 (.t 11), some (10, true)⟩,
  ⟨some 13, .fad 1 (.t 3), some (10, true)⟩,
  ⟨some 14, .load false 1 (.t 13), some (10, true)⟩,
  ⟨some 15, .call (F "r05.SameInts") [.t 12, .t 14] [], some (10, true)⟩,
  ⟨some 16, .pick (.t 10) (.t 15) (.k (.bool false)), none⟩,
  ⟨some 4, .mov (.t 16), none⟩]
def c_r07_Same (F : String → Nat) : LC := (.seq (.reg (c_r07_Same_r0 F) [2, 3]) (.seq (.reg (c_r07_Same_r1 F) [4]) .ret))
def h_r07_Same : Hints := ⟨[], fun _ => [], tab [(0, [2, 3]), (1, [4])], tab []⟩

/- r06.Distinct -/
def c_r06_Distinct_r0 (F : String → Nat) : List LI := [⟨some 2, .mov (.k (.bool false)), none⟩]
def c_r06_Distinct_r1 (F : String → Nat) : List LI := [⟨some 3, .mov (.k (.int .i64 (0))), none⟩]
def c_r06_Distinct_r2 (F : String → Nat) : List LI := [⟨some 5, .mov (.t 3), none⟩,
  ⟨some 6, .mov (.t 0), none⟩,
  ⟨some 7, .len (.t 6), none⟩,
  ⟨some 8, .bin .lss (.t 5) (.t 7), none⟩]
def c_r06_Distinct_r3 (F : String → Nat) : List LI := [⟨some 4, .mov (.k (.int .i64 (0))), none⟩]
def c_r06_Distinct_r4 (F : String → Nat) : List LI := [⟨some 11, .mov (.t 4), none⟩,
  ⟨some 12, .mov (.t 3), none⟩,
  ⟨some 13, .bin .lss (.t 11) (.t 12), none⟩]
def c_r06_Distinct_r5 (F : String → Nat) : List LI := [⟨some 16, .mov (.t 0), none⟩,
  ⟨some 17, .mov (.t 3), none⟩,
  ⟨some 18, .iad 1 (.t 16) (.t 17), none⟩,
  ⟨some 19, .load false 1 (.t 18), none⟩,
  ⟨some 20, .mov (.t 0), none⟩,
  ⟨some 21, .mov (.t 4), none⟩,
  ⟨some 22, .iad 1 (.t 20) (.t 21), none⟩,
  ⟨some 23, .load false 1 (.t 22), none⟩,
  ⟨some 24, .bin .eql (.t 19) (.t 23), none⟩]
def c_r06_Distinct_r6 (F : String → Nat) : List LI := [⟨some 2, .mov (.k (.bool false)), none⟩]
def c_r06_Distinct_r7 (F : String → Nat) : List LI := [⟨some 14, .mov (.t 4), none⟩,
  ⟨some 15, .bin .add (.t 14) (.k (.int .i64 (1))), none⟩,
  ⟨some 4, .mov (.t 15), none⟩]
def c_r06_Distinct_b8 (F : String → Nat) : LC := (.seq (.seq (.reg (c_r06_Distinct_r4 F) [0, 3, 4, 13]) (.cond (.t 13) .skip (.exit 2))) (.seq (.block 3 (.seq (.dreg [] (c_r06_Distinct_r5 F) [0, 3, 4, 24]) (.cond (.t 24) (.seq (.reg (c_r06_Distinct_r6 F) [2]) .ret) .skip))) (.reg (c_r06_Distinct_r7 F) [0, 3, 4])))
def c_r06_Distinct_r9 (F : String → Nat) : List LI := [⟨some 9, .mov (.t 3), none⟩,
  ⟨some 10, .bin .add (.t 9) (.k (.int .i64 (1))), none⟩,
  ⟨some 3, .mov (.t 10), none⟩]
def c_r06_Distinct_b10 (F : String → Nat) : LC := (.seq (.seq (.reg (c_r06_Distinct_r2 F) [0, 3, 8]) (.cond (.t 8) .skip (.exit 0))) (.seq (.block 1 (.seq (.reg (c_r06_Distinct_r3 F) [0, 3, 4]) (.block 2 (.loop [0, 3, 4] (c_r06_Distinct_b8 F))))) (.reg (c_r06_Distinct_r9 F) [0, 3])))
def c_r06_Distinct_r11 (F : String → Nat) : List LI := [⟨some 2, .mov (.k (.bool true)), none⟩]
def c_r06_Distinct (F : String → Nat) : LC := (.seq (.reg (c_r06_Distinct_r0 F) [0]) (.seq (.seq (.reg (c_r06_Distinct_r1 F) [0, 3]) (.block 0 (.loop [0, 3] (c_r06_Distinct_b10 F)))) (.seq (.reg (c_r06_Distinct_r11 F) [2]) .ret)))
def h_r06_Distinct : Hints := ⟨[], fun _ => [], tab [(0, [0]), (1, [0, 3]), (2, [0, 3, 8]), (3, [0, 3]), (4, [0, 3, 4]), (5, [0, 3, 4, 13]), (6, [0, 3, 4]), (7, [0, 3, 4, 24]), (8, [2]), (9, [2])], tab [(2, [0, 3]), (5, [0, 3, 4])]⟩

/- r06.Injective -/
def c_r06_Injective_r0 (F : String → Nat) : List LI := [⟨some 3, .bx (.t 0), none⟩,
  ⟨some 4, .bx (.t 1), none⟩,
  ⟨some 5, .bx (.t 2), none⟩,
  ⟨some 6, .mov (.k (.bool false)), none⟩]
def c_r06_Injective_r1 (F : String → Nat) : List LI := [⟨some 7, .load true 2 (.t 3), none⟩,
  ⟨some 8, .load true 2 (.t 4), none⟩,
  ⟨some 9, .load true 2 (.t 5), none⟩,
  ⟨some 10, .call (F "r06.Valid") [.t 7, .t 8, .t 9] [], none⟩,
  ⟨some 11, .bin .eql (.t 10) (.k (.int .i64 (0))), none⟩,
  ⟨some 12, .mov (.t 11), none⟩,
  ⟨some 13, .fad 0 (.t 5), some (12, true)⟩,
  ⟨some 14, .load false 1 (.t 13), some (12, true)⟩,
  ⟨some 15, .call (F "r06.Distinct") [.t 14] [], some (12, true)⟩,
  ⟨some 16, .pick (.t 12) (.t 15) (.k (.bool false)), none⟩,
  ⟨some 17, .mov (.t 16), none⟩,
  ⟨some 18, .fad 1 (.t 5), some (17, true)⟩,
  ⟨some 19, .load false 1 (.t 18), some (17, true)⟩,
  ⟨some 20, .call (F "r06.Distinct") [.t 19] [], some (17, true)⟩,
  ⟨some 21, .pick (.t 17) (.t 20) (.k (.bool false)), none⟩,
  ⟨some 6, .mov (.t 21), none⟩]
def c_r06_Injective (F : String → Nat) : LC := (.seq (.reg (c_r06_Injective_r0 F) [3, 4, 5]) (.seq (.reg (c_r06_Injective_r1 F) [6]) .ret))
def h_r06_Injective : Hints := ⟨[], fun _ => [], tab [(0, [3, 4, 5]), (1, [6])], tab []⟩

attribute [go_sem] c_pullback_pairs_r0 c_pullback_pairs_r1 c_pullback_pairs_r2 c_pullback_pairs_r3 c_pullback_pairs_r4 c_pullback_pairs_r5 c_pullback_pairs_r6 c_pullback_pairs_r7 c_pullback_pairs_r8 c_pullback_pairs_r9 c_pullback_pairs_r10 c_pullback_pairs_r12 c_pullback_pairs_r14 c_pullback_pairs c_r11_pairs_r0 c_r11_pairs_r1 c_r11_pairs_r2 c_r11_pairs_r3 c_r11_pairs_r4 c_r11_pairs_r5 c_r11_pairs_r6 c_r11_pairs_r7 c_r11_pairs_r8 c_r11_pairs_r10 c_r11_pairs_r12 c_r11_pairs c_pullback_sides_r0 c_pullback_sides_r1 c_pullback_sides_r2 c_pullback_sides_r3 c_pullback_sides_r4 c_pullback_sides_r5 c_pullback_sides_r6 c_pullback_sides_r8 c_pullback_sides c_r11_sides_r0 c_r11_sides_r1 c_r11_sides_r2 c_r11_sides_r3 c_r11_sides_r4 c_r11_sides_r5 c_r11_sides_r7 c_r11_sides c_pullback_equal_r0 c_pullback_equal_r1 c_pullback_equal_r2 c_pullback_equal_r3 c_pullback_equal_r4 c_pullback_equal_r5 c_pullback_equal_r6 c_pullback_equal_r7 c_pullback_equal_r9 c_pullback_equal c_r11_agree_r0 c_r11_agree_r1 c_r11_agree_r2 c_r11_agree_r3 c_r11_agree_r4 c_r11_agree_r5 c_r11_agree_r6 c_r11_agree_r8 c_r11_agree c_r11_equal_r0 c_r11_equal_r1 c_r11_equal_r2 c_r11_equal_r3 c_r11_equal_r4 c_r11_equal_r5 c_r11_equal_r6 c_r11_equal_r7 c_r11_equal_r8 c_r11_equal_r10 c_r11_equal_r12 c_r11_equal c_r11_place_r0 c_r11_place_r1 c_r11_place_r2 c_r11_place_r3 c_r11_place_r4 c_r11_place_r5 c_r11_place_r7 c_r11_place c_r11_SamePairs_r0 c_r11_SamePairs_r1 c_r11_SamePairs_r2 c_r11_SamePairs_r3 c_r11_SamePairs_r4 c_r11_SamePairs_r5 c_r11_SamePairs_r6 c_r11_SamePairs_r7 c_r11_SamePairs_r9 c_r11_SamePairs c_r11_first_r0 c_r11_first_r1 c_r11_first_r2 c_r11_first_r3 c_r11_first_r4 c_r11_first_r5 c_r11_first_r7 c_r11_first c_slices_Index_apiPair_r0 c_slices_Index_apiPair_r1 c_slices_Index_apiPair_r2 c_slices_Index_apiPair_r3 c_slices_Index_apiPair_r4 c_slices_Index_apiPair_r5 c_slices_Index_apiPair_r6 c_slices_Index_apiPair_r8 c_slices_Index_apiPair c_r07_Same_r0 c_r07_Same_r1 c_r07_Same c_r06_Distinct_r0 c_r06_Distinct_r1 c_r06_Distinct_r2 c_r06_Distinct_r3 c_r06_Distinct_r4 c_r06_Distinct_r5 c_r06_Distinct_r6 c_r06_Distinct_r7 c_r06_Distinct_r9 c_r06_Distinct_r11 c_r06_Distinct c_r06_Injective_r0 c_r06_Injective_r1 c_r06_Injective
/-- A pair. -/
structure Pr where
  a : Int
  b : Int
  deriving DecidableEq, Inhabited
def prD (x : Pr) : D := .agg [.int .i64 x.a, .int .i64 x.b]
def prs (l : List Pr) : List D := l.map prD
theorem prs_length (l : List Pr) : (prs l).length = l.length := by simp [prs]
theorem prs_snoc (l : List Pr) (a b : Int) : prs l ++ [.agg [.int .i64 a, .int .i64 b]] = prs (l ++ [⟨a, b⟩]) := by simp [prs, prD]
theorem prs_app (l m : List Pr) : prs l ++ prs m = prs (l ++ m) := by simp [prs]
theorem flat_prs (l : List Pr) : (prs l).all D.flatE = true := by simp [prs, prD, D.flatE, D.flat0]
theorem prs_at {l : List Pr} {j : Int} (h0 : 0 ≤ j) (h : j < l.length) : (prs l)[j.toNat]? = some (.agg [.int .i64 (gt l j).a, .int .i64 (gt l j).b]) := by
  unfold prs
  rw [List.getElem?_map, get_gt h0 h]; rfl
theorem prs_atn {l : List Pr} {i : Nat} (h : i < l.length) : (prs l)[i]? = some (.agg [.int .i64 (gt l i).a, .int .i64 (gt l i).b]) := by
  have := prs_at (l := l) (j := i) (by omega) (by omega)
  simpa using this
theorem prs_set {l : List Pr} {i : Nat} {a b : Int} : (prs l).set i (.agg [.int .i64 a, .int .i64 b]) = prs (l.set i ⟨a, b⟩) := by simp [prs, List.map_set, prD]
theorem prs_take {l : List Pr} {n : Nat} : (prs l).take n = prs (l.take n) := by simp [prs, List.map_take]
theorem prs_drop {l : List Pr} {n : Nat} : (prs l).drop n = prs (l.drop n) := by simp [prs, List.map_drop]
theorem prs_nil : prs [] = [] := rfl
theorem eqPr (a b : Pr) : a = b ↔ a.a = b.a ∧ a.b = b.b := by cases a; cases b; simp
attribute [go_sem] prs_length prs_snoc prs_app flat_prs prs_at prs_set prs_take prs_drop
attribute [go_sem low] prs_atn
/-- The numbers below `n` that have a property. -/
def sel (p : Nat → Bool) (n : Nat) : List Int := ((List.range n).filter p).map fun i : Nat => (i : Int)
theorem sel_zero (p : Nat → Bool) : sel p 0 = [] := rfl
theorem sel_succ (p : Nat → Bool) (n : Nat) : sel p (n + 1) = if p n = true then sel p n ++ [(n : Int)] else sel p n := by
  simp only [sel, List.range_succ, List.filter_append, List.filter_cons, List.filter_nil, List.map_append]
  split <;> simp
theorem sel_len (p : Nat → Bool) (n : Nat) : (sel p n).length ≤ n := by
  simp only [sel, List.length_map]
  exact Nat.le_trans (List.length_filter_le _ _) (by simp)
def eqAt (f g : List Int) (i : Nat) : Bool := decide (gt f i = gt g i)
def agreeL (f g : List Int) : List Int := sel (eqAt f g) f.length
def rowP (f g : List Int) (i k : Nat) : List Pr := ((List.range k).filter fun k : Nat => decide (gt f i = gt g k)).map fun k : Nat => ⟨i, k⟩
def pairsI (f g : List Int) (i : Nat) : List Pr := (List.range i).flatMap fun i => rowP f g i g.length
def pairsL (f g : List Int) : List Pr := pairsI f g f.length
theorem rowP_zero (f g : List Int) (i : Nat) : rowP f g i 0 = [] := rfl
theorem rowP_succ (f g : List Int) (i k : Nat) : rowP f g i (k + 1) = if gt f i = gt g k then rowP f g i k ++ [⟨i, k⟩] else rowP f g i k := by
  simp only [rowP, List.range_succ, List.filter_append, List.filter_cons, List.filter_nil, List.map_append, decide_eq_true_eq]
  split <;> simp
theorem rowP_len (f g : List Int) (i k : Nat) : (rowP f g i k).length ≤ k := by
  simp only [rowP, List.length_map]
  exact Nat.le_trans (List.length_filter_le _ _) (by simp)
theorem pairsI_zero (f g : List Int) : pairsI f g 0 = [] := rfl
theorem pairsI_succ (f g : List Int) (i : Nat) : pairsI f g (i + 1) = pairsI f g i ++ rowP f g i g.length := by simp [pairsI, List.range_succ]
theorem pairsI_len (f g : List Int) (i : Nat) : (pairsI f g i).length ≤ i * g.length := by
  induction i with
  | zero => simp [pairsI_zero]
  | succ i ih => rw [pairsI_succ, List.length_append, Nat.succ_mul]; have := rowP_len f g i g.length; omega
def accP (f g : List Int) (i k : Nat) : List Pr := pairsI f g i ++ rowP f g i k
theorem accP_zero (f g : List Int) (i : Nat) : accP f g i 0 = pairsI f g i := by simp [accP, rowP_zero]
theorem accP_succ (f g : List Int) (i k : Nat) : accP f g i (k + 1) = if gt f i = gt g k then accP f g i k ++ [⟨i, k⟩] else accP f g i k := by
  simp only [accP, rowP_succ]; split <;> simp
theorem accP_end (f g : List Int) (i : Nat) : accP f g i g.length = pairsI f g (i + 1) := by simp [accP, pairsI_succ]
theorem accP_len {f g : List Int} (hf : f.length ≤ 10000) (hg : g.length ≤ 10000) {i k : Nat} (h1 : i < f.length) (h2 : k ≤ g.length) : (accP f g i k).length ≤ 100000000 := by
  unfold accP
  rw [List.length_append]
  have a1 := pairsI_len f g i
  have a2 := rowP_len f g i k
  have a3 : i * g.length ≤ 9999 * 10000 := Nat.mul_le_mul (by omega) hg
  omega
def rowE (f : List Int) (i k : Nat) : List Pr := ((List.range k).filter fun k : Nat => decide (i < k) && decide (gt f i = gt f k)).map fun k : Nat => ⟨i, k⟩
def equalI (f : List Int) (i : Nat) : List Pr := (List.range i).flatMap fun i => rowE f i f.length
def equalL (f : List Int) : List Pr := equalI f f.length
theorem rowE_low (f : List Int) (i : Nat) : rowE f i (i + 1) = [] := by
  simp only [rowE, List.map_eq_nil_iff, List.filter_eq_nil_iff, List.mem_range, Bool.and_eq_true, decide_eq_true_eq, not_and]
  intro k h1 h2; omega
theorem rowE_succ (f : List Int) (i k : Nat) (h : i < k) : rowE f i (k + 1) = if gt f i = gt f k then rowE f i k ++ [⟨i, k⟩] else rowE f i k := by
  simp only [rowE, List.range_succ, List.filter_append, List.filter_cons, List.filter_nil, List.map_append, decide_eq_true_eq, Bool.and_eq_true, h, true_and]
  split <;> simp
theorem rowE_len (f : List Int) (i k : Nat) : (rowE f i k).length ≤ k := by
  simp only [rowE, List.length_map]
  exact Nat.le_trans (List.length_filter_le _ _) (by simp)
theorem equalI_succ (f : List Int) (i : Nat) : equalI f (i + 1) = equalI f i ++ rowE f i f.length := by simp [equalI, List.range_succ]
theorem equalI_len (f : List Int) (i : Nat) : (equalI f i).length ≤ i * f.length := by
  induction i with
  | zero => simp [equalI]
  | succ i ih => rw [equalI_succ, List.length_append, Nat.succ_mul]; have := rowE_len f i f.length; omega
def accE (f : List Int) (i k : Nat) : List Pr := equalI f i ++ rowE f i k
theorem accE_low (f : List Int) (i : Nat) : accE f i (i + 1) = equalI f i := by simp [accE, rowE_low]
theorem accE_succ (f : List Int) (i k : Nat) (h : i < k) : accE f i (k + 1) = if gt f i = gt f k then accE f i k ++ [⟨i, k⟩] else accE f i k := by
  simp only [accE, rowE_succ f i k h]; split <;> simp
theorem accE_end (f : List Int) (i : Nat) : accE f i f.length = equalI f (i + 1) := by simp [accE, equalI_succ]
theorem accE_len {f : List Int} (hf : f.length ≤ 10000) {i k : Nat} (h1 : i < f.length) (h2 : k ≤ f.length) : (accE f i k).length ≤ 100000000 := by
  unfold accE
  rw [List.length_append]
  have a1 := equalI_len f i
  have a2 := rowE_len f i k
  have a3 : i * f.length ≤ 9999 * 10000 := Nat.mul_le_mul (by omega) hf
  omega
/-- Pairs of equal elements are those of all equal pairs that ascend. -/
theorem equal_pairs (f : List Int) : (pairsL f f).filter (fun p => decide (p.a < p.b)) = equalL f := by
  unfold pairsL pairsI equalL equalI
  rw [List.filter_flatMap]
  congr 1
  funext i
  unfold rowP rowE
  rw [List.filter_map, List.filter_filter]
  congr 1
  apply List.filter_congr
  intro k _
  simp only [Function.comp]
  rw [Bool.eq_iff_iff]
  simp
def asA (l : List Pr) : List Int := l.map (·.a)
def asB (l : List Pr) : List Int := l.map (·.b)
def distinct (l : List Int) : Bool := decide l.Nodup
def injM (a b : G) (m : Mo) : Bool := decide (validM a b m = 0) && (distinct m.n && distinct m.e)
/-- The place of a pair. -/
def at2 (p q : List Int) (a b : Int) : List Int → Int → Int
  | [], _ => -1
  | _ :: l, i => if gt p i = a ∧ gt q i = b then i else at2 p q a b l (i + 1)
section
variable (P : Program) (F : String → Nat)
def K_pullback_pairs : Prop := ∀ f g : List Int, f.length ≤ 10000 → g.length ≤ 10000 → FC P (F "pullback.pairs") [.lst 1 (ints f), .lst 1 (ints g)] (.arr 2 (prs (pairsL f g))) []
def K_r11_pairs : Prop := ∀ (f g : List Int) (m : Nat), f.length ≤ 10000 → g.length ≤ 10000 → m ≤ 10000 → FC P (F "r11.pairs") [.lst 1 (ints f), .lst 1 (ints g), .int .i64 m] (.arr 2 (prs ((pairsL f g).take (m + 1)))) []
def K_pullback_sides : Prop := ∀ l : List Pr, l.length ≤ 10000 → FC P (F "pullback.sides") [.lst 2 (prs l)] (.tup [.arr 1 (ints (asA l)), .arr 1 (ints (asB l))]) []
def K_r11_sides : Prop := ∀ l : List Pr, l.length ≤ 10000 → FC P (F "r11.sides") [.lst 2 (prs l)] (.tup [.arr 1 (ints (asA l)), .arr 1 (ints (asB l))]) []
def K_pullback_equal : Prop := ∀ f g : List Int, f.length ≤ 10000 → g.length = f.length → FC P (F "pullback.equal") [.lst 1 (ints f), .lst 1 (ints g)] (.arr 1 (ints (agreeL f g))) []
def K_r11_agree : Prop := ∀ f g : List Int, f.length ≤ 10000 → g.length = f.length → FC P (F "r11.agree") [.lst 1 (ints f), .lst 1 (ints g)] (.arr 1 (ints (agreeL f g))) []
def K_r11_equal : Prop := ∀ f : List Int, f.length ≤ 10000 → FC P (F "r11.equal") [.lst 1 (ints f)] (.arr 2 (prs (equalL f))) []
def K_r11_place : Prop := ∀ (l : List Pr) (a b : Int), l.length ≤ maxL → FC P (F "r11.place") [.lst 2 (prs l), .int .i64 a, .int .i64 b] (.int .i64 (idx (fun p => decide (p = ⟨a, b⟩)) l 0)) []
def K_slices_Index_apiPair : Prop := ∀ (l : List Pr) (a b : Int), l.length ≤ maxL → FC P (F "slices.Index.apiPair") [.lst 2 (prs l), .agg [.int .i64 a, .int .i64 b]] (.int .i64 (idx (fun p => decide (p = ⟨a, b⟩)) l 0)) []
def K_r11_SamePairs : Prop := ∀ a b : List Pr, a.length ≤ maxL → FC P (F "r11.SamePairs") [.lst 2 (prs a), .lst 2 (prs b)] (.bool (decide (a = b))) []
def K_r11_first : Prop := ∀ (p q : List Int) (a b : Int), p.length ≤ maxL → q.length = p.length → FC P (F "r11.first") [.lst 1 (ints p), .lst 1 (ints q), .int .i64 a, .int .i64 b] (.int .i64 (at2 p q a b p 0)) []
def K_r07_Same : Prop := ∀ a b : Mo, a.n.length ≤ maxL → a.e.length ≤ maxL → FC P (F "r07.Same") [mD a, mD b] (.bool (decide (a = b))) []
def K_r06_Distinct : Prop := ∀ l : List Int, l.length ≤ maxL → FC P (F "r06.Distinct") [.lst 1 (ints l)] (.bool (distinct l)) []
def K_r06_Injective : Prop := ∀ (a b : G) (m : Mo), m.n.length ≤ maxL → m.e.length ≤ maxL → FC P (F "r06.Injective") [gD a, gD b, mD m] (.bool (injM a b m)) []
end
section
variable {P : Program} {F : String → Nat} {α : Type}
theorem w_pullback_pairs (f g : List Int) (hf : f.length ≤ 10000) (hg : g.length ≤ 10000) : W P (c_pullback_pairs F) (Done [.t 4] [] (.arr 2 (prs (pairsL f g))) []) (init [.lst 1 (ints f), .lst 1 (ints g)]) := by
  refine W_of ?_
  simp (config := { maxSteps := 1000000 }) (disch := first | omega | (simp only [go_sem]; omega)) only [go_sem, ↓reduceIte]
  refine W_loop (fun i : Nat => ⟨[(1, .lst 1 (ints g)), (5, .sl 0 0 (pairsI f g i).length), (10, .lst 1 (ints f)), (11, .int .i64 f.length), (12, .int .i64 i)], [(0, .arr 2 (prs (pairsI f g i)))], 1⟩) (fun i => i ≤ f.length) (fun i => f.length - i) 0 ?_ ?_ ?_
  · simp (config := { maxSteps := 1000000 }) (disch := first | omega | (simp only [go_sem]; omega)) only [go_sem, ↓reduceIte, pairsI_zero]
    rfl
  · simp
  · intro i hi
    simp (config := { maxSteps := 1000000 }) (disch := first | omega | (simp only [go_sem]; omega)) only [go_sem, ↓reduceIte, c_pullback_pairs_b13]
    refine bran_dec (fun c => ?_) (fun c => ?_)
    · simp (config := { maxSteps := 1000000 }) (disch := first | omega | (simp only [go_sem]; omega)) only [go_sem, ↓reduceIte]
      refine W_loop (fun k : Nat => ⟨[(1, .lst 1 (ints g)), (5, .sl 0 0 (accP f g i k).length), (6, .int .i64 i), (7, .int .i64 (gt f i)), (10, .lst 1 (ints f)), (11, .int .i64 f.length), (12, .int .i64 i), (17, .lst 1 (ints g)), (18, .int .i64 g.length), (19, .int .i64 k)],
        [(0, .arr 2 (prs (accP f g i k)))], 1⟩) (fun k => k ≤ g.length) (fun k => g.length - k) 0 ?_ ?_ ?_
      · simp (config := { maxSteps := 1000000 }) (disch := first | omega | (simp only [go_sem]; omega)) only [go_sem, ↓reduceIte, accP_zero]
        rfl
      · simp
      · intro k hk
        have b1 := accP_len hf hg (i := i) (k := k) (by omega) (by omega)
        simp (config := { maxSteps := 1000000 }) (disch := first | omega | (simp only [go_sem]; omega)) only [go_sem, ↓reduceIte, c_pullback_pairs_b11]
        refine bran_dec (fun d => ?_) (fun d => ?_)
        · have hs := accP_succ f g i k
          simp (config := { maxSteps := 1000000 }) (disch := first | omega | (simp only [go_sem]; omega)) only [go_sem, ↓reduceIte]
          refine bran_dec (fun e => ?_) (fun e => ?_)
          · rw [if_pos e] at hs
            simp (config := { maxSteps := 1000000 }) (disch := first | omega | (simp only [go_sem]; omega)) only [go_sem, ↓reduceIte]
            exact ⟨k + 1, by simp [hs], by omega, by omega⟩
          · rw [if_neg e] at hs
            simp (config := { maxSteps := 1000000 }) (disch := first | omega | (simp only [go_sem]; omega)) only [go_sem, ↓reduceIte]
            exact ⟨k + 1, by simp [hs], by omega, by omega⟩
        · obtain rfl : k = g.length := by omega
          simp (config := { maxSteps := 1000000 }) (disch := first | omega | (simp only [go_sem]; omega)) only [go_sem, ↓reduceIte]
          exact ⟨i + 1, by simp [accP_end], by omega, by omega⟩
    · obtain rfl : i = f.length := by omega
      simp (config := { maxSteps := 1000000 }) (disch := first | omega | (simp only [go_sem]; omega)) only [go_sem, ↓reduceIte]
      rfl
theorem w_r11_pairs (f g : List Int) (m : Nat) (hf : f.length ≤ 10000) (hg : g.length ≤ 10000) (hm : m ≤ 10000) : W P (c_r11_pairs F) (Done [.t 6] [] (.arr 2 (prs ((pairsL f g).take (m + 1)))) []) (init [.lst 1 (ints f), .lst 1 (ints g), .int .i64 m]) := by
  refine W_of ?_
  simp (config := { maxSteps := 1000000 }) (disch := first | omega | (simp only [go_sem]; omega)) only [go_sem, ↓reduceIte]
  refine W_loop (fun i : Nat => ⟨[(0, .lst 1 (ints f)), (1, .lst 1 (ints g)), (2, .int .i64 m), (7, .sl 0 0 ((pairsI f g i).take (m + 1)).length), (8, .int .i64 i)], [(0, .arr 2 (prs ((pairsI f g i).take (m + 1))))], 1⟩) (fun i => i ≤ f.length) (fun i => f.length - i) 0 ?_ ?_ ?_
  · simp (config := { maxSteps := 1000000 }) (disch := first | omega | (simp only [go_sem]; omega)) only [go_sem, ↓reduceIte, pairsI_zero]
    rfl
  · simp
  · intro i hi
    simp (config := { maxSteps := 1000000 }) (disch := first | omega | (simp only [go_sem]; omega)) only [go_sem, ↓reduceIte, c_r11_pairs_b11]
    refine bran_dec (fun c => ?_) (fun c => ?_)
    · simp (config := { maxSteps := 1000000 }) (disch := first | omega | (simp only [go_sem]; omega)) only [go_sem, ↓reduceIte]
      refine W_loop (fun k : Nat => ⟨[(0, .lst 1 (ints f)), (1, .lst 1 (ints g)), (2, .int .i64 m), (7, .sl 0 0 ((accP f g i k).take (m + 1)).length), (8, .int .i64 i), (9, .int .i64 k)],
        [(0, .arr 2 (prs ((accP f g i k).take (m + 1))))], 1⟩) (fun k => k ≤ g.length) (fun k => g.length - k) 0 ?_ ?_ ?_
      · simp (config := { maxSteps := 1000000 }) (disch := first | omega | (simp only [go_sem]; omega)) only [go_sem, ↓reduceIte, accP_zero]
        rfl
      · simp
      · intro k hk
        have b1 : ((accP f g i k).take (m + 1)).length = min (m + 1) (accP f g i k).length := by simp
        simp (config := { maxSteps := 1000000 }) (disch := first | omega | (simp only [go_sem]; omega)) only [go_sem, ↓reduceIte, c_r11_pairs_b9]
        refine bran_dec (fun d => ?_) (fun d => ?_)
        · have hs := accP_succ f g i k
          simp (config := { maxSteps := 1000000 }) (disch := first | omega | (simp only [go_sem]; omega)) only [go_sem, ↓reduceIte]
          refine bran_dec (fun e => ?_) (fun e => ?_)
          · rw [if_pos e] at hs
            simp (config := { maxSteps := 1000000 }) (disch := first | omega | (simp only [go_sem]; omega)) only [go_sem, ↓reduceIte, e]
            refine bran_dec (fun h => ?_) (fun h => ?_)
            · have e1 : (accP f g i k).take (m + 1) = accP f g i k := List.take_of_length_le (by omega)
              have e2 : (accP f g i (k + 1)).take (m + 1) = accP f g i k ++ [⟨i, k⟩] := by rw [hs]; exact List.take_of_length_le (by simp; omega)
              rw [e1] at h b1
              simp (config := { maxSteps := 1000000 }) (disch := first | omega | (simp only [go_sem]; omega)) only [go_sem, ↓reduceIte, e1]
              exact ⟨k + 1, by rw [e2]; simp, by omega, by omega⟩
            · have e2 : (accP f g i (k + 1)).take (m + 1) = (accP f g i k).take (m + 1) := by
                rw [hs]; exact List.take_append_of_le_length (by omega)
              simp (config := { maxSteps := 1000000 }) (disch := first | omega | (simp only [go_sem]; omega)) only [go_sem, ↓reduceIte, h]
              exact ⟨k + 1, by rw [e2]; simp, by omega, by omega⟩
          · rw [if_neg e] at hs
            simp (config := { maxSteps := 1000000 }) (disch := first | omega | (simp only [go_sem]; omega)) only [go_sem, ↓reduceIte, e]
            exact ⟨k + 1, by simp [hs], by omega, by omega⟩
        · obtain rfl : k = g.length := by omega
          simp (config := { maxSteps := 1000000 }) (disch := first | omega | (simp only [go_sem]; omega)) only [go_sem, ↓reduceIte]
          exact ⟨i + 1, by simp [accP_end], by omega, by omega⟩
    · obtain rfl : i = f.length := by omega
      simp (config := { maxSteps := 1000000 }) (disch := first | omega | (simp only [go_sem]; omega)) only [go_sem, ↓reduceIte]
      rfl
theorem asA_take {l : List Pr} {i : Nat} (h : i < l.length) : asA (l.take (i + 1)) = asA (l.take i) ++ [(gt l i).a] := by rw [take_gt h]; simp [asA]
theorem asB_take {l : List Pr} {i : Nat} (h : i < l.length) : asB (l.take (i + 1)) = asB (l.take i) ++ [(gt l i).b] := by rw [take_gt h]; simp [asB]
theorem asA_len {l : List Pr} {i : Nat} (h : i ≤ l.length) : (asA (l.take i)).length = i := by simp [asA]; omega
theorem asB_len {l : List Pr} {i : Nat} (h : i ≤ l.length) : (asB (l.take i)).length = i := by simp [asB]; omega
theorem w_pullback_sides (l : List Pr) (hl : l.length ≤ 10000) : W P (c_pullback_sides F) (Done [.t 2, .t 3] [] (.tup [.arr 1 (ints (asA l)), .arr 1 (ints (asB l))]) []) (init [.lst 2 (prs l)]) := by
  refine W_of ?_
  simp (config := { maxSteps := 1000000 }) (disch := first | omega | (simp only [go_sem]; omega)) only [go_sem, ↓reduceIte]
  refine W_loop (fun i : Nat => ⟨[(4, .sl 0 0 i), (5, .sl 1 0 i), (8, .lst 2 (prs l)), (9, .int .i64 l.length), (10, .int .i64 i)], [(0, .arr 1 (ints (asA (l.take i)))), (1, .arr 1 (ints (asB (l.take i))))], 2⟩) (fun i => i ≤ l.length) (fun i => l.length - i) 0 ?_ ?_ ?_
  · simp (config := { maxSteps := 1000000 }) (disch := first | omega | (simp only [go_sem]; omega)) only [go_sem, ↓reduceIte]
    rfl
  · simp
  · intro i hi
    have e1 := asA_len hi
    have e2 := asB_len hi
    simp (config := { maxSteps := 1000000 }) (disch := first | omega | (simp only [go_sem]; omega)) only [go_sem, ↓reduceIte, c_pullback_sides_b7]
    refine bran_dec (fun c => ?_) (fun c => ?_)
    · simp (config := { maxSteps := 1000000 }) (disch := first | omega | (simp only [go_sem]; omega)) only [go_sem, ↓reduceIte, e1, e2]
      exact ⟨i + 1, by simp [asA_take (show i < l.length by omega), asB_take (show i < l.length by omega)], by omega, by omega⟩
    · simp (config := { maxSteps := 1000000 }) (disch := first | omega | (simp only [go_sem]; omega)) only [go_sem, ↓reduceIte, e1, e2]
      rw [List.take_of_length_le (by omega)]
theorem w_r11_sides (l : List Pr) (hl : l.length ≤ 10000) : W P (c_r11_sides F) (Done [.t 2, .t 3] [] (.tup [.arr 1 (ints (asA l)), .arr 1 (ints (asB l))]) []) (init [.lst 2 (prs l)]) := by
  refine W_of ?_
  simp (config := { maxSteps := 1000000 }) (disch := first | omega | (simp only [go_sem]; omega)) only [go_sem, ↓reduceIte]
  refine W_loop (fun i : Nat => ⟨[(0, .lst 2 (prs l)), (4, .sl 0 0 i), (5, .sl 1 0 i), (6, .int .i64 i)], [(0, .arr 1 (ints (asA (l.take i)))), (1, .arr 1 (ints (asB (l.take i))))], 2⟩) (fun i => i ≤ l.length) (fun i => l.length - i) 0 ?_ ?_ ?_
  · simp (config := { maxSteps := 1000000 }) (disch := first | omega | (simp only [go_sem]; omega)) only [go_sem, ↓reduceIte]
    rfl
  · simp
  · intro i hi
    have e1 := asA_len hi
    have e2 := asB_len hi
    simp (config := { maxSteps := 1000000 }) (disch := first | omega | (simp only [go_sem]; omega)) only [go_sem, ↓reduceIte, c_r11_sides_b6]
    refine bran_dec (fun c => ?_) (fun c => ?_)
    · simp (config := { maxSteps := 1000000 }) (disch := first | omega | (simp only [go_sem]; omega)) only [go_sem, ↓reduceIte, e1, e2]
      exact ⟨i + 1, by simp [asA_take (show i < l.length by omega), asB_take (show i < l.length by omega)], by omega, by omega⟩
    · simp (config := { maxSteps := 1000000 }) (disch := first | omega | (simp only [go_sem]; omega)) only [go_sem, ↓reduceIte, e1, e2]
      rw [List.take_of_length_le (by omega)]
theorem w_pullback_equal (f g : List Int) (hf : f.length ≤ 10000) (hg : g.length = f.length) : W P (c_pullback_equal F) (Done [.t 4] [] (.arr 1 (ints (agreeL f g))) []) (init [.lst 1 (ints f), .lst 1 (ints g)]) := by
  refine W_of ?_
  simp (config := { maxSteps := 1000000 }) (disch := first | omega | (simp only [go_sem]; omega)) only [go_sem, ↓reduceIte]
  refine W_loop (fun i : Nat => ⟨[(0, .lst 1 (ints f)), (1, .lst 1 (ints g)), (5, .sl 0 0 (sel (eqAt f g) i).length), (8, .int .i64 f.length), (9, .int .i64 i)], [(0, .arr 1 (ints (sel (eqAt f g) i)))], 1⟩) (fun i => i ≤ f.length) (fun i => f.length - i) 0 ?_ ?_ ?_
  · simp (config := { maxSteps := 1000000 }) (disch := first | omega | (simp only [go_sem]; omega)) only [go_sem, ↓reduceIte, sel_zero]
    rfl
  · simp
  · intro i hi
    have e1 := sel_len (eqAt f g) i
    have hs := sel_succ (eqAt f g) i
    simp only [eqAt, decide_eq_true_eq] at hs
    simp (config := { maxSteps := 1000000 }) (disch := first | omega | (simp only [go_sem]; omega)) only [go_sem, ↓reduceIte, c_pullback_equal_b8]
    refine bran_dec (fun c => ?_) (fun c => ?_)
    · simp (config := { maxSteps := 1000000 }) (disch := first | omega | (simp only [go_sem]; omega)) only [go_sem, ↓reduceIte]
      refine bran_dec (fun d => ?_) (fun d => ?_)
      · rw [if_pos d] at hs
        simp (config := { maxSteps := 1000000 }) (disch := first | omega | (simp only [go_sem]; omega)) only [go_sem, ↓reduceIte]
        exact ⟨i + 1, by simp [eqAt, hs], by omega, by omega⟩
      · rw [if_neg d] at hs
        simp (config := { maxSteps := 1000000 }) (disch := first | omega | (simp only [go_sem]; omega)) only [go_sem, ↓reduceIte]
        exact ⟨i + 1, by simp [eqAt, hs], by omega, by omega⟩
    · obtain rfl : i = f.length := by omega
      simp (config := { maxSteps := 1000000 }) (disch := first | omega | (simp only [go_sem]; omega)) only [go_sem, ↓reduceIte]
      rfl
theorem w_r11_agree (f g : List Int) (hf : f.length ≤ 10000) (hg : g.length = f.length) : W P (c_r11_agree F) (Done [.t 4] [] (.arr 1 (ints (agreeL f g))) []) (init [.lst 1 (ints f), .lst 1 (ints g)]) := by
  refine W_of ?_
  simp (config := { maxSteps := 1000000 }) (disch := first | omega | (simp only [go_sem]; omega)) only [go_sem, ↓reduceIte]
  refine W_loop (fun i : Nat => ⟨[(0, .lst 1 (ints f)), (1, .lst 1 (ints g)), (5, .sl 0 0 (sel (eqAt f g) i).length), (6, .int .i64 i)], [(0, .arr 1 (ints (sel (eqAt f g) i)))], 1⟩) (fun i => i ≤ f.length) (fun i => f.length - i) 0 ?_ ?_ ?_
  · simp (config := { maxSteps := 1000000 }) (disch := first | omega | (simp only [go_sem]; omega)) only [go_sem, ↓reduceIte, sel_zero]
    rfl
  · simp
  · intro i hi
    have e1 := sel_len (eqAt f g) i
    have hs := sel_succ (eqAt f g) i
    simp only [eqAt, decide_eq_true_eq] at hs
    simp (config := { maxSteps := 1000000 }) (disch := first | omega | (simp only [go_sem]; omega)) only [go_sem, ↓reduceIte, c_r11_agree_b7]
    refine bran_dec (fun c => ?_) (fun c => ?_)
    · simp (config := { maxSteps := 1000000 }) (disch := first | omega | (simp only [go_sem]; omega)) only [go_sem, ↓reduceIte]
      refine bran_dec (fun d => ?_) (fun d => ?_)
      · rw [if_pos d] at hs
        simp (config := { maxSteps := 1000000 }) (disch := first | omega | (simp only [go_sem]; omega)) only [go_sem, ↓reduceIte]
        exact ⟨i + 1, by simp [eqAt, hs], by omega, by omega⟩
      · rw [if_neg d] at hs
        simp (config := { maxSteps := 1000000 }) (disch := first | omega | (simp only [go_sem]; omega)) only [go_sem, ↓reduceIte]
        exact ⟨i + 1, by simp [eqAt, hs], by omega, by omega⟩
    · obtain rfl : i = f.length := by omega
      simp (config := { maxSteps := 1000000 }) (disch := first | omega | (simp only [go_sem]; omega)) only [go_sem, ↓reduceIte]
      rfl
theorem w_r11_equal (f : List Int) (hf : f.length ≤ 10000) : W P (c_r11_equal F) (Done [.t 2] [] (.arr 2 (prs (equalL f))) []) (init [.lst 1 (ints f)]) := by
  refine W_of ?_
  simp (config := { maxSteps := 1000000 }) (disch := first | omega | (simp only [go_sem]; omega)) only [go_sem, ↓reduceIte]
  refine W_loop (fun i : Nat => ⟨[(0, .lst 1 (ints f)), (3, .sl 0 0 (equalI f i).length), (4, .int .i64 i)], [(0, .arr 2 (prs (equalI f i)))], 1⟩) (fun i => i ≤ f.length) (fun i => f.length - i) 0 ?_ ?_ ?_
  · simp (config := { maxSteps := 1000000 }) (disch := first | omega | (simp only [go_sem]; omega)) only [go_sem, ↓reduceIte]
    rfl
  · simp
  · intro i hi
    simp (config := { maxSteps := 1000000 }) (disch := first | omega | (simp only [go_sem]; omega)) only [go_sem, ↓reduceIte, c_r11_equal_b11]
    refine bran_dec (fun c => ?_) (fun c => ?_)
    · simp (config := { maxSteps := 1000000 }) (disch := first | omega | (simp only [go_sem]; omega)) only [go_sem, ↓reduceIte]
      refine W_loop (fun k : Nat => ⟨[(0, .lst 1 (ints f)), (3, .sl 0 0 (accE f i k).length), (4, .int .i64 i), (5, .int .i64 k)], [(0, .arr 2 (prs (accE f i k)))], 1⟩) (fun k => i < k ∧ k ≤ f.length) (fun k => f.length - k) (i + 1) ?_ ?_ ?_
      · simp (config := { maxSteps := 1000000 }) (disch := first | omega | (simp only [go_sem]; omega)) only [go_sem, ↓reduceIte, accE_low, Int.natCast_add, Int.cast_ofNat_Int]
        try rfl
      · omega
      · rintro k ⟨hk0, hk⟩
        have b1 := accE_len hf (i := i) (k := k) (by omega) (by omega)
        simp (config := { maxSteps := 1000000 }) (disch := first | omega | (simp only [go_sem]; omega)) only [go_sem, ↓reduceIte, c_r11_equal_b9]
        refine bran_dec (fun d => ?_) (fun d => ?_)
        · have hs := accE_succ f i k hk0
          simp (config := { maxSteps := 1000000 }) (disch := first | omega | (simp only [go_sem]; omega)) only [go_sem, ↓reduceIte]
          refine bran_dec (fun e => ?_) (fun e => ?_)
          · rw [if_pos e] at hs
            simp (config := { maxSteps := 1000000 }) (disch := first | omega | (simp only [go_sem]; omega)) only [go_sem, ↓reduceIte]
            exact ⟨k + 1, by simp [hs], by omega, by omega⟩
          · rw [if_neg e] at hs
            simp (config := { maxSteps := 1000000 }) (disch := first | omega | (simp only [go_sem]; omega)) only [go_sem, ↓reduceIte]
            exact ⟨k + 1, by simp [hs], by omega, by omega⟩
        · obtain rfl : k = f.length := by omega
          simp (config := { maxSteps := 1000000 }) (disch := first | omega | (simp only [go_sem]; omega)) only [go_sem, ↓reduceIte]
          exact ⟨i + 1, by simp [accE_end], by omega, by omega⟩
    · obtain rfl : i = f.length := by omega
      simp (config := { maxSteps := 1000000 }) (disch := first | omega | (simp only [go_sem]; omega)) only [go_sem, ↓reduceIte]
      rfl
end
end Go.Am
namespace Go.Am
open Go
set_option linter.unusedVariables false
set_option linter.unusedSimpArgs false
section
variable {P : Program} {F : String → Nat} {α : Type}
theorem eqDec_pr (x : Pr) (a b : Int) : (decide (x.a = a) && decide (x.b = b)) = decide (x = ⟨a, b⟩) := by
  rw [Bool.eq_iff_iff]; simp [eqPr]
theorem w_slices_Index_apiPair (l : List Pr) (a b : Int) (hl : l.length ≤ maxL) : W P (c_slices_Index_apiPair F) (Done [.t 4] [] (.int .i64 (idx (fun p => decide (p = ⟨a, b⟩)) l 0)) []) (init [.lst 2 (prs l), .agg [.int .i64 a, .int .i64 b]]) := by
  refine W_of ?_
  unfold maxL at hl
  simp (config := { maxSteps := 1000000 }) (disch := first | omega | (simp only [go_sem]; omega)) only [go_sem, ↓reduceIte]
  refine W_loop (fun i : Nat => ⟨[(0, .lst 2 (prs l)), (3, .pt 0 0), (7, .int .i64 l.length), (8, .int .i64 i)], [(0, .box [.int .i64 a, .int .i64 b])], 1⟩) (fun i => i ≤ l.length ∧ idx (fun p => decide (p = ⟨a, b⟩)) l 0 = idx (fun p => decide (p = ⟨a, b⟩)) (l.drop i) i) (fun i => l.length - i) 0 ?_ ?_ ?_
  · simp (config := { maxSteps := 1000000 }) (disch := first | omega | (simp only [go_sem]; omega)) only [go_sem, ↓reduceIte]
    rfl
  · simp
  · rintro i ⟨hi, he⟩
    simp (config := { maxSteps := 1000000 }) (disch := first | omega | (simp only [go_sem]; omega)) only [go_sem, ↓reduceIte, c_slices_Index_apiPair_b7]
    refine bran_dec (fun h => ?_) (fun h => ?_)
    · have hd := idx_drop (fun p => decide (p = ⟨a, b⟩)) l i (by omega)
      have hq : (decide (a = (gt l i).a) && decide (b = (gt l i).b)) = decide (gt l i = ⟨a, b⟩) := by
        rw [Bool.eq_iff_iff]; simp [eqPr]; constructor <;> rintro ⟨h, k⟩ <;> exact ⟨h.symm, k.symm⟩
      simp (config := { maxSteps := 1000000 }) (disch := first | omega | (simp only [go_sem]; omega)) only [go_sem, ↓reduceIte, hq]
      refine bran_dec (fun h2 => ?_) (fun h2 => ?_)
      · simp (config := { maxSteps := 1000000 }) (disch := first | omega | (simp only [go_sem]; omega)) only [go_sem, ↓reduceIte]
        rw [he, hd, if_pos (by simpa using h2)]
      · simp (config := { maxSteps := 1000000 }) (disch := first | omega | (simp only [go_sem]; omega)) only [go_sem, ↓reduceIte]
        exact ⟨i + 1, by simp, ⟨by omega, by rw [he, hd, if_neg (by simpa using h2)]⟩, by omega⟩
    · simp (config := { maxSteps := 1000000 }) (disch := first | omega | (simp only [go_sem]; omega)) only [go_sem, ↓reduceIte]
      rw [he, List.drop_of_length_le (by omega)]
      rfl
theorem w_r11_place (l : List Pr) (a b : Int) (hl : l.length ≤ maxL) : W P (c_r11_place F) (Done [.t 6] [] (.int .i64 (idx (fun p => decide (p = ⟨a, b⟩)) l 0)) []) (init [.lst 2 (prs l), .int .i64 a, .int .i64 b]) := by
  refine W_of ?_
  unfold maxL at hl
  simp (config := { maxSteps := 1000000 }) (disch := first | omega | (simp only [go_sem]; omega)) only [go_sem, ↓reduceIte]
  refine W_loop (fun i : Nat => ⟨[(0, .lst 2 (prs l)), (1, .int .i64 a), (2, .int .i64 b), (7, .int .i64 i)], [], 0⟩) (fun i => i ≤ l.length ∧ idx (fun p => decide (p = ⟨a, b⟩)) l 0 = idx (fun p => decide (p = ⟨a, b⟩)) (l.drop i) i) (fun i => l.length - i) 0 ?_ ?_ ?_
  · simp (config := { maxSteps := 1000000 }) (disch := first | omega | (simp only [go_sem]; omega)) only [go_sem, ↓reduceIte]
    rfl
  · simp
  · rintro i ⟨hi, he⟩
    simp (config := { maxSteps := 1000000 }) (disch := first | omega | (simp only [go_sem]; omega)) only [go_sem, ↓reduceIte, c_r11_place_b6]
    refine bran_dec (fun h => ?_) (fun h => ?_)
    · have hd := idx_drop (fun p => decide (p = ⟨a, b⟩)) l i (by omega)
      simp (config := { maxSteps := 1000000 }) (disch := first | omega | (simp only [go_sem]; omega)) only [go_sem, ↓reduceIte]
      refine bran_dec (fun h2 => ?_) (fun h2 => ?_)
      · simp (config := { maxSteps := 1000000 }) (disch := first | omega | (simp only [go_sem]; omega)) only [go_sem, ↓reduceIte, h2]
        refine bran_dec (fun h3 => ?_) (fun h3 => ?_)
        · simp (config := { maxSteps := 1000000 }) (disch := first | omega | (simp only [go_sem]; omega)) only [go_sem, ↓reduceIte]
          rw [he, hd, if_pos (by simp [eqPr, h2, h3])]
        · simp (config := { maxSteps := 1000000 }) (disch := first | omega | (simp only [go_sem]; omega)) only [go_sem, ↓reduceIte]
          exact ⟨i + 1, by simp, ⟨by omega, by rw [he, hd, if_neg (by simp [eqPr, h3])]⟩, by omega⟩
      · simp (config := { maxSteps := 1000000 }) (disch := first | omega | (simp only [go_sem]; omega)) only [go_sem, ↓reduceIte, h2]
        exact ⟨i + 1, by simp, ⟨by omega, by rw [he, hd, if_neg (by simp [eqPr, h2])]⟩, by omega⟩
    · simp (config := { maxSteps := 1000000 }) (disch := first | omega | (simp only [go_sem]; omega)) only [go_sem, ↓reduceIte]
      rw [he, List.drop_of_length_le (by omega)]
      rfl
theorem at2_step (p q : List Int) (a b : Int) (l : List Int) (i : Nat) (h : i < l.length) : at2 p q a b (l.drop i) i = if gt p i = a ∧ gt q i = b then (i : Int) else at2 p q a b (l.drop (i + 1)) ((i + 1 : Nat) : Int) := by
  rw [drop_gt h, at2]; rfl
theorem w_r11_first (p q : List Int) (a b : Int) (hp : p.length ≤ maxL) (hq : q.length = p.length) : W P (c_r11_first F) (Done [.t 8] [] (.int .i64 (at2 p q a b p 0)) []) (init [.lst 1 (ints p), .lst 1 (ints q), .int .i64 a, .int .i64 b]) := by
  refine W_of ?_
  unfold maxL at hp
  simp (config := { maxSteps := 1000000 }) (disch := first | omega | (simp only [go_sem]; omega)) only [go_sem, ↓reduceIte]
  refine W_loop (fun i : Nat => ⟨[(0, .lst 1 (ints p)), (1, .lst 1 (ints q)), (2, .int .i64 a), (3, .int .i64 b), (9, .int .i64 i)], [], 0⟩) (fun i => i ≤ p.length ∧ at2 p q a b p 0 = at2 p q a b (p.drop i) i) (fun i => p.length - i) 0 ?_ ?_ ?_
  · simp (config := { maxSteps := 1000000 }) (disch := first | omega | (simp only [go_sem]; omega)) only [go_sem, ↓reduceIte]
    rfl
  · simp
  · rintro i ⟨hi, he⟩
    simp (config := { maxSteps := 1000000 }) (disch := first | omega | (simp only [go_sem]; omega)) only [go_sem, ↓reduceIte, c_r11_first_b6]
    refine bran_dec (fun h => ?_) (fun h => ?_)
    · have hd := at2_step p q a b p i (by omega)
      simp (config := { maxSteps := 1000000 }) (disch := first | omega | (simp only [go_sem]; omega)) only [go_sem, ↓reduceIte]
      refine bran_dec (fun h2 => ?_) (fun h2 => ?_)
      · simp (config := { maxSteps := 1000000 }) (disch := first | omega | (simp only [go_sem]; omega)) only [go_sem, ↓reduceIte, h2]
        refine bran_dec (fun h3 => ?_) (fun h3 => ?_)
        · simp (config := { maxSteps := 1000000 }) (disch := first | omega | (simp only [go_sem]; omega)) only [go_sem, ↓reduceIte]
          rw [he, hd, if_pos ⟨h2, h3⟩]
        · simp (config := { maxSteps := 1000000 }) (disch := first | omega | (simp only [go_sem]; omega)) only [go_sem, ↓reduceIte]
          exact ⟨i + 1, by simp, ⟨by omega, by rw [he, hd, if_neg (fun h => h3 h.2)]⟩, by omega⟩
      · simp (config := { maxSteps := 1000000 }) (disch := first | omega | (simp only [go_sem]; omega)) only [go_sem, ↓reduceIte, h2]
        exact ⟨i + 1, by simp, ⟨by omega, by rw [he, hd, if_neg (fun h => h2 h.1)]⟩, by omega⟩
    · simp (config := { maxSteps := 1000000 }) (disch := first | omega | (simp only [go_sem]; omega)) only [go_sem, ↓reduceIte]
      rw [he, List.drop_of_length_le (by omega)]
      rfl
theorem w_r11_SamePairs (a b : List Pr) (hl : a.length ≤ maxL) : W P (c_r11_SamePairs F) (Done [.t 4] [] (.bool (decide (a = b))) []) (init [.lst 2 (prs a), .lst 2 (prs b)]) := by
  refine W_of ?_
  unfold maxL at hl
  simp (config := { maxSteps := 1000000 }) (disch := first | omega | (simp only [go_sem]; omega)) only [go_sem, ↓reduceIte]
  refine bran_ndec (fun h => ?_) (fun h => ?_)
  · simp (config := { maxSteps := 1000000 }) (disch := first | omega | (simp only [go_sem]; omega)) only [go_sem, ↓reduceIte]
    have : a ≠ b := fun e => h (by rw [e])
    simp [this]
  · have h' : a.length = b.length := by omega
    simp (config := { maxSteps := 1000000 }) (disch := first | omega | (simp only [go_sem]; omega)) only [go_sem, ↓reduceIte]
    refine W_loop (fun i : Nat => ⟨[(0, .lst 2 (prs a)), (1, .lst 2 (prs b)), (5, .int .i64 i)], [], 0⟩) (fun i => i ≤ a.length ∧ a.take i = b.take i) (fun i => a.length - i) 0 ?_ ?_ ?_
    · simp (config := { maxSteps := 1000000 }) (disch := first | omega | (simp only [go_sem]; omega)) only [go_sem, ↓reduceIte]
      rfl
    · simp
    · rintro i ⟨hi, ht⟩
      simp (config := { maxSteps := 1000000 }) (disch := first | omega | (simp only [go_sem]; omega)) only [go_sem, ↓reduceIte, c_r11_SamePairs_b8]
      refine bran_dec (fun f => ?_) (fun f => ?_)
      · have he : (decide ((gt a i).a = (gt b i).a) && decide ((gt a i).b = (gt b i).b)) = decide (gt a i = gt b i) := by
          rw [Bool.eq_iff_iff]; simp [eqPr]
        simp (config := { maxSteps := 1000000 }) (disch := first | omega | (simp only [go_sem]; omega)) only [go_sem, ↓reduceIte, he]
        refine bran_ndec (fun d2 => ?_) (fun d2 => ?_)
        · simp (config := { maxSteps := 1000000 }) (disch := first | omega | (simp only [go_sem]; omega)) only [go_sem, ↓reduceIte]
          have : a ≠ b := fun e => d2 (by rw [e])
          simp [this]
        · simp (config := { maxSteps := 1000000 }) (disch := first | omega | (simp only [go_sem]; omega)) only [go_sem, ↓reduceIte]
          exact ⟨i + 1, by simp, ⟨by omega, by rw [take_gt (by omega), take_gt (by omega), ht, d2]⟩, by omega⟩
      · simp (config := { maxSteps := 1000000 }) (disch := first | omega | (simp only [go_sem]; omega)) only [go_sem, ↓reduceIte]
        obtain rfl : i = a.length := by omega
        rw [List.take_length, List.take_of_length_le (by omega)] at ht
        simp [ht]
theorem w_r07_Same (hs : K_r05_SameInts P F) (a b : Mo) (h1 : a.n.length ≤ maxL) (h2 : a.e.length ≤ maxL) : W P (c_r07_Same F) (Done [.t 4] [] (.bool (decide (a = b))) []) (init [mD a, mD b]) := by
  refine W_of ?_
  obtain ⟨an, ae⟩ := a
  obtain ⟨bn, be⟩ := b
  simp only at h1 h2
  simp (config := { maxSteps := 1000000 }) (disch := first | omega | (simp only [go_sem]; omega)) only [go_sem, ↓reduceIte, mD]
  refine call_by (hs _ _ h1) ?_
  simp (config := { maxSteps := 1000000 }) (disch := first | omega | (simp only [go_sem]; omega)) only [go_sem, ↓reduceIte]
  refine bran_dec (fun c => ?_) (fun c => ?_)
  · subst c
    simp (config := { maxSteps := 1000000 }) (disch := first | omega | (simp only [go_sem]; omega)) only [go_sem, ↓reduceIte]
    refine call_by (hs _ _ h2) ?_
    simp (config := { maxSteps := 1000000 }) (disch := first | omega | (simp only [go_sem]; omega)) only [go_sem, ↓reduceIte]
    simp
  · simp (config := { maxSteps := 1000000 }) (disch := first | omega | (simp only [go_sem]; omega)) only [go_sem, ↓reduceIte, c]
    simp [c]
/-- No element is equal to one ahead of it, up to here. -/
theorem nodup_take {l : List Int} {i : Nat} (h : i < l.length) : (l.take (i + 1)).Nodup ↔ (l.take i).Nodup ∧ ∀ k : Nat, k < i → gt l i ≠ gt l k := by
  rw [take_gt h, List.nodup_append]
  simp only [List.nodup_cons, List.not_mem_nil, not_false_eq_true, List.nodup_nil, and_self, true_and, List.mem_cons, or_false, forall_eq, ne_eq]
  refine and_congr_right fun _ => ⟨fun hh k hk e => ?_, fun hh x hx e => ?_⟩
  · refine hh (gt l k) ?_ e.symm
    rw [gt_nat (by omega)]
    exact List.mem_take_iff_getElem.2 ⟨k, by omega, rfl⟩
  · obtain ⟨k, hk, rfl⟩ := List.mem_take_iff_getElem.1 hx
    refine hh k (by omega) ?_
    rw [gt_nat (l := l) (i := k) (by omega)]
    exact e.symm
theorem w_r06_Distinct (l : List Int) (hl : l.length ≤ maxL) : W P (c_r06_Distinct F) (Done [.t 2] [] (.bool (distinct l)) []) (init [.lst 1 (ints l)]) := by
  refine W_of ?_
  unfold maxL at hl
  simp (config := { maxSteps := 1000000 }) (disch := first | omega | (simp only [go_sem]; omega)) only [go_sem, ↓reduceIte]
  refine W_loop (fun i : Nat => ⟨[(0, .lst 1 (ints l)), (3, .int .i64 i)], [], 0⟩) (fun i => i ≤ l.length ∧ (l.take i).Nodup) (fun i => l.length - i) 0 ?_ ?_ ?_
  · simp (config := { maxSteps := 1000000 }) (disch := first | omega | (simp only [go_sem]; omega)) only [go_sem, ↓reduceIte]
    rfl
  · simp
  · rintro i ⟨hi, hn⟩
    simp (config := { maxSteps := 1000000 }) (disch := first | omega | (simp only [go_sem]; omega)) only [go_sem, ↓reduceIte, c_r06_Distinct_b10]
    refine bran_dec (fun c => ?_) (fun c => ?_)
    · have ht := nodup_take (l := l) (i := i) (by omega)
      simp (config := { maxSteps := 1000000 }) (disch := first | omega | (simp only [go_sem]; omega)) only [go_sem, ↓reduceIte]
      refine W_loop (fun k : Nat => ⟨[(0, .lst 1 (ints l)), (3, .int .i64 i), (4, .int .i64 k)], [], 0⟩) (fun k => k ≤ i ∧ ∀ j : Nat, j < k → gt l i ≠ gt l j) (fun k => i - k) 0 ?_ ?_ ?_
      · simp (config := { maxSteps := 1000000 }) (disch := first | omega | (simp only [go_sem]; omega)) only [go_sem, ↓reduceIte]
        rfl
      · simp
      · rintro k ⟨hk, hd⟩
        simp (config := { maxSteps := 1000000 }) (disch := first | omega | (simp only [go_sem]; omega)) only [go_sem, ↓reduceIte, c_r06_Distinct_b8]
        refine bran_dec (fun d => ?_) (fun d => ?_)
        · simp (config := { maxSteps := 1000000 }) (disch := first | omega | (simp only [go_sem]; omega)) only [go_sem, ↓reduceIte]
          refine bran_dec (fun e => ?_) (fun e => ?_)
          · simp (config := { maxSteps := 1000000 }) (disch := first | omega | (simp only [go_sem]; omega)) only [go_sem, ↓reduceIte]
            have : ¬ l.Nodup := fun h => by
              have h2 := ht.1 (h.sublist (List.take_sublist _ _))
              exact h2.2 k (by omega) e
            simp [distinct, this]
          · simp (config := { maxSteps := 1000000 }) (disch := first | omega | (simp only [go_sem]; omega)) only [go_sem, ↓reduceIte]
            refine ⟨k + 1, by simp, ⟨by omega, fun j hj => ?_⟩, by omega⟩
            by_cases hjk : j = k
            · subst hjk; exact e
            · exact hd j (by omega)
        · simp (config := { maxSteps := 1000000 }) (disch := first | omega | (simp only [go_sem]; omega)) only [go_sem, ↓reduceIte]
          exact ⟨i + 1, by simp, ⟨by omega, ht.2 ⟨hn, fun j hj => hd j (by omega)⟩⟩, by omega⟩
    · simp (config := { maxSteps := 1000000 }) (disch := first | omega | (simp only [go_sem]; omega)) only [go_sem, ↓reduceIte]
      rw [List.take_of_length_le (by omega)] at hn
      simp [distinct, hn]
theorem w_r06_Injective (hv : K_r06_Valid P F) (hd : K_r06_Distinct P F) (a b : G) (m : Mo) (h1 : m.n.length ≤ maxL) (h2 : m.e.length ≤ maxL) : W P (c_r06_Injective F) (Done [.t 6] [] (.bool (injM a b m)) []) (init [gD a, gD b, mD m]) := by
  refine W_of ?_
  have rv := hv a b m
  have hi : injM a b m = (decide (validM a b m = 0) && (distinct m.n && distinct m.e)) := rfl
  rw [hi]
  generalize validM a b m = v at *
  have r1 := hd m.n h1
  have r2 := hd m.e h2
  obtain ⟨an, ae⟩ := a
  obtain ⟨bn, be⟩ := b
  obtain ⟨mn, me⟩ := m
  simp only [gD, mD] at rv r1 r2 ⊢
  simp (config := { maxSteps := 1000000 }) (disch := first | omega | (simp only [go_sem]; omega)) only [go_sem, ↓reduceIte]
  refine call_by rv ?_
  simp (config := { maxSteps := 1000000 }) (disch := first | omega | (simp only [go_sem]; omega)) only [go_sem, ↓reduceIte]
  refine bran_dec (fun c => ?_) (fun c => ?_)
  · simp (config := { maxSteps := 1000000 }) (disch := first | omega | (simp only [go_sem]; omega)) only [go_sem, ↓reduceIte, c]
    refine call_by r1 ?_
    simp (config := { maxSteps := 1000000 }) (disch := first | omega | (simp only [go_sem]; omega)) only [go_sem, ↓reduceIte]
    refine bran_by (fun d => ?_) (fun d => ?_)
    · simp (config := { maxSteps := 1000000 }) (disch := first | omega | (simp only [go_sem]; omega)) only [go_sem, ↓reduceIte, c, d]
      refine call_by r2 ?_
      simp (config := { maxSteps := 1000000 }) (disch := first | omega | (simp only [go_sem]; omega)) only [go_sem, ↓reduceIte, c, d]
    · simp (config := { maxSteps := 1000000 }) (disch := first | omega | (simp only [go_sem]; omega)) only [go_sem, ↓reduceIte, c, d]
  · simp (config := { maxSteps := 1000000 }) (disch := first | omega | (simp only [go_sem]; omega)) only [go_sem, ↓reduceIte, c]
end
end Go.Am
