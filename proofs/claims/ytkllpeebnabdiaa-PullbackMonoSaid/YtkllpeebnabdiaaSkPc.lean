/- Pullbacks: the standard pullback. -/
/- Pullbacks: Of and its reference. -/
import Derived.Test.YtkllpeebnabdiaaSkE
namespace Go.Am
open Go
set_option linter.unusedVariables false
set_option linter.unusedSimpArgs false
/- pullback.given -/
def c_pullback_given_r0 (F : String → Nat) : List LI := [⟨some 1, .bx (.t 0), none⟩,
  ⟨some 2, .mov (.k (.int .i64 (0))), none⟩]
def c_pullback_given_r1 (F : String → Nat) : List LI := [⟨some 4, .fad 0 (.t 1), none⟩,
  ⟨some 5, .load true 2 (.t 4), none⟩,
  ⟨some 6, .fad 4 (.t 1), none⟩,
  ⟨some 7, .load true 2 (.t 6), none⟩,
  ⟨some 8, .fad 6 (.t 1), none⟩,
  ⟨some 9, .load true 2 (.t 8), none⟩,
  ⟨some 10, .call (F "morphism.Valid") [.t 5, .t 7, .t 9] [], none⟩,
  ⟨some 3, .mov (.t 10), none⟩]
def c_pullback_given_r2 (F : String → Nat) : List LI := [⟨some 11, .mov (.t 3), none⟩,
  ⟨some 12, .bin .neq (.t 11) (.k (.int .i64 (0))), none⟩]
def c_pullback_given_r3 (F : String → Nat) : List LI := [⟨some 13, .mov (.t 3), none⟩,
  ⟨some 2, .mov (.t 13), none⟩]
def c_pullback_given_r4 (F : String → Nat) : List LI := [⟨some 14, .fad 2 (.t 1), none⟩,
  ⟨some 15, .load true 2 (.t 14), none⟩,
  ⟨some 16, .fad 4 (.t 1), none⟩,
  ⟨some 17, .load true 2 (.t 16), none⟩,
  ⟨some 18, .fad 8 (.t 1), none⟩,
  ⟨some 19, .load true 2 (.t 18), none⟩,
  ⟨some 20, .call (F "morphism.Valid") [.t 15, .t 17, .t 19] [], none⟩,
  ⟨some 2, .mov (.t 20), none⟩]
def c_pullback_given (F : String → Nat) : LC := (.seq (.reg (c_pullback_given_r0 F) [1]) (.seq (.seq (.reg (c_pullback_given_r1 F) [1, 3]) (.seq (.reg (c_pullback_given_r2 F) [1, 3, 12]) (.cond (.t 12) (.seq (.reg (c_pullback_given_r3 F) [2]) .ret) .skip))) (.seq (.reg (c_pullback_given_r4 F) [2]) .ret)))
def h_pullback_given : Hints := ⟨[], fun _ => [], tab [(0, [1]), (1, [1, 3]), (2, [1, 3, 12]), (3, [2]), (4, [2])], tab []⟩

/- pullback.of -/
def c_pullback_of_r0 (F : String → Nat) : List LI := [⟨some 1, .bx (.t 0), none⟩,
  ⟨some 2, .alloc [.nl 2, .nl 2, .nl 1, .nl 3], none⟩,
  ⟨some 3, .mov (.k (.int .i64 (0))), none⟩]
def c_pullback_of_r1 (F : String → Nat) : List LI := [⟨some 12, .load true 10 (.t 1), none⟩,
  ⟨some 13, .call (F "pullback.given") [.t 12] [], none⟩,
  ⟨some 4, .mov (.t 13), none⟩]
def c_pullback_of_r2 (F : String → Nat) : List LI := [⟨some 14, .mov (.t 4), none⟩,
  ⟨some 15, .bin .neq (.t 14) (.k (.int .i64 (0))), none⟩]
def c_pullback_of_r3 (F : String → Nat) : List LI := [⟨some 16, .build [.nl 2, .nl 2, .nl 1, .nl 3] [], none⟩,
  ⟨some 17, .mov (.t 4), none⟩,
  ⟨none, .store 4 (.t 2) (.t 16), none⟩,
  ⟨some 3, .mov (.t 17), none⟩]
def c_pullback_of_r4 (F : String → Nat) : List LI := [⟨some 18, .fad 6 (.t 1), none⟩,
  ⟨some 19, .fad 0 (.t 18), none⟩,
  ⟨some 20, .load false 1 (.t 19), none⟩,
  ⟨some 21, .fad 8 (.t 1), none⟩,
  ⟨some 22, .fad 0 (.t 21), none⟩,
  ⟨some 23, .load false 1 (.t 22), none⟩,
  ⟨some 24, .call (F "pullback.pairs") [.t 20, .t 23] [], none⟩,
  ⟨some 25, .fad 6 (.t 1), none⟩,
  ⟨some 26, .fad 1 (.t 25), none⟩,
  ⟨some 27, .load false 1 (.t 26), none⟩,
  ⟨some 28, .fad 8 (.t 1), none⟩,
  ⟨some 29, .fad 1 (.t 28), none⟩,
  ⟨some 30, .load false 1 (.t 29), none⟩,
  ⟨some 31, .call (F "pullback.pairs") [.t 27, .t 30] [], none⟩,
  ⟨some 32, .build [.nl 2, .nl 2, .nl 1, .nl 3] [(0, 1, .t 24), (1, 1, .t 31)], none⟩,
  ⟨some 5, .alloc [.nl 2, .nl 2, .nl 1, .nl 3], none⟩,
  ⟨none, .store 4 (.t 5) (.t 32), none⟩]
def c_pullback_of_r5 (F : String → Nat) : List LI := [⟨some 33, .fad 0 (.t 5), none⟩,
  ⟨some 34, .load false 1 (.t 33), none⟩,
  ⟨some 35, .len (.t 34), none⟩,
  ⟨some 36, .bin .gtr (.t 35) (.k (.int .i64 (40))), none⟩,
  ⟨some 37, .mov (.t 36), none⟩,
  ⟨some 38, .fad 1 (.t 5), some (37, false)⟩,
  ⟨some 39, .load false 1 (.t 38), some (37, false)⟩,
  ⟨some 40, .len (.t 39), some (37, false)⟩,
  ⟨some 41, .bin .gtr (.t 40) (.k (.int .i64 (80))), some (37, false)⟩,
  ⟨some 42, .pick (.t 37) (.k (.bool true)) (.t 41), none⟩]
def c_pullback_of_r6 (F : String → Nat) : List LI := [⟨some 43, .build [.nl 2, .nl 2, .nl 1, .nl 3] [], none⟩,
  ⟨none, .store 4 (.t 2) (.t 43), none⟩,
  ⟨some 3, .mov (.k (.int .i64 (3))), none⟩]
def c_pullback_of_r7 (F : String → Nat) : List LI := [⟨some 44, .fad 0 (.t 5), none⟩,
  ⟨some 45, .load false 1 (.t 44), none⟩,
  ⟨some 46, .len (.t 45), none⟩,
  ⟨some 47, .mov (.k (.int .i64 (0))), none⟩]
def c_pullback_of_r8 (F : String → Nat) : List LI := [⟨some 48, .bin .lss (.t 47) (.t 46), none⟩]
def c_pullback_of_r9 (F : String → Nat) : List LI := [⟨some 49, .iad 2 (.t 45) (.t 47), none⟩,
  ⟨some 50, .load true 2 (.t 49), none⟩,
  ⟨some 7, .alloc [.int .i64 (0), .int .i64 (0)], none⟩,
  ⟨none, .store 2 (.t 7) (.t 50), none⟩]
def c_pullback_of_r10 (F : String → Nat) : List LI := [⟨some 51, .fad 2 (.t 5), none⟩,
  ⟨some 52, .fad 0 (.t 51), none⟩,
  ⟨some 53, .load false 1 (.t 52), none⟩,
  ⟨some 54, .fad 0 (.t 1), none⟩,
  ⟨some 55, .fad 0 (.t 54), none⟩,
  ⟨some 56, .load false 1 (.t 55), none⟩,
  ⟨some 57, .fad 0 (.t 7), none⟩,
  ⟨some 58, .load false 1 (.t 57), none⟩,
  ⟨some 59, .iad 1 (.t 56) (.t 58), none⟩,
  ⟨some 60, .load false 1 (.t 59), none⟩,
  ⟨some 61, .buildSl 1 8 (.int .i64 (0)) 1 [(0, .t 60)], none⟩,
  ⟨some 62, .app 1 8 (.t 53) (.t 61), none⟩,
  ⟨some 63, .fad 2 (.t 5), none⟩,
  ⟨some 64, .fad 0 (.t 63), none⟩,
  ⟨none, .store 1 (.t 64) (.t 62), none⟩]
def c_pullback_of_r11 (F : String → Nat) : List LI := [⟨some 65, .bin .add (.t 47) (.k (.int .i64 (1))), none⟩,
  ⟨some 47, .mov (.t 65), none⟩]
def c_pullback_of_b12 (F : String → Nat) : LC := (.seq (.reg (c_pullback_of_r8 F) [1, 2, 5, 45, 46, 47, 48]) (.seq (.cond (.t 48) .skip (.exit 0)) (.seq (.block 1 (.seq (.reg (c_pullback_of_r9 F) [1, 2, 5, 7, 45, 46, 47]) (.dreg [(2, none, [], true), (10, none, [2], false)] (c_pullback_of_r10 F) [1, 2, 5, 45, 46, 47]))) (.reg (c_pullback_of_r11 F) [1, 2, 5, 45, 46, 47]))))
def c_pullback_of_r13 (F : String → Nat) : List LI := [⟨some 66, .fad 1 (.t 5), none⟩,
  ⟨some 67, .load false 1 (.t 66), none⟩,
  ⟨some 68, .len (.t 67), none⟩,
  ⟨some 69, .mov (.k (.int .i64 (0))), none⟩]
def c_pullback_of_r14 (F : String → Nat) : List LI := [⟨some 70, .bin .lss (.t 69) (.t 68), none⟩]
def c_pullback_of_r15 (F : String → Nat) : List LI := [⟨some 71, .iad 2 (.t 67) (.t 69), none⟩,
  ⟨some 72, .load true 2 (.t 71), none⟩,
  ⟨some 9, .alloc [.int .i64 (0), .int .i64 (0)], none⟩,
  ⟨none, .store 2 (.t 9) (.t 72), none⟩]
def c_pullback_of_r16 (F : String → Nat) : List LI := [⟨some 73, .fad 0 (.t 1), none⟩,
  ⟨some 74, .fad 1 (.t 73), none⟩,
  ⟨some 75, .load false 1 (.t 74), none⟩,
  ⟨some 76, .fad 0 (.t 9), none⟩,
  ⟨some 77, .load false 1 (.t 76), none⟩,
  ⟨some 78, .iad 3 (.t 75) (.t 77), none⟩,
  ⟨some 79, .load true 3 (.t 78), none⟩,
  ⟨some 80, .fad 2 (.t 1), none⟩,
  ⟨some 81, .fad 1 (.t 80), none⟩,
  ⟨some 82, .load false 1 (.t 81), none⟩,
  ⟨some 83, .fad 1 (.t 9), none⟩,
  ⟨some 84, .load false 1 (.t 83), none⟩,
  ⟨some 85, .iad 3 (.t 82) (.t 84), none⟩,
  ⟨some 86, .load true 3 (.t 85), none⟩,
  ⟨some 10, .alloc [.int .i64 (0), .int .i64 (0), .int .i64 (0)], none⟩,
  ⟨some 11, .alloc [.int .i64 (0), .int .i64 (0), .int .i64 (0)], none⟩,
  ⟨none, .store 3 (.t 10) (.t 79), none⟩,
  ⟨none, .store 3 (.t 11) (.t 86), none⟩]
def c_pullback_of_r17 (F : String → Nat) : List LI := [⟨some 87, .fad 2 (.t 5), none⟩,
  ⟨some 88, .fad 1 (.t 87), none⟩,
  ⟨some 89, .load false 1 (.t 88), none⟩,
  ⟨some 90, .fad 0 (.t 10), none⟩,
  ⟨some 91, .load false 1 (.t 90), none⟩,
  ⟨some 92, .fad 0 (.t 5), none⟩,
  ⟨some 93, .load false 1 (.t 92), none⟩,
  ⟨some 94, .fad 1 (.t 10), none⟩,
  ⟨some 95, .load false 1 (.t 94), none⟩,
  ⟨some 96, .fad 1 (.t 11), none⟩,
  ⟨some 97, .load false 1 (.t 96), none⟩,
  ⟨some 98, .build [.int .i64 (0), .int .i64 (0)] [(0, 1, .t 95), (1, 1, .t 97)], none⟩,
  ⟨some 99, .call (F "slices.Index.apiPair") [.t 93, .t 98] [], none⟩,
  ⟨some 100, .fad 0 (.t 5), none⟩,
  ⟨some 101, .load false 1 (.t 100), none⟩,
  ⟨some 102, .fad 2 (.t 10), none⟩,
  ⟨some 103, .load false 1 (.t 102), none⟩,
  ⟨some 104, .fad 2 (.t 11), none⟩,
  ⟨some 105, .load false 1 (.t 104), none⟩,
  ⟨some 106, .build [.int .i64 (0), .int .i64 (0)] [(0, 1, .t 103), (1, 1, .t 105)], none⟩,
  ⟨some 107, .call (F "slices.Index.apiPair") [.t 101, .t 106] [], none⟩,
  ⟨some 108, .build [.int .i64 (0), .int .i64 (0), .int .i64 (0)] [(0, 1, .t 91), (1, 1, .t 99), (2, 1, .t 107)], none⟩,
  ⟨some 109, .buildSl 3 24 (.agg [.int .i64 (0), .int .i64 (0), .int .i64 (0)]) 1 [(0, .t 108)], none⟩,
  ⟨some 110, .app 3 24 (.t 89) (.t 109), none⟩,
  ⟨some 111, .fad 2 (.t 5), none⟩,
  ⟨some 112, .fad 1 (.t 111), none⟩,
  ⟨none, .store 1 (.t 112) (.t 110), none⟩]
def c_pullback_of_r18 (F : String → Nat) : List LI := [⟨some 113, .bin .add (.t 69) (.k (.int .i64 (1))), none⟩,
  ⟨some 69, .mov (.t 113), none⟩]
def c_pullback_of_b19 (F : String → Nat) : LC := (.seq (.reg (c_pullback_of_r14 F) [1, 2, 5, 67, 68, 69, 70]) (.seq (.cond (.t 70) .skip (.exit 2)) (.seq (.block 3 (.seq (.reg (c_pullback_of_r15 F) [1, 2, 5, 9, 67, 68, 69]) (.seq (.dreg [(9, none, [], true), (11, none, [], true), (12, none, [], true), (13, none, [], true), (16, none, [9, 11, 12, 13], false)] (c_pullback_of_r16 F) [1, 2, 5, 10, 11, 67, 68, 69]) (.dreg [(2, none, [], true), (4, none, [], true), (12, none, [2, 4], true), (14, (some 8192), [12], false), (16, (some 32768), [12], false), (18, (some 131072), [12], false), (20, none, [2, 4], false), (22, none, [2], false)] (c_pullback_of_r17 F) [1, 2, 5, 67, 68, 69])))) (.reg (c_pullback_of_r18 F) [1, 2, 5, 67, 68, 69]))))
def c_pullback_of_r20 (F : String → Nat) : List LI := [⟨some 114, .load true 4 (.t 5), none⟩,
  ⟨none, .store 4 (.t 2) (.t 114), none⟩,
  ⟨some 3, .mov (.k (.int .i64 (0))), none⟩]
def c_pullback_of (F : String → Nat) : LC := (.seq (.reg (c_pullback_of_r0 F) [1, 2]) (.seq (.seq (.reg (c_pullback_of_r1 F) [1, 2, 4]) (.seq (.reg (c_pullback_of_r2 F) [1, 2, 4, 15]) (.cond (.t 15) (.seq (.reg (c_pullback_of_r3 F) [2, 3]) .ret) .skip))) (.seq (.dreg [(6, none, [], true), (9, (some 384), [6], false), (12, (some 3072), [6], false)] (c_pullback_of_r4 F) [1, 2, 5]) (.seq (.seq (.reg (c_pullback_of_r5 F) [1, 2, 5, 42]) (.cond (.t 42) (.seq (.reg (c_pullback_of_r6 F) [2, 3]) .ret) .skip)) (.seq (.seq (.reg (c_pullback_of_r7 F) [1, 2, 5, 45, 46, 47]) (.block 0 (.loop [1, 2, 5, 45, 46, 47] (c_pullback_of_b12 F)))) (.seq (.seq (.reg (c_pullback_of_r13 F) [1, 2, 5, 67, 68, 69]) (.block 2 (.loop [1, 2, 5, 67, 68, 69] (c_pullback_of_b19 F)))) (.seq (.reg (c_pullback_of_r20 F) [2, 3]) .ret)))))))
def h_pullback_of : Hints := ⟨[], fun _ => [], tab [(0, [1, 2]), (1, [1, 2, 4]), (2, [1, 2, 4, 15]), (3, [2, 3]), (4, [1, 2, 5]), (5, [1, 2, 5, 42]), (6, [2, 3]), (7, [1, 2, 5, 45, 46, 47]), (8, [1, 2, 5, 45, 46, 47, 48]), (9, [1, 2, 5, 7, 45, 46, 47]), (10, [1, 2, 5, 45, 46, 47]), (11, [1, 2, 5, 45, 46, 47]), (12, [1, 2, 5, 67, 68, 69]), (13, [1, 2, 5, 67, 68, 69, 70]), (14, [1, 2, 5, 9, 67, 68, 69]), (15, [1, 2, 5, 10, 11, 67, 68, 69]), (16, [1, 2, 5, 67, 68, 69]), (17, [1, 2, 5, 67, 68, 69]), (18, [2, 3])], tab [(8, [1, 2, 5, 45, 46, 47]), (13, [1, 2, 5, 67, 68, 69])]⟩

/- pullback.Of -/
def c_pullback_Of_r0 (F : String → Nat) : List LI := [⟨some 1, .bx (.t 0), none⟩,
  ⟨some 2, .alloc [.nl 1, .nl 3], none⟩,
  ⟨some 3, .alloc [.nl 1, .nl 1], none⟩,
  ⟨some 4, .alloc [.nl 1, .nl 1], none⟩,
  ⟨some 5, .mov (.k (.int .i64 (0))), none⟩]
def c_pullback_Of_r1 (F : String → Nat) : List LI := [⟨some 11, .load true 10 (.t 1), none⟩,
  ⟨some 12, .call (F "pullback.of") [.t 11] [], none⟩,
  ⟨some 10, .mov (.t 12), none⟩,
  ⟨some 13, .ext (.t 10) 0, none⟩,
  ⟨some 14, .ext (.t 10) 1, none⟩,
  ⟨some 6, .alloc [.nl 2, .nl 2, .nl 1, .nl 3], none⟩,
  ⟨none, .store 4 (.t 6) (.t 13), none⟩,
  ⟨some 7, .mov (.t 14), none⟩]
def c_pullback_Of_r2 (F : String → Nat) : List LI := [⟨some 15, .mov (.t 7), none⟩,
  ⟨some 16, .bin .neq (.t 15) (.k (.int .i64 (0))), none⟩]
def c_pullback_Of_r3 (F : String → Nat) : List LI := [⟨some 17, .build [.nl 1, .nl 3] [], none⟩,
  ⟨some 18, .build [.nl 1, .nl 1] [], none⟩,
  ⟨some 19, .build [.nl 1, .nl 1] [], none⟩,
  ⟨some 20, .mov (.t 7), none⟩,
  ⟨none, .store 2 (.t 2) (.t 17), none⟩,
  ⟨none, .store 2 (.t 3) (.t 18), none⟩,
  ⟨none, .store 2 (.t 4) (.t 19), none⟩,
  ⟨some 5, .mov (.t 20), none⟩]
def c_pullback_Of_r4 (F : String → Nat) : List LI := [⟨some 8, .alloc [.nl 1, .nl 1], none⟩,
  ⟨some 9, .alloc [.nl 1, .nl 1], none⟩]
def c_pullback_Of_r5 (F : String → Nat) : List LI := [⟨some 22, .fad 0 (.t 6), none⟩,
  ⟨some 23, .load false 1 (.t 22), none⟩,
  ⟨some 24, .call (F "pullback.sides") [.t 23] [], none⟩,
  ⟨some 21, .mov (.t 24), none⟩,
  ⟨some 25, .ext (.t 21) 0, none⟩,
  ⟨some 26, .ext (.t 21) 1, none⟩,
  ⟨some 27, .fad 0 (.t 8), none⟩,
  ⟨none, .store 1 (.t 27) (.t 25), none⟩,
  ⟨some 28, .fad 0 (.t 9), none⟩,
  ⟨none, .store 1 (.t 28) (.t 26), none⟩]
def c_pullback_Of_r6 (F : String → Nat) : List LI := [⟨some 30, .fad 1 (.t 6), none⟩,
  ⟨some 31, .load false 1 (.t 30), none⟩,
  ⟨some 32, .call (F "pullback.sides") [.t 31] [], none⟩,
  ⟨some 29, .mov (.t 32), none⟩,
  ⟨some 33, .ext (.t 29) 0, none⟩,
  ⟨some 34, .ext (.t 29) 1, none⟩,
  ⟨some 35, .fad 1 (.t 8), none⟩,
  ⟨none, .store 1 (.t 35) (.t 33), none⟩,
  ⟨some 36, .fad 1 (.t 9), none⟩,
  ⟨none, .store 1 (.t 36) (.t 34), none⟩]
def c_pullback_Of_r7 (F : String → Nat) : List LI := [⟨some 37, .fad 2 (.t 6), none⟩,
  ⟨some 38, .load true 2 (.t 37), none⟩,
  ⟨some 39, .load true 2 (.t 8), none⟩,
  ⟨some 40, .load true 2 (.t 9), none⟩,
  ⟨none, .store 2 (.t 2) (.t 38), none⟩,
  ⟨none, .store 2 (.t 3) (.t 39), none⟩,
  ⟨none, .store 2 (.t 4) (.t 40), none⟩,
  ⟨some 5, .mov (.k (.int .i64 (0))), none⟩]
def c_pullback_Of (F : String → Nat) : LC := (.seq (.reg (c_pullback_Of_r0 F) [1, 2, 3, 4]) (.seq (.reg (c_pullback_Of_r1 F) [2, 3, 4, 6, 7]) (.seq (.seq (.reg (c_pullback_Of_r2 F) [2, 3, 4, 6, 7, 16]) (.cond (.t 16) (.seq (.reg (c_pullback_Of_r3 F) [2, 3, 4, 5]) .ret) .skip)) (.seq (.reg (c_pullback_Of_r4 F) [2, 3, 4, 6, 8, 9]) (.seq (.reg (c_pullback_Of_r5 F) [2, 3, 4, 6, 8, 9]) (.seq (.reg (c_pullback_Of_r6 F) [2, 3, 4, 6, 8, 9]) (.seq (.dreg [(2, none, [], true), (3, none, [], true), (4, none, [2, 3], false), (5, none, [3], false)] (c_pullback_Of_r7 F) [2, 3, 4, 5]) .ret)))))))
def h_pullback_Of : Hints := ⟨[], fun _ => [], tab [(0, [1, 2, 3, 4]), (1, [2, 3, 4, 6, 7]), (2, [2, 3, 4, 6, 7, 16]), (3, [2, 3, 4, 5]), (4, [2, 3, 4, 6, 8, 9]), (5, [2, 3, 4, 6, 8, 9]), (6, [2, 3, 4, 6, 8, 9]), (7, [2, 3, 4, 5])], tab []⟩

/- pullback.meet -/
def c_pullback_meet_r0 (F : String → Nat) : List LI := [⟨some 6, .mov (.k (.nl 1)), none⟩,
  ⟨some 7, .mov (.k (.bool false)), none⟩]
def c_pullback_meet_r1 (F : String → Nat) : List LI := [⟨some 8, .mov (.k (.nl 1)), none⟩]
def c_pullback_meet_r2 (F : String → Nat) : List LI := [⟨some 11, .mov (.t 1), none⟩,
  ⟨some 12, .len (.t 11), none⟩,
  ⟨some 13, .mov (.k (.int .i64 (0))), none⟩]
def c_pullback_meet_r3 (F : String → Nat) : List LI := [⟨some 14, .bin .lss (.t 13) (.t 12), none⟩]
def c_pullback_meet_r4 (F : String → Nat) : List LI := [⟨some 15, .mov (.t 13), none⟩,
  ⟨some 9, .mov (.t 15), none⟩]
def c_pullback_meet_r5 (F : String → Nat) : List LI := [⟨some 16, .mov (.t 0), none⟩,
  ⟨some 17, .mov (.t 1), none⟩,
  ⟨some 18, .mov (.t 9), none⟩,
  ⟨some 19, .iad 1 (.t 17) (.t 18), none⟩,
  ⟨some 20, .load false 1 (.t 19), none⟩,
  ⟨some 21, .mov (.t 2), none⟩,
  ⟨some 22, .mov (.t 9), none⟩,
  ⟨some 23, .iad 1 (.t 21) (.t 22), none⟩,
  ⟨some 24, .load false 1 (.t 23), none⟩,
  ⟨some 25, .build [.int .i64 (0), .int .i64 (0)] [(0, 1, .t 20), (1, 1, .t 24)], none⟩,
  ⟨some 26, .call (F "slices.Index.apiPair") [.t 16, .t 25] [], none⟩,
  ⟨some 10, .mov (.t 26), none⟩]
def c_pullback_meet_r6 (F : String → Nat) : List LI := [⟨some 27, .mov (.t 10), none⟩,
  ⟨some 28, .bin .lss (.t 27) (.k (.int .i64 (0))), none⟩]
def c_pullback_meet_r7 (F : String → Nat) : List LI := [⟨some 6, .mov (.k (.nl 1)), none⟩,
  ⟨some 7, .mov (.k (.bool false)), none⟩]
def c_pullback_meet_r8 (F : String → Nat) : List LI := [⟨some 29, .mov (.t 8), none⟩,
  ⟨some 30, .mov (.t 10), none⟩,
  ⟨some 31, .buildSl 1 8 (.int .i64 (0)) 1 [(0, .t 30)], none⟩,
  ⟨some 32, .app 1 8 (.t 29) (.t 31), none⟩,
  ⟨some 8, .mov (.t 32), none⟩]
def c_pullback_meet_r9 (F : String → Nat) : List LI := [⟨some 33, .bin .add (.t 13) (.k (.int .i64 (1))), none⟩,
  ⟨some 13, .mov (.t 33), none⟩]
def c_pullback_meet_b10 (F : String → Nat) : LC := (.seq (.reg (c_pullback_meet_r3 F) [0, 1, 2, 8, 12, 13, 14]) (.seq (.cond (.t 14) .skip (.exit 0)) (.seq (.block 1 (.seq (.reg (c_pullback_meet_r4 F) [0, 1, 2, 8, 9, 12, 13]) (.seq (.dreg [] (c_pullback_meet_r5 F) [0, 1, 2, 8, 10, 12, 13]) (.seq (.seq (.reg (c_pullback_meet_r6 F) [0, 1, 2, 8, 10, 12, 13, 28]) (.cond (.t 28) (.seq (.reg (c_pullback_meet_r7 F) [6, 7]) .ret) .skip)) (.reg (c_pullback_meet_r8 F) [0, 1, 2, 8, 12, 13]))))) (.reg (c_pullback_meet_r9 F) [0, 1, 2, 8, 12, 13]))))
def c_pullback_meet_r11 (F : String → Nat) : List LI := [⟨some 34, .mov (.t 8), none⟩,
  ⟨some 6, .mov (.t 34), none⟩,
  ⟨some 7, .mov (.k (.bool true)), none⟩]
def c_pullback_meet (F : String → Nat) : LC := (.seq (.reg (c_pullback_meet_r0 F) [0, 1, 2]) (.seq (.reg (c_pullback_meet_r1 F) [0, 1, 2, 8]) (.seq (.seq (.reg (c_pullback_meet_r2 F) [0, 1, 2, 8, 12, 13]) (.block 0 (.loop [0, 1, 2, 8, 12, 13] (c_pullback_meet_b10 F)))) (.seq (.reg (c_pullback_meet_r11 F) [6, 7]) .ret))))
def h_pullback_meet : Hints := ⟨[], fun _ => [], tab [(0, [0, 1, 2]), (1, [0, 1, 2, 8]), (2, [0, 1, 2, 8, 12, 13]), (3, [0, 1, 2, 8, 12, 13, 14]), (4, [0, 1, 2, 8, 9, 12, 13]), (5, [0, 1, 2, 8, 10, 12, 13]), (6, [0, 1, 2, 8, 10, 12, 13, 28]), (7, [6, 7]), (8, [0, 1, 2, 8, 12, 13]), (9, [0, 1, 2, 8, 12, 13]), (10, [6, 7])], tab [(3, [0, 1, 2, 8, 12, 13])]⟩

/- pullback.Mediate -/
def c_pullback_Mediate_r0 (F : String → Nat) : List LI := [⟨some 4, .bx (.t 0), none⟩,
  ⟨some 5, .bx (.t 1), none⟩,
  ⟨some 6, .bx (.t 2), none⟩,
  ⟨some 7, .bx (.t 3), none⟩,
  ⟨some 8, .alloc [.nl 1, .nl 1], none⟩,
  ⟨some 9, .mov (.k (.int .i64 (0))), none⟩]
def c_pullback_Mediate_r1 (F : String → Nat) : List LI := [⟨some 17, .load true 10 (.t 4), none⟩,
  ⟨some 18, .call (F "pullback.of") [.t 17] [], none⟩,
  ⟨some 16, .mov (.t 18), none⟩,
  ⟨some 19, .ext (.t 16) 0, none⟩,
  ⟨some 20, .ext (.t 16) 1, none⟩,
  ⟨some 10, .alloc [.nl 2, .nl 2, .nl 1, .nl 3], none⟩,
  ⟨none, .store 4 (.t 10) (.t 19), none⟩,
  ⟨some 11, .mov (.t 20), none⟩]
def c_pullback_Mediate_r2 (F : String → Nat) : List LI := [⟨some 21, .mov (.t 11), none⟩,
  ⟨some 22, .bin .eql (.t 21) (.k (.int .i64 (0))), none⟩]
def c_pullback_Mediate_r3 (F : String → Nat) : List LI := [⟨some 23, .load true 2 (.t 5), none⟩,
  ⟨some 24, .fad 0 (.t 4), none⟩,
  ⟨some 25, .load true 2 (.t 24), none⟩,
  ⟨some 26, .load true 2 (.t 6), none⟩,
  ⟨some 27, .call (F "morphism.Valid") [.t 23, .t 25, .t 26] [], none⟩,
  ⟨some 11, .mov (.t 27), none⟩]
def c_pullback_Mediate_r4 (F : String → Nat) : List LI := [⟨some 28, .mov (.t 11), none⟩,
  ⟨some 29, .bin .eql (.t 28) (.k (.int .i64 (0))), none⟩]
def c_pullback_Mediate_r5 (F : String → Nat) : List LI := [⟨some 30, .load true 2 (.t 5), none⟩,
  ⟨some 31, .fad 2 (.t 4), none⟩,
  ⟨some 32, .load true 2 (.t 31), none⟩,
  ⟨some 33, .load true 2 (.t 7), none⟩,
  ⟨some 34, .call (F "morphism.Valid") [.t 30, .t 32, .t 33] [], none⟩,
  ⟨some 11, .mov (.t 34), none⟩]
def c_pullback_Mediate_r6 (F : String → Nat) : List LI := [⟨some 35, .mov (.t 11), none⟩,
  ⟨some 36, .bin .neq (.t 35) (.k (.int .i64 (0))), none⟩]
def c_pullback_Mediate_r7 (F : String → Nat) : List LI := [⟨some 37, .build [.nl 1, .nl 1] [], none⟩,
  ⟨some 38, .mov (.t 11), none⟩,
  ⟨none, .store 2 (.t 8) (.t 37), none⟩,
  ⟨some 9, .mov (.t 38), none⟩]
def c_pullback_Mediate_r8 (F : String → Nat) : List LI := [⟨some 40, .fad 0 (.t 10), none⟩,
  ⟨some 41, .load false 1 (.t 40), none⟩,
  ⟨some 42, .fad 0 (.t 6), none⟩,
  ⟨some 43, .load false 1 (.t 42), none⟩,
  ⟨some 44, .fad 0 (.t 7), none⟩,
  ⟨some 45, .load false 1 (.t 44), none⟩,
  ⟨some 46, .call (F "pullback.meet") [.t 41, .t 43, .t 45] [], none⟩,
  ⟨some 39, .mov (.t 46), none⟩,
  ⟨some 47, .ext (.t 39) 0, none⟩,
  ⟨some 48, .ext (.t 39) 1, none⟩,
  ⟨some 12, .mov (.t 47), none⟩,
  ⟨some 13, .mov (.t 48), none⟩]
def c_pullback_Mediate_r9 (F : String → Nat) : List LI := [⟨some 50, .fad 1 (.t 10), none⟩,
  ⟨some 51, .load false 1 (.t 50), none⟩,
  ⟨some 52, .fad 1 (.t 6), none⟩,
  ⟨some 53, .load false 1 (.t 52), none⟩,
  ⟨some 54, .fad 1 (.t 7), none⟩,
  ⟨some 55, .load false 1 (.t 54), none⟩,
  ⟨some 56, .call (F "pullback.meet") [.t 51, .t 53, .t 55] [], none⟩,
  ⟨some 49, .mov (.t 56), none⟩,
  ⟨some 57, .ext (.t 49) 0, none⟩,
  ⟨some 58, .ext (.t 49) 1, none⟩,
  ⟨some 14, .mov (.t 57), none⟩,
  ⟨some 15, .mov (.t 58), none⟩]
def c_pullback_Mediate_r10 (F : String → Nat) : List LI := [⟨some 59, .mov (.t 13), none⟩,
  ⟨some 60, .not (.t 59), none⟩,
  ⟨some 61, .mov (.t 60), none⟩,
  ⟨some 62, .mov (.t 15), some (61, false)⟩,
  ⟨some 63, .not (.t 62), some (61, false)⟩,
  ⟨some 64, .pick (.t 61) (.k (.bool true)) (.t 63), none⟩]
def c_pullback_Mediate_r11 (F : String → Nat) : List LI := [⟨some 65, .build [.nl 1, .nl 1] [], none⟩,
  ⟨none, .store 2 (.t 8) (.t 65), none⟩,
  ⟨some 9, .mov (.k (.int .i64 (11))), none⟩]
def c_pullback_Mediate_r12 (F : String → Nat) : List LI := [⟨some 66, .mov (.t 12), none⟩,
  ⟨some 67, .mov (.t 14), none⟩,
  ⟨some 68, .build [.nl 1, .nl 1] [(0, 1, .t 66), (1, 1, .t 67)], none⟩,
  ⟨none, .store 2 (.t 8) (.t 68), none⟩,
  ⟨some 9, .mov (.k (.int .i64 (0))), none⟩]
def c_pullback_Mediate (F : String → Nat) : LC := (.seq (.reg (c_pullback_Mediate_r0 F) [4, 5, 6, 7, 8]) (.seq (.reg (c_pullback_Mediate_r1 F) [4, 5, 6, 7, 8, 10, 11]) (.seq (.seq (.reg (c_pullback_Mediate_r2 F) [4, 5, 6, 7, 8, 10, 11, 22]) (.cond (.t 22) (.reg (c_pullback_Mediate_r3 F) [4, 5, 6, 7, 8, 10, 11]) .skip)) (.seq (.seq (.reg (c_pullback_Mediate_r4 F) [4, 5, 6, 7, 8, 10, 11, 29]) (.cond (.t 29) (.reg (c_pullback_Mediate_r5 F) [6, 7, 8, 10, 11]) .skip)) (.seq (.seq (.reg (c_pullback_Mediate_r6 F) [6, 7, 8, 10, 11, 36]) (.cond (.t 36) (.seq (.reg (c_pullback_Mediate_r7 F) [8, 9]) .ret) .skip)) (.seq (.reg (c_pullback_Mediate_r8 F) [6, 7, 8, 10, 12, 13]) (.seq (.reg (c_pullback_Mediate_r9 F) [8, 12, 13, 14, 15]) (.seq (.seq (.reg (c_pullback_Mediate_r10 F) [8, 12, 14, 64]) (.cond (.t 64) (.seq (.reg (c_pullback_Mediate_r11 F) [8, 9]) .ret) .skip)) (.seq (.reg (c_pullback_Mediate_r12 F) [8, 9]) .ret)))))))))
def h_pullback_Mediate : Hints := ⟨[], fun _ => [], tab [(0, [4, 5, 6, 7, 8]), (1, [4, 5, 6, 7, 8, 10, 11]), (2, [4, 5, 6, 7, 8, 10, 11, 22]), (3, [4, 5, 6, 7, 8, 10, 11]), (4, [4, 5, 6, 7, 8, 10, 11, 29]), (5, [6, 7, 8, 10, 11]), (6, [6, 7, 8, 10, 11, 36]), (7, [8, 9]), (8, [6, 7, 8, 10, 12, 13]), (9, [8, 12, 13, 14, 15]), (10, [8, 12, 14, 64]), (11, [8, 9]), (12, [8, 9])], tab []⟩

/- r11.Valid -/
def c_r11_Valid_r0 (F : String → Nat) : List LI := [⟨some 1, .bx (.t 0), none⟩,
  ⟨some 2, .mov (.k (.int .i64 (0))), none⟩]
def c_r11_Valid_r1 (F : String → Nat) : List LI := [⟨some 4, .fad 0 (.t 1), none⟩,
  ⟨some 5, .load true 2 (.t 4), none⟩,
  ⟨some 6, .fad 4 (.t 1), none⟩,
  ⟨some 7, .load true 2 (.t 6), none⟩,
  ⟨some 8, .fad 6 (.t 1), none⟩,
  ⟨some 9, .load true 2 (.t 8), none⟩,
  ⟨some 10, .call (F "r06.Valid") [.t 5, .t 7, .t 9] [], none⟩,
  ⟨some 3, .mov (.t 10), none⟩]
def c_r11_Valid_r2 (F : String → Nat) : List LI := [⟨some 11, .mov (.t 3), none⟩,
  ⟨some 12, .bin .neq (.t 11) (.k (.int .i64 (0))), none⟩]
def c_r11_Valid_r3 (F : String → Nat) : List LI := [⟨some 13, .mov (.t 3), none⟩,
  ⟨some 2, .mov (.t 13), none⟩]
def c_r11_Valid_r4 (F : String → Nat) : List LI := [⟨some 14, .fad 2 (.t 1), none⟩,
  ⟨some 15, .load true 2 (.t 14), none⟩,
  ⟨some 16, .fad 4 (.t 1), none⟩,
  ⟨some 17, .load true 2 (.t 16), none⟩,
  ⟨some 18, .fad 8 (.t 1), none⟩,
  ⟨some 19, .load true 2 (.t 18), none⟩,
  ⟨some 20, .call (F "r06.Valid") [.t 15, .t 17, .t 19] [], none⟩,
  ⟨some 2, .mov (.t 20), none⟩]
def c_r11_Valid (F : String → Nat) : LC := (.seq (.reg (c_r11_Valid_r0 F) [1]) (.seq (.seq (.reg (c_r11_Valid_r1 F) [1, 3]) (.seq (.reg (c_r11_Valid_r2 F) [1, 3, 12]) (.cond (.t 12) (.seq (.reg (c_r11_Valid_r3 F) [2]) .ret) .skip))) (.seq (.reg (c_r11_Valid_r4 F) [2]) .ret)))
def h_r11_Valid : Hints := ⟨[], fun _ => [], tab [(0, [1]), (1, [1, 3]), (2, [1, 3, 12]), (3, [2]), (4, [2])], tab []⟩

/- r11.Of -/
def c_r11_Of_r0 (F : String → Nat) : List LI := [⟨some 1, .bx (.t 0), none⟩,
  ⟨some 2, .alloc [.nl 1, .nl 3], none⟩,
  ⟨some 3, .alloc [.nl 1, .nl 1], none⟩,
  ⟨some 4, .alloc [.nl 1, .nl 1], none⟩,
  ⟨some 5, .mov (.k (.int .i64 (0))), none⟩]
def c_r11_Of_r1 (F : String → Nat) : List LI := [⟨some 16, .load true 10 (.t 1), none⟩,
  ⟨some 17, .call (F "r11.Valid") [.t 16] [], none⟩,
  ⟨some 6, .mov (.t 17), none⟩]
def c_r11_Of_r2 (F : String → Nat) : List LI := [⟨some 18, .mov (.t 6), none⟩,
  ⟨some 19, .bin .neq (.t 18) (.k (.int .i64 (0))), none⟩]
def c_r11_Of_r3 (F : String → Nat) : List LI := [⟨some 20, .build [.nl 1, .nl 3] [], none⟩,
  ⟨some 21, .build [.nl 1, .nl 1] [], none⟩,
  ⟨some 22, .build [.nl 1, .nl 1] [], none⟩,
  ⟨some 23, .mov (.t 6), none⟩,
  ⟨none, .store 2 (.t 2) (.t 20), none⟩,
  ⟨none, .store 2 (.t 3) (.t 21), none⟩,
  ⟨none, .store 2 (.t 4) (.t 22), none⟩,
  ⟨some 5, .mov (.t 23), none⟩]
def c_r11_Of_r4 (F : String → Nat) : List LI := [⟨some 24, .fad 6 (.t 1), none⟩,
  ⟨some 25, .fad 0 (.t 24), none⟩,
  ⟨some 26, .load false 1 (.t 25), none⟩,
  ⟨some 27, .fad 8 (.t 1), none⟩,
  ⟨some 28, .fad 0 (.t 27), none⟩,
  ⟨some 29, .load false 1 (.t 28), none⟩,
  ⟨some 30, .call (F "r11.pairs") [.t 26, .t 29, .k (.int .i64 (40))] [], none⟩,
  ⟨some 31, .fad 6 (.t 1), none⟩,
  ⟨some 32, .fad 1 (.t 31), none⟩,
  ⟨some 33, .load false 1 (.t 32), none⟩,
  ⟨some 34, .fad 8 (.t 1), none⟩,
  ⟨some 35, .fad 1 (.t 34), none⟩,
  ⟨some 36, .load false 1 (.t 35), none⟩,
  ⟨some 37, .call (F "r11.pairs") [.t 33, .t 36, .k (.int .i64 (80))] [], none⟩,
  ⟨some 7, .mov (.t 30), none⟩,
  ⟨some 8, .mov (.t 37), none⟩]
def c_r11_Of_r5 (F : String → Nat) : List LI := [⟨some 38, .mov (.t 7), none⟩,
  ⟨some 39, .len (.t 38), none⟩,
  ⟨some 40, .bin .gtr (.t 39) (.k (.int .i64 (40))), none⟩,
  ⟨some 41, .mov (.t 40), none⟩,
  ⟨some 42, .mov (.t 8), some (41, false)⟩,
  ⟨some 43, .len (.t 42), some (41, false)⟩,
  ⟨some 44, .bin .gtr (.t 43) (.k (.int .i64 (80))), some (41, false)⟩,
  ⟨some 45, .pick (.t 41) (.k (.bool true)) (.t 44), none⟩]
def c_r11_Of_r6 (F : String → Nat) : List LI := [⟨some 46, .build [.nl 1, .nl 3] [], none⟩,
  ⟨some 47, .build [.nl 1, .nl 1] [], none⟩,
  ⟨some 48, .build [.nl 1, .nl 1] [], none⟩,
  ⟨none, .store 2 (.t 2) (.t 46), none⟩,
  ⟨none, .store 2 (.t 3) (.t 47), none⟩,
  ⟨none, .store 2 (.t 4) (.t 48), none⟩,
  ⟨some 5, .mov (.k (.int .i64 (3))), none⟩]
def c_r11_Of_r7 (F : String → Nat) : List LI := [⟨some 9, .alloc [.nl 1, .nl 3], none⟩]
def c_r11_Of_r8 (F : String → Nat) : List LI := [⟨some 10, .mov (.k (.int .i64 (0))), none⟩]
def c_r11_Of_r9 (F : String → Nat) : List LI := [⟨some 49, .mov (.t 10), none⟩,
  ⟨some 50, .mov (.t 7), none⟩,
  ⟨some 51, .len (.t 50), none⟩,
  ⟨some 52, .bin .lss (.t 49) (.t 51), none⟩]
def c_r11_Of_r10 (F : String → Nat) : List LI := [⟨some 55, .fad 0 (.t 9), none⟩,
  ⟨some 56, .load false 1 (.t 55), none⟩,
  ⟨some 57, .fad 0 (.t 1), none⟩,
  ⟨some 58, .fad 0 (.t 57), none⟩,
  ⟨some 59, .load false 1 (.t 58), none⟩,
  ⟨some 60, .mov (.t 7), none⟩,
  ⟨some 61, .mov (.t 10), none⟩,
  ⟨some 62, .iad 2 (.t 60) (.t 61), none⟩,
  ⟨some 63, .fad 0 (.t 62), none⟩,
  ⟨some 64, .load false 1 (.t 63), none⟩,
  ⟨some 65, .iad 1 (.t 59) (.t 64), none⟩,
  ⟨some 66, .load false 1 (.t 65), none⟩,
  ⟨some 67, .buildSl 1 8 (.int .i64 (0)) 1 [(0, .t 66)], none⟩,
  ⟨some 68, .app 1 8 (.t 56) (.t 67), none⟩,
  ⟨some 69, .fad 0 (.t 9), none⟩,
  ⟨none, .store 1 (.t 69) (.t 68), none⟩]
def c_r11_Of_r11 (F : String → Nat) : List LI := [⟨some 53, .mov (.t 10), none⟩,
  ⟨some 54, .bin .add (.t 53) (.k (.int .i64 (1))), none⟩,
  ⟨some 10, .mov (.t 54), none⟩]
def c_r11_Of_b12 (F : String → Nat) : LC := (.seq (.seq (.reg (c_r11_Of_r9 F) [1, 2, 3, 4, 7, 8, 9, 10, 52]) (.cond (.t 52) .skip (.exit 0))) (.seq (.block 1 (.dreg [(1, none, [], true), (12, none, [1], false)] (c_r11_Of_r10 F) [1, 2, 3, 4, 7, 8, 9, 10])) (.reg (c_r11_Of_r11 F) [1, 2, 3, 4, 7, 8, 9, 10])))
def c_r11_Of_r13 (F : String → Nat) : List LI := [⟨some 11, .mov (.k (.int .i64 (0))), none⟩]
def c_r11_Of_r14 (F : String → Nat) : List LI := [⟨some 70, .mov (.t 11), none⟩,
  ⟨some 71, .mov (.t 8), none⟩,
  ⟨some 72, .len (.t 71), none⟩,
  ⟨some 73, .bin .lss (.t 70) (.t 72), none⟩]
def c_r11_Of_r15 (F : String → Nat) : List LI := [⟨some 76, .fad 0 (.t 1), none⟩,
  ⟨some 77, .fad 1 (.t 76), none⟩,
  ⟨some 78, .load false 1 (.t 77), none⟩,
  ⟨some 79, .mov (.t 8), none⟩,
  ⟨some 80, .mov (.t 11), none⟩,
  ⟨some 81, .iad 2 (.t 79) (.t 80), none⟩,
  ⟨some 82, .fad 0 (.t 81), none⟩,
  ⟨some 83, .load false 1 (.t 82), none⟩,
  ⟨some 84, .iad 3 (.t 78) (.t 83), none⟩,
  ⟨some 85, .load true 3 (.t 84), none⟩,
  ⟨some 86, .fad 2 (.t 1), none⟩,
  ⟨some 87, .fad 1 (.t 86), none⟩,
  ⟨some 88, .load false 1 (.t 87), none⟩,
  ⟨some 89, .mov (.t 8), none⟩,
  ⟨some 90, .mov (.t 11), none⟩,
  ⟨some 91, .iad 2 (.t 89) (.t 90), none⟩,
  ⟨some 92, .fad 1 (.t 91), none⟩,
  ⟨some 93, .load false 1 (.t 92), none⟩,
  ⟨some 94, .iad 3 (.t 88) (.t 93), none⟩,
  ⟨some 95, .load true 3 (.t 94), none⟩,
  ⟨some 12, .alloc [.int .i64 (0), .int .i64 (0), .int .i64 (0)], none⟩,
  ⟨some 13, .alloc [.int .i64 (0), .int .i64 (0), .int .i64 (0)], none⟩,
  ⟨none, .store 3 (.t 12) (.t 85), none⟩,
  ⟨none, .store 3 (.t 13) (.t 95), none⟩]
def c_r11_Of_r16 (F : String → Nat) : List LI := [⟨some 96, .fad 1 (.t 9), none⟩,
  ⟨some 97, .load false 1 (.t 96), none⟩,
  ⟨some 98, .fad 0 (.t 12), none⟩,
  ⟨some 99, .load false 1 (.t 98), none⟩,
  ⟨some 100, .mov (.t 7), none⟩,
  ⟨some 101, .fad 1 (.t 12), none⟩,
  ⟨some 102, .load false 1 (.t 101), none⟩,
  ⟨some 103, .fad 1 (.t 13), none⟩,
  ⟨some 104, .load false 1 (.t 103), none⟩,
  ⟨some 105, .call (F "r11.place") [.t 100, .t 102, .t 104] [], none⟩,
  ⟨some 106, .mov (.t 7), none⟩,
  ⟨some 107, .fad 2 (.t 12), none⟩,
  ⟨some 108, .load false 1 (.t 107), none⟩,
  ⟨some 109, .fad 2 (.t 13), none⟩,
  ⟨some 110, .load false 1 (.t 109), none⟩,
  ⟨some 111, .call (F "r11.place") [.t 106, .t 108, .t 110] [], none⟩,
  ⟨some 112, .build [.int .i64 (0), .int .i64 (0), .int .i64 (0)] [(0, 1, .t 99), (1, 1, .t 105), (2, 1, .t 111)], none⟩,
  ⟨some 113, .buildSl 3 24 (.agg [.int .i64 (0), .int .i64 (0), .int .i64 (0)]) 1 [(0, .t 112)], none⟩,
  ⟨some 114, .app 3 24 (.t 97) (.t 113), none⟩,
  ⟨some 115, .fad 1 (.t 9), none⟩,
  ⟨none, .store 1 (.t 115) (.t 114), none⟩]
def c_r11_Of_r17 (F : String → Nat) : List LI := [⟨some 74, .mov (.t 11), none⟩,
  ⟨some 75, .bin .add (.t 74) (.k (.int .i64 (1))), none⟩,
  ⟨some 11, .mov (.t 75), none⟩]
def c_r11_Of_b18 (F : String → Nat) : LC := (.seq (.seq (.reg (c_r11_Of_r14 F) [1, 2, 3, 4, 7, 8, 9, 11, 73]) (.cond (.t 73) .skip (.exit 2))) (.seq (.block 3 (.seq (.dreg [(12, none, [], true), (15, none, [], true), (17, none, [], true), (18, none, [], true), (19, none, [], true), (22, none, [12, 15, 17, 18, 19], false)] (c_r11_Of_r15 F) [1, 2, 3, 4, 7, 8, 9, 11, 12, 13]) (.dreg [(1, none, [], true), (3, none, [], true), (9, none, [1, 3], true), (12, (some 2048), [9], false), (14, (some 8192), [9], false), (15, none, [1, 3], false), (17, none, [1], false)] (c_r11_Of_r16 F) [1, 2, 3, 4, 7, 8, 9, 11]))) (.reg (c_r11_Of_r17 F) [1, 2, 3, 4, 7, 8, 9, 11])))
def c_r11_Of_r19 (F : String → Nat) : List LI := [⟨some 14, .alloc [.nl 1, .nl 1], none⟩,
  ⟨some 15, .alloc [.nl 1, .nl 1], none⟩]
def c_r11_Of_r20 (F : String → Nat) : List LI := [⟨some 117, .mov (.t 7), none⟩,
  ⟨some 118, .call (F "r11.sides") [.t 117] [], none⟩,
  ⟨some 116, .mov (.t 118), none⟩,
  ⟨some 119, .ext (.t 116) 0, none⟩,
  ⟨some 120, .ext (.t 116) 1, none⟩,
  ⟨some 121, .fad 0 (.t 14), none⟩,
  ⟨none, .store 1 (.t 121) (.t 119), none⟩,
  ⟨some 122, .fad 0 (.t 15), none⟩,
  ⟨none, .store 1 (.t 122) (.t 120), none⟩]
def c_r11_Of_r21 (F : String → Nat) : List LI := [⟨some 124, .mov (.t 8), none⟩,
  ⟨some 125, .call (F "r11.sides") [.t 124] [], none⟩,
  ⟨some 123, .mov (.t 125), none⟩,
  ⟨some 126, .ext (.t 123) 0, none⟩,
  ⟨some 127, .ext (.t 123) 1, none⟩,
  ⟨some 128, .fad 1 (.t 14), none⟩,
  ⟨none, .store 1 (.t 128) (.t 126), none⟩,
  ⟨some 129, .fad 1 (.t 15), none⟩,
  ⟨none, .store 1 (.t 129) (.t 127), none⟩]
def c_r11_Of_r22 (F : String → Nat) : List LI := [⟨some 130, .load true 2 (.t 9), none⟩,
  ⟨some 131, .load true 2 (.t 14), none⟩,
  ⟨some 132, .load true 2 (.t 15), none⟩,
  ⟨none, .store 2 (.t 2) (.t 130), none⟩,
  ⟨none, .store 2 (.t 3) (.t 131), none⟩,
  ⟨none, .store 2 (.t 4) (.t 132), none⟩,
  ⟨some 5, .mov (.k (.int .i64 (0))), none⟩]
def c_r11_Of (F : String → Nat) : LC := (.seq (.reg (c_r11_Of_r0 F) [1, 2, 3, 4]) (.seq (.seq (.reg (c_r11_Of_r1 F) [1, 2, 3, 4, 6]) (.seq (.reg (c_r11_Of_r2 F) [1, 2, 3, 4, 6, 19]) (.cond (.t 19) (.seq (.reg (c_r11_Of_r3 F) [2, 3, 4, 5]) .ret) .skip))) (.seq (.dreg [(6, none, [], true), (9, (some 384), [6], false), (12, (some 3072), [6], false)] (c_r11_Of_r4 F) [1, 2, 3, 4, 7, 8]) (.seq (.seq (.reg (c_r11_Of_r5 F) [1, 2, 3, 4, 7, 8, 45]) (.cond (.t 45) (.seq (.reg (c_r11_Of_r6 F) [2, 3, 4, 5]) .ret) .skip)) (.seq (.reg (c_r11_Of_r7 F) [1, 2, 3, 4, 7, 8, 9]) (.seq (.seq (.reg (c_r11_Of_r8 F) [1, 2, 3, 4, 7, 8, 9, 10]) (.block 0 (.loop [1, 2, 3, 4, 7, 8, 9, 10] (c_r11_Of_b12 F)))) (.seq (.seq (.reg (c_r11_Of_r13 F) [1, 2, 3, 4, 7, 8, 9, 11]) (.block 2 (.loop [1, 2, 3, 4, 7, 8, 9, 11] (c_r11_Of_b18 F)))) (.seq (.reg (c_r11_Of_r19 F) [2, 3, 4, 7, 8, 9, 14, 15]) (.seq (.reg (c_r11_Of_r20 F) [2, 3, 4, 8, 9, 14, 15]) (.seq (.reg (c_r11_Of_r21 F) [2, 3, 4, 9, 14, 15]) (.seq (.dreg [(1, none, [], true), (2, none, [], true), (3, none, [1, 2], false), (4, none, [2], false)] (c_r11_Of_r22 F) [2, 3, 4, 5]) .ret)))))))))))
def h_r11_Of : Hints := ⟨[], fun _ => [], tab [(0, [1, 2, 3, 4]), (1, [1, 2, 3, 4, 6]), (2, [1, 2, 3, 4, 6, 19]), (3, [2, 3, 4, 5]), (4, [1, 2, 3, 4, 7, 8]), (5, [1, 2, 3, 4, 7, 8, 45]), (6, [2, 3, 4, 5]), (7, [1, 2, 3, 4, 7, 8, 9]), (8, [1, 2, 3, 4, 7, 8, 9, 10]), (9, [1, 2, 3, 4, 7, 8, 9, 10, 52]), (10, [1, 2, 3, 4, 7, 8, 9, 10]), (11, [1, 2, 3, 4, 7, 8, 9, 10]), (12, [1, 2, 3, 4, 7, 8, 9, 11]), (13, [1, 2, 3, 4, 7, 8, 9, 11, 73]), (14, [1, 2, 3, 4, 7, 8, 9, 11]), (15, [1, 2, 3, 4, 7, 8, 9, 11, 12, 13]), (16, [1, 2, 3, 4, 7, 8, 9, 11]), (17, [2, 3, 4, 7, 8, 9, 14, 15]), (18, [2, 3, 4, 8, 9, 14, 15]), (19, [2, 3, 4, 9, 14, 15]), (20, [2, 3, 4, 5])], tab [(9, [1, 2, 3, 4, 7, 8, 9, 10]), (13, [1, 2, 3, 4, 7, 8, 9, 11])]⟩

/- r11.Mediate -/
def c_r11_Mediate_r0 (F : String → Nat) : List LI := [⟨some 4, .bx (.t 0), none⟩,
  ⟨some 5, .bx (.t 1), none⟩,
  ⟨some 6, .bx (.t 2), none⟩,
  ⟨some 7, .bx (.t 3), none⟩,
  ⟨some 8, .alloc [.nl 1, .nl 1], none⟩,
  ⟨some 9, .mov (.k (.int .i64 (0))), none⟩]
def c_r11_Mediate_r1 (F : String → Nat) : List LI := [⟨some 20, .load true 10 (.t 4), none⟩,
  ⟨some 21, .call (F "r11.Of") [.t 20] [], none⟩,
  ⟨some 19, .mov (.t 21), none⟩,
  ⟨some 22, .ext (.t 19) 0, none⟩,
  ⟨some 23, .ext (.t 19) 1, none⟩,
  ⟨some 24, .ext (.t 19) 2, none⟩,
  ⟨some 25, .ext (.t 19) 3, none⟩,
  ⟨some 10, .alloc [.nl 1, .nl 3], none⟩,
  ⟨some 11, .alloc [.nl 1, .nl 1], none⟩,
  ⟨some 12, .alloc [.nl 1, .nl 1], none⟩,
  ⟨none, .store 2 (.t 10) (.t 22), none⟩,
  ⟨none, .store 2 (.t 11) (.t 23), none⟩,
  ⟨none, .store 2 (.t 12) (.t 24), none⟩,
  ⟨some 13, .mov (.t 25), none⟩]
def c_r11_Mediate_r2 (F : String → Nat) : List LI := [⟨some 26, .mov (.t 13), none⟩,
  ⟨some 27, .bin .neq (.t 26) (.k (.int .i64 (0))), none⟩]
def c_r11_Mediate_r3 (F : String → Nat) : List LI := [⟨some 28, .build [.nl 1, .nl 1] [], none⟩,
  ⟨some 29, .mov (.t 13), none⟩,
  ⟨none, .store 2 (.t 8) (.t 28), none⟩,
  ⟨some 9, .mov (.t 29), none⟩]
def c_r11_Mediate_r4 (F : String → Nat) : List LI := [⟨some 30, .load true 2 (.t 5), none⟩,
  ⟨some 31, .fad 0 (.t 4), none⟩,
  ⟨some 32, .load true 2 (.t 31), none⟩,
  ⟨some 33, .load true 2 (.t 6), none⟩,
  ⟨some 34, .call (F "r06.Valid") [.t 30, .t 32, .t 33] [], none⟩,
  ⟨some 14, .mov (.t 34), none⟩]
def c_r11_Mediate_r5 (F : String → Nat) : List LI := [⟨some 35, .mov (.t 14), none⟩,
  ⟨some 36, .bin .neq (.t 35) (.k (.int .i64 (0))), none⟩]
def c_r11_Mediate_r6 (F : String → Nat) : List LI := [⟨some 37, .build [.nl 1, .nl 1] [], none⟩,
  ⟨some 38, .mov (.t 14), none⟩,
  ⟨none, .store 2 (.t 8) (.t 37), none⟩,
  ⟨some 9, .mov (.t 38), none⟩]
def c_r11_Mediate_r7 (F : String → Nat) : List LI := [⟨some 39, .load true 2 (.t 5), none⟩,
  ⟨some 40, .fad 2 (.t 4), none⟩,
  ⟨some 41, .load true 2 (.t 40), none⟩,
  ⟨some 42, .load true 2 (.t 7), none⟩,
  ⟨some 43, .call (F "r06.Valid") [.t 39, .t 41, .t 42] [], none⟩,
  ⟨some 15, .mov (.t 43), none⟩]
def c_r11_Mediate_r8 (F : String → Nat) : List LI := [⟨some 44, .mov (.t 15), none⟩,
  ⟨some 45, .bin .neq (.t 44) (.k (.int .i64 (0))), none⟩]
def c_r11_Mediate_r9 (F : String → Nat) : List LI := [⟨some 46, .build [.nl 1, .nl 1] [], none⟩,
  ⟨some 47, .mov (.t 15), none⟩,
  ⟨none, .store 2 (.t 8) (.t 46), none⟩,
  ⟨some 9, .mov (.t 47), none⟩]
def c_r11_Mediate_r10 (F : String → Nat) : List LI := [⟨some 48, .load true 2 (.t 6), none⟩,
  ⟨some 49, .fad 6 (.t 4), none⟩,
  ⟨some 50, .load true 2 (.t 49), none⟩,
  ⟨some 51, .call (F "r06.Then") [.t 48, .t 50] [], none⟩,
  ⟨some 52, .load true 2 (.t 7), none⟩,
  ⟨some 53, .fad 8 (.t 4), none⟩,
  ⟨some 54, .load true 2 (.t 53), none⟩,
  ⟨some 55, .call (F "r06.Then") [.t 52, .t 54] [], none⟩,
  ⟨some 56, .call (F "r06.Same") [.t 51, .t 55] [], none⟩,
  ⟨some 57, .not (.t 56), none⟩]
def c_r11_Mediate_r11 (F : String → Nat) : List LI := [⟨some 58, .build [.nl 1, .nl 1] [], none⟩,
  ⟨none, .store 2 (.t 8) (.t 58), none⟩,
  ⟨some 9, .mov (.k (.int .i64 (11))), none⟩]
def c_r11_Mediate_r12 (F : String → Nat) : List LI := [⟨some 16, .alloc [.nl 1, .nl 1], none⟩]
def c_r11_Mediate_r13 (F : String → Nat) : List LI := [⟨some 17, .mov (.k (.int .i64 (0))), none⟩]
def c_r11_Mediate_r14 (F : String → Nat) : List LI := [⟨some 59, .mov (.t 17), none⟩,
  ⟨some 60, .fad 0 (.t 6), none⟩,
  ⟨some 61, .load false 1 (.t 60), none⟩,
  ⟨some 62, .len (.t 61), none⟩,
  ⟨some 63, .bin .lss (.t 59) (.t 62), none⟩]
def c_r11_Mediate_r15 (F : String → Nat) : List LI := [⟨some 66, .fad 0 (.t 16), none⟩,
  ⟨some 67, .load false 1 (.t 66), none⟩,
  ⟨some 68, .fad 0 (.t 11), none⟩,
  ⟨some 69, .load false 1 (.t 68), none⟩,
  ⟨some 70, .fad 0 (.t 12), none⟩,
  ⟨some 71, .load false 1 (.t 70), none⟩,
  ⟨some 72, .fad 0 (.t 6), none⟩,
  ⟨some 73, .load false 1 (.t 72), none⟩,
  ⟨some 74, .mov (.t 17), none⟩,
  ⟨some 75, .iad 1 (.t 73) (.t 74), none⟩,
  ⟨some 76, .load false 1 (.t 75), none⟩,
  ⟨some 77, .fad 0 (.t 7), none⟩,
  ⟨some 78, .load false 1 (.t 77), none⟩,
  ⟨some 79, .mov (.t 17), none⟩,
  ⟨some 80, .iad 1 (.t 78) (.t 79), none⟩,
  ⟨some 81, .load false 1 (.t 80), none⟩,
  ⟨some 82, .call (F "r11.first") [.t 69, .t 71, .t 76, .t 81] [], none⟩,
  ⟨some 83, .buildSl 1 8 (.int .i64 (0)) 1 [(0, .t 82)], none⟩,
  ⟨some 84, .app 1 8 (.t 67) (.t 83), none⟩,
  ⟨some 85, .fad 0 (.t 16), none⟩,
  ⟨none, .store 1 (.t 85) (.t 84), none⟩]
def c_r11_Mediate_r16 (F : String → Nat) : List LI := [⟨some 64, .mov (.t 17), none⟩,
  ⟨some 65, .bin .add (.t 64) (.k (.int .i64 (1))), none⟩,
  ⟨some 17, .mov (.t 65), none⟩]
def c_r11_Mediate_b17 (F : String → Nat) : LC := (.seq (.seq (.reg (c_r11_Mediate_r14 F) [6, 7, 8, 11, 12, 16, 17, 63]) (.cond (.t 63) .skip (.exit 0))) (.seq (.block 1 (.dreg [(1, none, [], true), (16, none, [1], false), (17, none, [1], false)] (c_r11_Mediate_r15 F) [6, 7, 8, 11, 12, 16, 17])) (.reg (c_r11_Mediate_r16 F) [6, 7, 8, 11, 12, 16, 17])))
def c_r11_Mediate_r18 (F : String → Nat) : List LI := [⟨some 18, .mov (.k (.int .i64 (0))), none⟩]
def c_r11_Mediate_r19 (F : String → Nat) : List LI := [⟨some 86, .mov (.t 18), none⟩,
  ⟨some 87, .fad 1 (.t 6), none⟩,
  ⟨some 88, .load false 1 (.t 87), none⟩,
  ⟨some 89, .len (.t 88), none⟩,
  ⟨some 90, .bin .lss (.t 86) (.t 89), none⟩]
def c_r11_Mediate_r20 (F : String → Nat) : List LI := [⟨some 93, .fad 1 (.t 16), none⟩,
  ⟨some 94, .load false 1 (.t 93), none⟩,
  ⟨some 95, .fad 1 (.t 11), none⟩,
  ⟨some 96, .load false 1 (.t 95), none⟩,
  ⟨some 97, .fad 1 (.t 12), none⟩,
  ⟨some 98, .load false 1 (.t 97), none⟩,
  ⟨some 99, .fad 1 (.t 6), none⟩,
  ⟨some 100, .load false 1 (.t 99), none⟩,
  ⟨some 101, .mov (.t 18), none⟩,
  ⟨some 102, .iad 1 (.t 100) (.t 101), none⟩,
  ⟨some 103, .load false 1 (.t 102), none⟩,
  ⟨some 104, .fad 1 (.t 7), none⟩,
  ⟨some 105, .load false 1 (.t 104), none⟩,
  ⟨some 106, .mov (.t 18), none⟩,
  ⟨some 107, .iad 1 (.t 105) (.t 106), none⟩,
  ⟨some 108, .load false 1 (.t 107), none⟩,
  ⟨some 109, .call (F "r11.first") [.t 96, .t 98, .t 103, .t 108] [], none⟩,
  ⟨some 110, .buildSl 1 8 (.int .i64 (0)) 1 [(0, .t 109)], none⟩,
  ⟨some 111, .app 1 8 (.t 94) (.t 110), none⟩,
  ⟨some 112, .fad 1 (.t 16), none⟩,
  ⟨none, .store 1 (.t 112) (.t 111), none⟩]
def c_r11_Mediate_r21 (F : String → Nat) : List LI := [⟨some 91, .mov (.t 18), none⟩,
  ⟨some 92, .bin .add (.t 91) (.k (.int .i64 (1))), none⟩,
  ⟨some 18, .mov (.t 92), none⟩]
def c_r11_Mediate_b22 (F : String → Nat) : LC := (.seq (.seq (.reg (c_r11_Mediate_r19 F) [6, 7, 8, 11, 12, 16, 18, 90]) (.cond (.t 90) .skip (.exit 2))) (.seq (.block 3 (.dreg [(1, none, [], true), (16, none, [1], false), (17, none, [1], false)] (c_r11_Mediate_r20 F) [6, 7, 8, 11, 12, 16, 18])) (.reg (c_r11_Mediate_r21 F) [6, 7, 8, 11, 12, 16, 18])))
def c_r11_Mediate_r23 (F : String → Nat) : List LI := [⟨some 113, .load true 2 (.t 16), none⟩,
  ⟨none, .store 2 (.t 8) (.t 113), none⟩,
  ⟨some 9, .mov (.k (.int .i64 (0))), none⟩]
def c_r11_Mediate (F : String → Nat) : LC := (.seq (.reg (c_r11_Mediate_r0 F) [4, 5, 6, 7, 8]) (.seq (.reg (c_r11_Mediate_r1 F) [4, 5, 6, 7, 8, 11, 12, 13]) (.seq (.seq (.reg (c_r11_Mediate_r2 F) [4, 5, 6, 7, 8, 11, 12, 13, 27]) (.cond (.t 27) (.seq (.reg (c_r11_Mediate_r3 F) [8, 9]) .ret) .skip)) (.seq (.seq (.reg (c_r11_Mediate_r4 F) [4, 5, 6, 7, 8, 11, 12, 14]) (.seq (.reg (c_r11_Mediate_r5 F) [4, 5, 6, 7, 8, 11, 12, 14, 36]) (.cond (.t 36) (.seq (.reg (c_r11_Mediate_r6 F) [8, 9]) .ret) .skip))) (.seq (.seq (.reg (c_r11_Mediate_r7 F) [4, 6, 7, 8, 11, 12, 15]) (.seq (.reg (c_r11_Mediate_r8 F) [4, 6, 7, 8, 11, 12, 15, 45]) (.cond (.t 45) (.seq (.reg (c_r11_Mediate_r9 F) [8, 9]) .ret) .skip))) (.seq (.seq (.dreg [(3, none, [], true), (4, (some 0), [3], false), (6, (some 32), [3], false)] (c_r11_Mediate_r10 F) [6, 7, 8, 11, 12, 57]) (.cond (.t 57) (.seq (.reg (c_r11_Mediate_r11 F) [8, 9]) .ret) .skip)) (.seq (.reg (c_r11_Mediate_r12 F) [6, 7, 8, 11, 12, 16]) (.seq (.seq (.reg (c_r11_Mediate_r13 F) [6, 7, 8, 11, 12, 16, 17]) (.block 0 (.loop [6, 7, 8, 11, 12, 16, 17] (c_r11_Mediate_b17 F)))) (.seq (.seq (.reg (c_r11_Mediate_r18 F) [6, 7, 8, 11, 12, 16, 18]) (.block 2 (.loop [6, 7, 8, 11, 12, 16, 18] (c_r11_Mediate_b22 F)))) (.seq (.reg (c_r11_Mediate_r23 F) [8, 9]) .ret))))))))))
def h_r11_Mediate : Hints := ⟨[], fun _ => [], tab [(0, [4, 5, 6, 7, 8]), (1, [4, 5, 6, 7, 8, 11, 12, 13]), (2, [4, 5, 6, 7, 8, 11, 12, 13, 27]), (3, [8, 9]), (4, [4, 5, 6, 7, 8, 11, 12, 14]), (5, [4, 5, 6, 7, 8, 11, 12, 14, 36]), (6, [8, 9]), (7, [4, 6, 7, 8, 11, 12, 15]), (8, [4, 6, 7, 8, 11, 12, 15, 45]), (9, [8, 9]), (10, [6, 7, 8, 11, 12, 57]), (11, [8, 9]), (12, [6, 7, 8, 11, 12, 16]), (13, [6, 7, 8, 11, 12, 16, 17]), (14, [6, 7, 8, 11, 12, 16, 17, 63]), (15, [6, 7, 8, 11, 12, 16, 17]), (16, [6, 7, 8, 11, 12, 16, 17]), (17, [6, 7, 8, 11, 12, 16, 18]), (18, [6, 7, 8, 11, 12, 16, 18, 90]), (19, [6, 7, 8, 11, 12, 16, 18]), (20, [6, 7, 8, 11, 12, 16, 18]), (21, [8, 9])], tab [(14, [6, 7, 8, 11, 12, 16, 17]), (18, [6, 7, 8, 11, 12, 16, 18])]⟩

/- r11.Few -/
def c_r11_Few_r0 (F : String → Nat) : List LI := [⟨some 1, .bx (.t 0), none⟩,
  ⟨some 2, .mov (.k (.bool false)), none⟩]
def c_r11_Few_r1 (F : String → Nat) : List LI := [⟨some 3, .fad 0 (.t 1), none⟩,
  ⟨some 4, .load true 2 (.t 3), none⟩,
  ⟨some 5, .call (F "r05.Few") [.t 4] [], none⟩,
  ⟨some 6, .mov (.t 5), none⟩,
  ⟨some 7, .fad 2 (.t 1), some (6, true)⟩,
  ⟨some 8, .load true 2 (.t 7), some (6, true)⟩,
  ⟨some 9, .call (F "r05.Few") [.t 8] [], some (6, true)⟩,
  ⟨some 10, .pick (.t 6) (.t 9) (.k (.bool false)), none⟩,
  ⟨some 11, .mov (.t 10), none⟩,
  ⟨some 12, .fad 4 (.t 1), some (11, true)⟩,
  ⟨some 13, .load true 2 (.t 12), some (11, true)⟩,
  ⟨some 14, .call (F "r05.Few") [.t 13] [], some (11, true)⟩,
  ⟨some 15, .pick (.t 11) (.t 14) (.k (.bool false)), none⟩,
  ⟨some 16, .mov (.t 15), none⟩,
  ⟨some 17, .fad 6 (.t 1), some (16, true)⟩,
  ⟨some 18, .load true 2 (.t 17), some (16, true)⟩,
  ⟨some 19, .call (F "r06.Few") [.t 18, .k (.int .i64 (150))] [], some (16, true)⟩,
  ⟨some 20, .pick (.t 16) (.t 19) (.k (.bool false)), none⟩,
  ⟨some 21, .mov (.t 20), none⟩,
  ⟨some 22, .fad 8 (.t 1), some (21, true)⟩,
  ⟨some 23, .load true 2 (.t 22), some (21, true)⟩,
  ⟨some 24, .call (F "r06.Few") [.t 23, .k (.int .i64 (150))] [], some (21, true)⟩,
  ⟨some 25, .pick (.t 21) (.t 24) (.k (.bool false)), none⟩,
  ⟨some 2, .mov (.t 25), none⟩]
def c_r11_Few (F : String → Nat) : LC := (.seq (.reg (c_r11_Few_r0 F) [1]) (.seq (.reg (c_r11_Few_r1 F) [2]) .ret))
def h_r11_Few : Hints := ⟨[], fun _ => [], tab [(0, [1]), (1, [2])], tab []⟩

attribute [go_sem] c_pullback_given_r0 c_pullback_given_r1 c_pullback_given_r2 c_pullback_given_r3 c_pullback_given_r4 c_pullback_given c_pullback_of_r0 c_pullback_of_r1 c_pullback_of_r2 c_pullback_of_r3 c_pullback_of_r4 c_pullback_of_r5 c_pullback_of_r6 c_pullback_of_r7 c_pullback_of_r8 c_pullback_of_r9 c_pullback_of_r10 c_pullback_of_r11 c_pullback_of_r13 c_pullback_of_r14 c_pullback_of_r15 c_pullback_of_r16 c_pullback_of_r17 c_pullback_of_r18 c_pullback_of_r20 c_pullback_of c_pullback_Of_r0 c_pullback_Of_r1 c_pullback_Of_r2 c_pullback_Of_r3 c_pullback_Of_r4 c_pullback_Of_r5 c_pullback_Of_r6 c_pullback_Of_r7 c_pullback_Of c_pullback_meet_r0 c_pullback_meet_r1 c_pullback_meet_r2 c_pullback_meet_r3 c_pullback_meet_r4 c_pullback_meet_r5 c_pullback_meet_r6 c_pullback_meet_r7 c_pullback_meet_r8 c_pullback_meet_r9 c_pullback_meet_r11 c_pullback_meet c_pullback_Mediate_r0 c_pullback_Mediate_r1 c_pullback_Mediate_r2 c_pullback_Mediate_r3 c_pullback_Mediate_r4 c_pullback_Mediate_r5 c_pullback_Mediate_r6 c_pullback_Mediate_r7 c_pullback_Mediate_r8 c_pullback_Mediate_r9 c_pullback_Mediate_r10 c_pullback_Mediate_r11 c_pullback_Mediate_r12 c_pullback_Mediate c_r11_Valid_r0 c_r11_Valid_r1 c_r11_Valid_r2 c_r11_Valid_r3 c_r11_Valid_r4 c_r11_Valid c_r11_Of_r0 c_r11_Of_r1 c_r11_Of_r2 c_r11_Of_r3 c_r11_Of_r4 c_r11_Of_r5 c_r11_Of_r6 c_r11_Of_r7 c_r11_Of_r8 c_r11_Of_r9 c_r11_Of_r10 c_r11_Of_r11 c_r11_Of_r13 c_r11_Of_r14 c_r11_Of_r15 c_r11_Of_r16 c_r11_Of_r17 c_r11_Of_r19 c_r11_Of_r20 c_r11_Of_r21 c_r11_Of_r22 c_r11_Of c_r11_Mediate_r0 c_r11_Mediate_r1 c_r11_Mediate_r2 c_r11_Mediate_r3 c_r11_Mediate_r4 c_r11_Mediate_r5 c_r11_Mediate_r6 c_r11_Mediate_r7 c_r11_Mediate_r8 c_r11_Mediate_r9 c_r11_Mediate_r10 c_r11_Mediate_r11 c_r11_Mediate_r12 c_r11_Mediate_r13 c_r11_Mediate_r14 c_r11_Mediate_r15 c_r11_Mediate_r16 c_r11_Mediate_r18 c_r11_Mediate_r19 c_r11_Mediate_r20 c_r11_Mediate_r21 c_r11_Mediate_r23 c_r11_Mediate c_r11_Few_r0 c_r11_Few_r1 c_r11_Few
/-- A cospan. -/
structure Cs where
  b : G
  c : G
  d : G
  f : Mo
  g : Mo
  deriving DecidableEq, Inhabited
def csD (s : Cs) : D := .agg [.lst 1 (ints s.b.n), .lst 3 (eds s.b.e), .lst 1 (ints s.c.n), .lst 3 (eds s.c.e), .lst 1 (ints s.d.n), .lst 3 (eds s.d.e), .lst 1 (ints s.f.n), .lst 1 (ints s.f.e), .lst 1 (ints s.g.n), .lst 1 (ints s.g.e)]
def givenE (s : Cs) : Int := if validM s.b s.d s.f ≠ 0 then validM s.b s.d s.f else validM s.c s.d s.g
def pbN (s : Cs) : List Pr := pairsL s.f.n s.g.n
def pbE (s : Cs) : List Pr := pairsL s.f.e s.g.e
def pbErr (s : Cs) : Int := if givenE s ≠ 0 then givenE s else if 40 < (pbN s).length ∨ 80 < (pbE s).length then 3 else 0
def pbEdge (be ce : List E) (ns : List Pr) (p : Pr) : E := ⟨(gt be p.a).t, idx (fun q => decide (q = ⟨(gt be p.a).f, (gt ce p.b).f⟩)) ns 0, idx (fun q => decide (q = ⟨(gt be p.a).o, (gt ce p.b).o⟩)) ns 0⟩
def pbG0 (s : Cs) : G := ⟨(pbN s).map fun p => gt s.b.n p.a, (pbE s).map (pbEdge s.b.e s.c.e (pbN s))⟩
def g0 : G := ⟨[], []⟩
def m0 : Mo := ⟨[], []⟩
def pbG (s : Cs) : G := if pbErr s = 0 then pbG0 s else g0
def pbP (s : Cs) : Mo := if pbErr s = 0 then ⟨asA (pbN s), asA (pbE s)⟩ else m0
def pbQ (s : Cs) : Mo := if pbErr s = 0 then ⟨asB (pbN s), asB (pbE s)⟩ else m0
section
variable (P : Program) (F : String → Nat)
def K_pullback_given : Prop := ∀ s : Cs, FC P (F "pullback.given") [csD s] (.int .i64 (givenE s)) []
def K_r11_Valid : Prop := ∀ s : Cs, FC P (F "r11.Valid") [csD s] (.int .i64 (givenE s)) []
def K_pullback_of : Prop := ∀ s : Cs, FC P (F "pullback.of") [csD s] (.tup [.agg [.arr 2 (prs (if pbErr s = 0 then pbN s else [])), .arr 2 (prs (if pbErr s = 0 then pbE s else [])), .arr 1 (ints (pbG s).n), .arr 3 (eds (pbG s).e)], .int .i64 (pbErr s)]) []
def K_pullback_Of : Prop := ∀ s : Cs, FC P (F "pullback.Of") [csD s] (.tup [gA (pbG s), mA (pbP s), mA (pbQ s), .int .i64 (pbErr s)]) []
def K_r11_Of : Prop := ∀ s : Cs, FC P (F "r11.Of") [csD s] (.tup [gA (pbG s), mA (pbP s), mA (pbQ s), .int .i64 (pbErr s)]) []
end
section
variable {P : Program} {F : String → Nat} {α : Type}
theorem pairsI_mem {f g : List Int} {n : Nat} {p : Pr} : p ∈ pairsI f g n ↔ ∃ i k : Nat, i < n ∧ k < g.length ∧ gt f i = gt g k ∧ p = ⟨i, k⟩ := by
  simp only [pairsI, rowP, List.mem_flatMap, List.mem_range, List.mem_map, List.mem_filter, decide_eq_true_eq]
  constructor
  · rintro ⟨i, hi, k, ⟨hk, he⟩, rfl⟩; exact ⟨i, k, hi, hk, he, rfl⟩
  · rintro ⟨i, k, hi, hk, he, rfl⟩; exact ⟨i, hi, k, ⟨hk, he⟩, rfl⟩
theorem pairsL_mem {f g : List Int} {p : Pr} : p ∈ pairsL f g ↔ ∃ i k : Nat, i < f.length ∧ k < g.length ∧ gt f i = gt g k ∧ p = ⟨i, k⟩ := pairsI_mem
theorem pairsL_bd {f g : List Int} {p : Pr} (h : p ∈ pairsL f g) : (0 ≤ p.a ∧ p.a < f.length) ∧ (0 ≤ p.b ∧ p.b < g.length) := by
  obtain ⟨i, k, hi, hk, _, rfl⟩ := pairsL_mem.1 h
  simp only
  omega
theorem pairsL_len {f g : List Int} (hf : f.length ≤ 100) (hg : g.length ≤ 100) : (pairsL f g).length ≤ 10000 :=
  Nat.le_trans (pairsI_len f g f.length) (Nat.le_trans (Nat.mul_le_mul hf hg) (by omega))
theorem idx_le (p : α → Bool) : ∀ (l : List α) (i : Int), 0 ≤ i → -1 ≤ idx p l i ∧ idx p l i < i + l.length + 1
  | [], i, h => by simp [idx]; omega
  | a :: l, i, h => by
    simp only [idx, List.length_cons]
    split
    · omega
    · have := idx_le p l (i + 1) (by omega); push_cast; omega
theorem w_pullback_given (hv : K_morphism_Valid P F) (s : Cs) : W P (c_pullback_given F) (Done [.t 2] [] (.int .i64 (givenE s)) []) (init [csD s]) := by
  refine W_of ?_
  have r1 := hv s.b s.d s.f
  have r2 := hv s.c s.d s.g
  have : givenE s = if validM s.b s.d s.f ≠ 0 then validM s.b s.d s.f else validM s.c s.d s.g := rfl
  rw [this]
  generalize validM s.b s.d s.f = u at *
  generalize validM s.c s.d s.g = v at *
  simp only [gD, mD] at r1 r2
  simp (config := { maxSteps := 1000000 }) (disch := first | omega | (simp only [go_sem]; omega)) only [go_sem, ↓reduceIte, csD]
  refine call_by r1 ?_
  simp (config := { maxSteps := 1000000 }) (disch := first | omega | (simp only [go_sem]; omega)) only [go_sem, ↓reduceIte]
  refine bran_ndec (fun c => ?_) (fun c => ?_)
  · simp (config := { maxSteps := 1000000 }) (disch := first | omega | (simp only [go_sem]; omega)) only [go_sem, ↓reduceIte]
    try simp [c]
  · subst c
    simp (config := { maxSteps := 1000000 }) (disch := first | omega | (simp only [go_sem]; omega)) only [go_sem, ↓reduceIte]
    refine call_by r2 ?_
    simp (config := { maxSteps := 1000000 }) (disch := first | omega | (simp only [go_sem]; omega)) only [go_sem, ↓reduceIte]
    try simp
theorem w_r11_Valid (hv : K_r06_Valid P F) (s : Cs) : W P (c_r11_Valid F) (Done [.t 2] [] (.int .i64 (givenE s)) []) (init [csD s]) := by
  refine W_of ?_
  have r1 := hv s.b s.d s.f
  have r2 := hv s.c s.d s.g
  have : givenE s = if validM s.b s.d s.f ≠ 0 then validM s.b s.d s.f else validM s.c s.d s.g := rfl
  rw [this]
  generalize validM s.b s.d s.f = u at *
  generalize validM s.c s.d s.g = v at *
  simp only [gD, mD] at r1 r2
  simp (config := { maxSteps := 1000000 }) (disch := first | omega | (simp only [go_sem]; omega)) only [go_sem, ↓reduceIte, csD]
  refine call_by r1 ?_
  simp (config := { maxSteps := 1000000 }) (disch := first | omega | (simp only [go_sem]; omega)) only [go_sem, ↓reduceIte]
  refine bran_ndec (fun c => ?_) (fun c => ?_)
  · simp (config := { maxSteps := 1000000 }) (disch := first | omega | (simp only [go_sem]; omega)) only [go_sem, ↓reduceIte]
    try simp [c]
  · subst c
    simp (config := { maxSteps := 1000000 }) (disch := first | omega | (simp only [go_sem]; omega)) only [go_sem, ↓reduceIte]
    refine call_by r2 ?_
    simp (config := { maxSteps := 1000000 }) (disch := first | omega | (simp only [go_sem]; omega)) only [go_sem, ↓reduceIte]
    try simp
theorem givenE_spec {s : Cs} (h : givenE s = 0) : validM s.b s.d s.f = 0 ∧ validM s.c s.d s.g = 0 := by
  unfold givenE at h
  split at h
  · rename_i h1; exact absurd h h1
  · rename_i h1; exact ⟨by simpa using h1, h⟩
theorem w_pullback_of (hg : K_pullback_given P F) (hp : K_pullback_pairs P F) (hx : K_slices_Index_apiPair P F) (s : Cs) :
    W P (c_pullback_of F) (Done [.c 2 true 4, .t 3] [] (.tup [.agg [.arr 2 (prs (if pbErr s = 0 then pbN s else [])), .arr 2 (prs (if pbErr s = 0 then pbE s else [])), .arr 1 (ints (pbG s).n), .arr 3 (eds (pbG s).e)], .int .i64 (pbErr s)]) []) (init [csD s]) := by
  refine W_of ?_
  have rg := hg s
  have hs := @givenE_spec s
  have hE : pbErr s = if givenE s ≠ 0 then givenE s else if 40 < (pbN s).length ∨ 80 < (pbE s).length then 3 else 0 := rfl
  have hG : pbErr s = 0 → pbG s = ⟨(pbN s).map fun p => gt s.b.n p.a, (pbE s).map (pbEdge s.b.e s.c.e (pbN s))⟩ := fun h => by simp [pbG, h, pbG0]
  have hZ : pbErr s ≠ 0 → pbG s = g0 := fun h => by simp [pbG, h]
  generalize pbErr s = er at *
  generalize pbG s = gg at *
  generalize givenE s = ge at *
  simp only [csD] at rg
  simp (config := { maxSteps := 1000000 }) (disch := first | omega | (simp only [go_sem]; omega)) only [go_sem, ↓reduceIte, csD]
  refine call_by rg ?_
  simp (config := { maxSteps := 1000000 }) (disch := first | omega | (simp only [go_sem]; omega)) only [go_sem, ↓reduceIte]
  refine bran_ndec (fun c => ?_) (fun c => ?_)
  · rw [if_pos c] at hE
    have hne : ¬ (er = 0) := by omega
    simp (config := { maxSteps := 1000000 }) (disch := first | omega | (simp only [go_sem]; omega)) only [go_sem, ↓reduceIte]
    rw [if_neg hne, if_neg hne, hZ hne, hE]
    simp [g0, prs, ints, eds]
  · subst c
    rw [if_neg (by simp)] at hE
    obtain ⟨v1, v2⟩ := hs rfl
    obtain ⟨a1, a2, a3, a4, _⟩ := validM_len v1
    obtain ⟨b1, b2, b3, b4, _⟩ := validM_len v2
    obtain ⟨_, _, a5, a6, _⟩ := validM_spec v1
    obtain ⟨_, _, b5, b6, _⟩ := validM_spec v2
    have r1 := hp s.f.n s.g.n (by omega) (by omega)
    have r2 := hp s.f.e s.g.e (by omega) (by omega)
    have l1 : (pbN s).length ≤ 10000 := pairsL_len (by omega) (by omega)
    have l2 : (pbE s).length ≤ 10000 := pairsL_len (by omega) (by omega)
    have m1 : ∀ p ∈ pbN s, (0 ≤ p.a ∧ p.a < s.b.n.length) := fun p hp => by have := pairsL_bd hp; omega
    have m2 : ∀ p ∈ pbE s, (0 ≤ p.a ∧ p.a < s.b.e.length) ∧ (0 ≤ p.b ∧ p.b < s.c.e.length) := fun p hp => by have := pairsL_bd hp; omega
    change FC P _ _ (.arr 2 (prs (pbN s))) _ at r1
    change FC P _ _ (.arr 2 (prs (pbE s))) _ at r2
    generalize pbN s = ns at *
    generalize pbE s = es at *
    obtain ⟨⟨bn, be⟩, ⟨cn, ce⟩, ⟨dn, de⟩, ⟨fn, fe⟩, ⟨gn, ge⟩⟩ := s
    simp only at *
    simp (config := { maxSteps := 1000000 }) (disch := first | omega | (simp only [go_sem]; omega)) only [go_sem, ↓reduceIte]
    refine call_by r1 ?_
    simp (config := { maxSteps := 1000000 }) (disch := first | omega | (simp only [go_sem]; omega)) only [go_sem, ↓reduceIte]
    refine call_by r2 ?_
    simp (config := { maxSteps := 1000000 }) (disch := first | omega | (simp only [go_sem]; omega)) only [go_sem, ↓reduceIte]
    have fitN : ∀ i, i ≤ ns.length → ((ns.take i).map fun p => gt bn p.a).length = i := fun i hi => by simp; omega
    have fitE : ∀ i, i ≤ es.length → ((es.take i).map (pbEdge be ce ns)).length = i := fun i hi => by simp; omega
    refine bran_dec (fun c1 => ?_) (fun c1 => ?_)
    · rw [if_pos (by omega)] at hE
      have hne : ¬ (er = 0) := by omega
      simp (config := { maxSteps := 1000000 }) (disch := first | omega | (simp only [go_sem]; omega)) only [go_sem, ↓reduceIte, c1]
      rw [if_neg hne, if_neg hne, hZ hne, hE]
      simp [g0, prs, ints, eds]
    · simp (config := { maxSteps := 1000000 }) (disch := first | omega | (simp only [go_sem]; omega)) only [go_sem, ↓reduceIte, c1]
      refine bran_dec (fun c2 => ?_) (fun c2 => ?_)
      · rw [if_pos (by omega)] at hE
        have hne : ¬ (er = 0) := by omega
        simp (config := { maxSteps := 1000000 }) (disch := first | omega | (simp only [go_sem]; omega)) only [go_sem, ↓reduceIte, c1, c2]
        rw [if_neg hne, if_neg hne, hZ hne, hE]
        simp [g0, prs, ints, eds]
      · rw [if_neg (by omega)] at hE
        subst hE
        rw [if_pos rfl, if_pos rfl, hG rfl]
        simp (config := { maxSteps := 1000000 }) (disch := first | omega | (simp only [go_sem]; omega)) only [go_sem, ↓reduceIte, c1, c2]
        refine W_loop (fun i : Nat => ⟨[(1, D.pt 0 0), (2, D.pt 5 0), (5, D.pt 10 0), (45, D.sl 6 0 ns.length), (46, D.int IntKind.i64 ns.length), (47, D.int IntKind.i64 i)],
          [(0, Ent.box [D.lst 1 (ints bn), D.lst 3 (eds be), D.lst 1 (ints cn), D.lst 3 (eds ce), D.lst 1 (ints dn), D.lst 3 (eds de), D.lst 1 (ints fn), D.lst 1 (ints fe), D.lst 1 (ints gn), D.lst 1 (ints ge)]),
            (1, Ent.arr 2 []), (2, Ent.arr 2 []), (3, Ent.arr 1 []), (4, Ent.arr 3 []), (5, Ent.box [D.sl 1 0 0, D.sl 2 0 0, D.sl 3 0 0, D.sl 4 0 0]), (6, Ent.arr 2 (prs ns)), (7, Ent.arr 2 (prs es)),
            (8, Ent.arr 1 (ints ((ns.take i).map fun p => gt bn p.a))), (9, Ent.arr 3 []), (10, Ent.box [D.sl 6 0 ns.length, D.sl 7 0 es.length, D.sl 8 0 i, D.sl 9 0 0])], 11⟩) (fun i => i ≤ ns.length) (fun i => ns.length - i) 0 ?_ ?_ ?_
        · simp (config := { maxSteps := 1000000 }) (disch := first | omega | (simp only [go_sem]; omega)) only [go_sem, ↓reduceIte]
          rfl
        · simp
        · intro i hi
          have e1 := fitN i hi
          simp (config := { maxSteps := 1000000 }) (disch := first | omega | (simp only [go_sem]; omega)) only [go_sem, ↓reduceIte, c_pullback_of_b12]
          refine bran_dec (fun c => ?_) (fun c => ?_)
          · have hm := m1 _ (gt_mem (l := ns) (j := i) (by omega) (by omega))
            simp (config := { maxSteps := 1000000 }) (disch := first | omega | (simp only [go_sem]; omega)) only [go_sem, ↓reduceIte, e1]
            exact ⟨i + 1, by rw [take_gt (by omega)]; simp, by omega, by omega⟩
          · obtain rfl : i = ns.length := by omega
            rw [List.take_length] at e1
            simp (config := { maxSteps := 1000000 }) (disch := first | omega | (simp only [go_sem]; omega)) only [go_sem, ↓reduceIte, e1]
            refine W_loop (fun j : Nat => ⟨[(1, D.pt 0 0), (2, D.pt 5 0), (5, D.pt 10 0), (67, D.sl 7 0 es.length), (68, D.int IntKind.i64 es.length), (69, D.int IntKind.i64 j)],
              [(0, Ent.box [D.lst 1 (ints bn), D.lst 3 (eds be), D.lst 1 (ints cn), D.lst 3 (eds ce), D.lst 1 (ints dn), D.lst 3 (eds de), D.lst 1 (ints fn), D.lst 1 (ints fe), D.lst 1 (ints gn), D.lst 1 (ints ge)]),
                (1, Ent.arr 2 []), (2, Ent.arr 2 []), (3, Ent.arr 1 []), (4, Ent.arr 3 []), (5, Ent.box [D.sl 1 0 0, D.sl 2 0 0, D.sl 3 0 0, D.sl 4 0 0]), (6, Ent.arr 2 (prs ns)), (7, Ent.arr 2 (prs es)),
                (8, Ent.arr 1 (ints (ns.map fun p => gt bn p.a))), (9, Ent.arr 3 (eds ((es.take j).map (pbEdge be ce ns)))), (10, Ent.box [D.sl 6 0 ns.length, D.sl 7 0 es.length, D.sl 8 0 ns.length, D.sl 9 0 j])], 11⟩) (fun j => j ≤ es.length) (fun j => es.length - j) 0 ?_ ?_ ?_
            · simp (config := { maxSteps := 1000000 }) (disch := first | omega | (simp only [go_sem]; omega)) only [go_sem, ↓reduceIte]
              rfl
            · simp
            · intro j hj
              have e2 := fitE j hj
              simp (config := { maxSteps := 1000000 }) (disch := first | omega | (simp only [go_sem]; omega)) only [go_sem, ↓reduceIte, c_pullback_of_b19]
              refine bran_dec (fun c => ?_) (fun c => ?_)
              · have hm := m2 _ (gt_mem (l := es) (j := j) (by omega) (by omega))
                have q1 := hx ns (gt be (gt es j).a).f (gt ce (gt es j).b).f (by unfold maxL; omega)
                have q2 := hx ns (gt be (gt es j).a).o (gt ce (gt es j).b).o (by unfold maxL; omega)
                simp (config := { maxSteps := 1000000 }) (disch := first | omega | (simp only [go_sem]; omega)) only [go_sem, ↓reduceIte, e2]
                refine call_by q1 ?_
                simp (config := { maxSteps := 1000000 }) (disch := first | omega | (simp only [go_sem]; omega)) only [go_sem, ↓reduceIte, e2]
                refine call_by q2 ?_
                simp (config := { maxSteps := 1000000 }) (disch := first | omega | (simp only [go_sem]; omega)) only [go_sem, ↓reduceIte, e2]
                exact ⟨j + 1, by rw [take_gt (by omega)]; simp [pbEdge], by omega, by omega⟩
              · obtain rfl : j = es.length := by omega
                rw [List.take_length] at e2
                simp (config := { maxSteps := 1000000 }) (disch := first | omega | (simp only [go_sem]; omega)) only [go_sem, ↓reduceIte, e1, e2]
                try rfl
end
end Go.Am
namespace Go.Am
open Go
set_option linter.unusedVariables false
set_option linter.unusedSimpArgs false
section
variable {P : Program} {F : String → Nat} {α : Type}
theorem pbN_len {s : Cs} (h : pbErr s = 0) : (pbN s).length ≤ 40 ∧ (pbE s).length ≤ 80 ∧ givenE s = 0 := by
  unfold pbErr at h
  split at h
  · rename_i h1; exact absurd h h1
  · rename_i h1
    split at h
    · cases h
    · rename_i h2
      exact ⟨by omega, by omega, by simpa using h1⟩
theorem w_pullback_Of (ho : K_pullback_of P F) (hs : K_pullback_sides P F) (s : Cs) : W P (c_pullback_Of F) (Done [.c 2 true 2, .c 3 true 2, .c 4 true 2, .t 5] [] (.tup [gA (pbG s), mA (pbP s), mA (pbQ s), .int .i64 (pbErr s)]) []) (init [csD s]) := by
  refine W_of ?_
  have ro := ho s
  have hl := @pbN_len s
  have hP : pbP s = if pbErr s = 0 then ⟨asA (pbN s), asA (pbE s)⟩ else m0 := rfl
  have hQ : pbQ s = if pbErr s = 0 then ⟨asB (pbN s), asB (pbE s)⟩ else m0 := rfl
  have hZ : pbErr s ≠ 0 → pbG s = g0 := fun h => by simp [pbG, h]
  generalize pbErr s = er at *
  generalize pbG s = gg at *
  generalize pbP s = pp at *
  generalize pbQ s = qq at *
  generalize pbN s = ns at *
  generalize pbE s = es at *
  simp only [csD] at ro
  simp (config := { maxSteps := 1000000 }) (disch := first | omega | (simp only [go_sem]; omega)) only [go_sem, ↓reduceIte, csD]
  refine call_by ro ?_
  obtain ⟨gn, ge⟩ := gg
  simp (config := { maxSteps := 1000000 }) (disch := first | omega | (simp only [go_sem]; omega)) only [go_sem, ↓reduceIte]
  refine bran_ndec (fun c => ?_) (fun c => ?_)
  · rw [if_neg c] at hP hQ
    simp (config := { maxSteps := 1000000 }) (disch := first | omega | (simp only [go_sem]; omega)) only [go_sem, ↓reduceIte]
    rw [hP, hQ, hZ c]
    simp [gA, mA, g0, m0, ints, eds]
  · subst c
    obtain ⟨l1, l2, _⟩ := hl rfl
    simp only [↓reduceIte] at hP hQ ⊢
    simp (config := { maxSteps := 1000000 }) (disch := first | omega | (simp only [go_sem]; omega)) only [go_sem, ↓reduceIte]
    refine call_by (hs ns (by omega)) ?_
    simp (config := { maxSteps := 1000000 }) (disch := first | omega | (simp only [go_sem]; omega)) only [go_sem, ↓reduceIte]
    refine call_by (hs es (by omega)) ?_
    simp (config := { maxSteps := 1000000 }) (disch := first | omega | (simp only [go_sem]; omega)) only [go_sem, ↓reduceIte]
    rw [hP, hQ]
    simp [gA, mA, asA, asB]
theorem w_r11_Of (hv : K_r11_Valid P F) (hp : K_r11_pairs P F) (hx : K_r11_place P F) (hs : K_r11_sides P F) (s : Cs) :
    W P (c_r11_Of F) (Done [.c 2 true 2, .c 3 true 2, .c 4 true 2, .t 5] [] (.tup [gA (pbG s), mA (pbP s), mA (pbQ s), .int .i64 (pbErr s)]) []) (init [csD s]) := by
  refine W_of ?_
  have rg := hv s
  have hs1 := @givenE_spec s
  have hE : pbErr s = if givenE s ≠ 0 then givenE s else if 40 < (pbN s).length ∨ 80 < (pbE s).length then 3 else 0 := rfl
  have hG : pbErr s = 0 → pbG s = ⟨(pbN s).map fun p => gt s.b.n p.a, (pbE s).map (pbEdge s.b.e s.c.e (pbN s))⟩ := fun h => by simp [pbG, h, pbG0]
  have hZ : pbErr s ≠ 0 → pbG s = g0 := fun h => by simp [pbG, h]
  have hP : pbP s = if pbErr s = 0 then ⟨asA (pbN s), asA (pbE s)⟩ else m0 := rfl
  have hQ : pbQ s = if pbErr s = 0 then ⟨asB (pbN s), asB (pbE s)⟩ else m0 := rfl
  generalize pbErr s = er at *
  generalize pbG s = gg at *
  generalize pbP s = pp at *
  generalize pbQ s = qq at *
  generalize givenE s = ge at *
  simp only [csD] at rg
  simp (config := { maxSteps := 1000000 }) (disch := first | omega | (simp only [go_sem]; omega)) only [go_sem, ↓reduceIte, csD]
  refine call_by rg ?_
  simp (config := { maxSteps := 1000000 }) (disch := first | omega | (simp only [go_sem]; omega)) only [go_sem, ↓reduceIte]
  refine bran_ndec (fun c => ?_) (fun c => ?_)
  · rw [if_pos c] at hE
    have hne : ¬ (er = 0) := by omega
    rw [if_neg hne] at hP hQ
    simp (config := { maxSteps := 1000000 }) (disch := first | omega | (simp only [go_sem]; omega)) only [go_sem, ↓reduceIte]
    rw [hZ hne, hE, hP, hQ]
    simp [g0, m0, gA, mA, ints, eds]
  · subst c
    rw [if_neg (by simp)] at hE
    obtain ⟨v1, v2⟩ := hs1 rfl
    obtain ⟨a1, a2, a3, a4, _⟩ := validM_len v1
    obtain ⟨b1, b2, b3, b4, _⟩ := validM_len v2
    obtain ⟨_, _, a5, a6, _⟩ := validM_spec v1
    obtain ⟨_, _, b5, b6, _⟩ := validM_spec v2
    have r1 := hp s.f.n s.g.n 40 (by omega) (by omega) (by omega)
    have r2 := hp s.f.e s.g.e 80 (by omega) (by omega) (by omega)
    have l1 : (pbN s).length ≤ 10000 := pairsL_len (by omega) (by omega)
    have l2 : (pbE s).length ≤ 10000 := pairsL_len (by omega) (by omega)
    have m1 : ∀ p ∈ pbN s, (0 ≤ p.a ∧ p.a < s.b.n.length) := fun p hp => by have := pairsL_bd hp; omega
    have m2 : ∀ p ∈ pbE s, (0 ≤ p.a ∧ p.a < s.b.e.length) ∧ (0 ≤ p.b ∧ p.b < s.c.e.length) := fun p hp => by have := pairsL_bd hp; omega
    change FC P _ _ (.arr 2 (prs ((pbN s).take (40 + 1)))) _ at r1
    change FC P _ _ (.arr 2 (prs ((pbE s).take (80 + 1)))) _ at r2
    generalize pbN s = ns at *
    generalize pbE s = es at *
    obtain ⟨⟨bn, be⟩, ⟨cn, ce⟩, ⟨dn, de⟩, ⟨fn, fe⟩, ⟨gn, ge⟩⟩ := s
    simp only at *
    have t1 : (ns.take (40 + 1)).length = min 41 ns.length := by simp
    have t2 : (es.take (80 + 1)).length = min 81 es.length := by simp
    have t3 : ns.length ≤ 40 → ns.take (40 + 1) = ns := fun h => List.take_of_length_le (by omega)
    have t4 : es.length ≤ 80 → es.take (80 + 1) = es := fun h => List.take_of_length_le (by omega)
    generalize ns.take (40 + 1) = ns' at *
    generalize es.take (80 + 1) = es' at *
    simp (config := { maxSteps := 1000000 }) (disch := first | omega | (simp only [go_sem]; omega)) only [go_sem, ↓reduceIte]
    refine call_by r1 ?_
    simp (config := { maxSteps := 1000000 }) (disch := first | omega | (simp only [go_sem]; omega)) only [go_sem, ↓reduceIte]
    refine call_by r2 ?_
    simp (config := { maxSteps := 1000000 }) (disch := first | omega | (simp only [go_sem]; omega)) only [go_sem, ↓reduceIte]
    have fitN : ∀ i, i ≤ ns.length → ((ns.take i).map fun p => gt bn p.a).length = i := fun i hi => by simp; omega
    have fitE : ∀ i, i ≤ es.length → ((es.take i).map (pbEdge be ce ns)).length = i := fun i hi => by simp; omega
    refine bran_dec (fun c1 => ?_) (fun c1 => ?_)
    · rw [if_pos (by omega)] at hE
      have hne : ¬ (er = 0) := by omega
      rw [if_neg hne] at hP hQ
      simp (config := { maxSteps := 1000000 }) (disch := first | omega | (simp only [go_sem]; omega)) only [go_sem, ↓reduceIte, c1]
      rw [hZ hne, hE, hP, hQ]
      simp [g0, m0, gA, mA, ints, eds]
    · simp (config := { maxSteps := 1000000 }) (disch := first | omega | (simp only [go_sem]; omega)) only [go_sem, ↓reduceIte, c1]
      refine bran_dec (fun c2 => ?_) (fun c2 => ?_)
      · rw [if_pos (by omega)] at hE
        have hne : ¬ (er = 0) := by omega
        rw [if_neg hne] at hP hQ
        simp (config := { maxSteps := 1000000 }) (disch := first | omega | (simp only [go_sem]; omega)) only [go_sem, ↓reduceIte, c1, c2]
        rw [hZ hne, hE, hP, hQ]
        simp [g0, m0, gA, mA, ints, eds]
      · rw [if_neg (by omega)] at hE
        obtain rfl := t3 (by omega)
        obtain rfl := t4 (by omega)
        subst hE
        rw [if_pos rfl] at hP hQ
        have hG := hG rfl
        subst hG hP hQ
        clear t1 t2 t3 t4
        simp (config := { maxSteps := 1000000 }) (disch := first | omega | (simp only [go_sem]; omega)) only [go_sem, ↓reduceIte, c1, c2]
        refine W_loop (fun i : Nat => ⟨[(1, D.pt 0 0), (2, D.pt 3 0), (3, D.pt 6 0), (4, D.pt 9 0), (7, D.sl 10 0 ns'.length), (8, D.sl 11 0 es'.length), (9, D.pt 14 0), (10, D.int IntKind.i64 i)],
          [(0, Ent.box [D.lst 1 (ints bn), D.lst 3 (eds be), D.lst 1 (ints cn), D.lst 3 (eds ce), D.lst 1 (ints dn), D.lst 3 (eds de), D.lst 1 (ints fn), D.lst 1 (ints fe), D.lst 1 (ints gn), D.lst 1 (ints ge)]),
            (1, Ent.arr 1 []), (2, Ent.arr 3 []), (3, Ent.box [D.sl 1 0 0, D.sl 2 0 0]), (4, Ent.arr 1 []), (5, Ent.arr 1 []), (6, Ent.box [D.sl 4 0 0, D.sl 5 0 0]), (7, Ent.arr 1 []), (8, Ent.arr 1 []),
            (9, Ent.box [D.sl 7 0 0, D.sl 8 0 0]), (10, Ent.arr 2 (prs ns')), (11, Ent.arr 2 (prs es')), (12, Ent.arr 1 (ints ((ns'.take i).map fun p => gt bn p.a))), (13, Ent.arr 3 []), (14, Ent.box [D.sl 12 0 i, D.sl 13 0 0])], 15⟩) (fun i => i ≤ ns'.length) (fun i => ns'.length - i) 0 ?_ ?_ ?_
        · simp (config := { maxSteps := 1000000 }) (disch := first | omega | (simp only [go_sem]; omega)) only [go_sem, ↓reduceIte]
          rfl
        · simp
        · intro i hi
          have e1 := fitN i hi
          simp (config := { maxSteps := 1000000 }) (disch := first | omega | (simp only [go_sem]; omega)) only [go_sem, ↓reduceIte, c_r11_Of_b12]
          refine bran_dec (fun c => ?_) (fun c => ?_)
          · have hm := m1 _ (gt_mem (l := ns') (j := i) (by omega) (by omega))
            simp (config := { maxSteps := 1000000 }) (disch := first | omega | (simp only [go_sem]; omega)) only [go_sem, ↓reduceIte, e1]
            exact ⟨i + 1, by rw [take_gt (by omega)]; simp, by omega, by omega⟩
          · obtain rfl : i = ns'.length := by omega
            rw [List.take_length] at e1
            simp (config := { maxSteps := 1000000 }) (disch := first | omega | (simp only [go_sem]; omega)) only [go_sem, ↓reduceIte, e1]
            refine W_loop (fun j : Nat => ⟨[(1, D.pt 0 0), (2, D.pt 3 0), (3, D.pt 6 0), (4, D.pt 9 0), (7, D.sl 10 0 ns'.length), (8, D.sl 11 0 es'.length), (9, D.pt 14 0), (11, D.int IntKind.i64 j)],
              [(0, Ent.box [D.lst 1 (ints bn), D.lst 3 (eds be), D.lst 1 (ints cn), D.lst 3 (eds ce), D.lst 1 (ints dn), D.lst 3 (eds de), D.lst 1 (ints fn), D.lst 1 (ints fe), D.lst 1 (ints gn), D.lst 1 (ints ge)]),
            (1, Ent.arr 1 []), (2, Ent.arr 3 []), (3, Ent.box [D.sl 1 0 0, D.sl 2 0 0]), (4, Ent.arr 1 []), (5, Ent.arr 1 []), (6, Ent.box [D.sl 4 0 0, D.sl 5 0 0]), (7, Ent.arr 1 []), (8, Ent.arr 1 []),
            (9, Ent.box [D.sl 7 0 0, D.sl 8 0 0]), (10, Ent.arr 2 (prs ns')), (11, Ent.arr 2 (prs es')), (12, Ent.arr 1 (ints (ns'.map fun p => gt bn p.a))), (13, Ent.arr 3 (eds ((es'.take j).map (pbEdge be ce ns')))), (14, Ent.box [D.sl 12 0 ns'.length, D.sl 13 0 j])], 15⟩) (fun j => j ≤ es'.length) (fun j => es'.length - j) 0 ?_ ?_ ?_
            · simp (config := { maxSteps := 1000000 }) (disch := first | omega | (simp only [go_sem]; omega)) only [go_sem, ↓reduceIte]
              rfl
            · simp
            · intro j hj
              have e2 := fitE j hj
              simp (config := { maxSteps := 1000000 }) (disch := first | omega | (simp only [go_sem]; omega)) only [go_sem, ↓reduceIte, c_r11_Of_b18]
              refine bran_dec (fun c => ?_) (fun c => ?_)
              · have hm := m2 _ (gt_mem (l := es') (j := j) (by omega) (by omega))
                have q1 := hx ns' (gt be (gt es' j).a).f (gt ce (gt es' j).b).f (by unfold maxL; omega)
                have q2 := hx ns' (gt be (gt es' j).a).o (gt ce (gt es' j).b).o (by unfold maxL; omega)
                simp (config := { maxSteps := 1000000 }) (disch := first | omega | (simp only [go_sem]; omega)) only [go_sem, ↓reduceIte, e2]
                refine call_by q1 ?_
                simp (config := { maxSteps := 1000000 }) (disch := first | omega | (simp only [go_sem]; omega)) only [go_sem, ↓reduceIte, e2]
                refine call_by q2 ?_
                simp (config := { maxSteps := 1000000 }) (disch := first | omega | (simp only [go_sem]; omega)) only [go_sem, ↓reduceIte, e2]
                exact ⟨j + 1, by rw [take_gt (by omega)]; simp [pbEdge], by omega, by omega⟩
              · obtain rfl : j = es'.length := by omega
                rw [List.take_length] at e2
                simp (config := { maxSteps := 1000000 }) (disch := first | omega | (simp only [go_sem]; omega)) only [go_sem, ↓reduceIte, e1, e2]
                refine call_by (hs ns' (by omega)) ?_
                simp (config := { maxSteps := 1000000 }) (disch := first | omega | (simp only [go_sem]; omega)) only [go_sem, ↓reduceIte, e1, e2]
                refine call_by (hs es' (by omega)) ?_
                simp (config := { maxSteps := 1000000 }) (disch := first | omega | (simp only [go_sem]; omega)) only [go_sem, ↓reduceIte, e1, e2]
                simp [gA, mA, asA, asB]
end
end Go.Am
