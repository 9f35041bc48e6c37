/- Parts by bits; cases of descriptions; the law ComplementCovers. -/
import Derived.Test.YtoeomfoohdheoaaSpG
import Derived.Test.YtoeomfoohdheoaaSoJ
import Derived.Test.YtoeomfoohdheoaaAmRu
namespace Go.Am
open Go
set_option linter.unusedVariables false
set_option linter.unusedSimpArgs false
attribute [local irreducible] W
/- r07.Made -/
def c_r07_Made_r0 (F : String → Nat) : List LI := [⟨some 2, .bx (.t 0), none⟩,
  ⟨some 4, .alloc [.nl 1, .nl 1], none⟩]
def c_r07_Made_r1 (F : String → Nat) : List LI := [⟨some 9, .fad 0 (.t 2), none⟩,
  ⟨some 10, .load false 1 (.t 9), none⟩,
  ⟨some 11, .len (.t 10), none⟩,
  ⟨some 12, .makeSl 1 1 (.bool false) (.t 11), none⟩,
  ⟨some 13, .fad 1 (.t 2), none⟩,
  ⟨some 14, .load false 1 (.t 13), none⟩,
  ⟨some 15, .len (.t 14), none⟩,
  ⟨some 16, .makeSl 1 1 (.bool false) (.t 15), none⟩,
  ⟨some 5, .mov (.t 12), none⟩,
  ⟨some 6, .mov (.t 16), none⟩]
def c_r07_Made_r2 (F : String → Nat) : List LI := [⟨some 7, .mov (.k (.int .i64 (0))), none⟩]
def c_r07_Made_r3 (F : String → Nat) : List LI := [⟨some 17, .mov (.t 7), none⟩,
  ⟨some 18, .mov (.t 5), none⟩,
  ⟨some 19, .len (.t 18), none⟩,
  ⟨some 20, .bin .lss (.t 17) (.t 19), none⟩]
def c_r07_Made_r4 (F : String → Nat) : List LI := [⟨some 23, .mov (.t 5), none⟩,
  ⟨some 24, .mov (.t 7), none⟩,
  ⟨some 25, .mov (.t 1), none⟩,
  ⟨some 26, .mov (.t 7), none⟩,
  ⟨some 27, .bin .rem (.t 26) (.k (.int .i64 (64))), none⟩,
  ⟨some 28, .bin .shr (.t 25) (.t 27), none⟩,
  ⟨some 29, .bin .and (.t 28) (.k (.int .u64 (1))), none⟩,
  ⟨some 30, .bin .eql (.t 29) (.k (.int .u64 (1))), none⟩,
  ⟨some 31, .iad 1 (.t 23) (.t 24), none⟩,
  ⟨none, .store 1 (.t 31) (.t 30), none⟩]
def c_r07_Made_r5 (F : String → Nat) : List LI := [⟨some 21, .mov (.t 7), none⟩,
  ⟨some 22, .bin .add (.t 21) (.k (.int .i64 (1))), none⟩,
  ⟨some 7, .mov (.t 22), none⟩]
def c_r07_Made_b6 (F : String → Nat) : LC := (.seq (.seq (.reg (c_r07_Made_r3 F) [1, 2, 4, 5, 6, 7, 20]) (.cond (.t 20) .skip (.exit 0))) (.seq (.block 1 (.reg (c_r07_Made_r4 F) [1, 2, 4, 5, 6, 7])) (.reg (c_r07_Made_r5 F) [1, 2, 4, 5, 6, 7])))
def c_r07_Made_r7 (F : String → Nat) : List LI := [⟨some 8, .mov (.k (.int .i64 (0))), none⟩]
def c_r07_Made_r8 (F : String → Nat) : List LI := [⟨some 32, .mov (.t 8), none⟩,
  ⟨some 33, .mov (.t 6), none⟩,
  ⟨some 34, .len (.t 33), none⟩,
  ⟨some 35, .bin .lss (.t 32) (.t 34), none⟩]
def c_r07_Made_r9 (F : String → Nat) : List LI := [⟨some 38, .mov (.t 6), none⟩,
  ⟨some 39, .mov (.t 8), none⟩,
  ⟨some 40, .mov (.t 1), none⟩,
  ⟨some 41, .mov (.t 5), none⟩,
  ⟨some 42, .len (.t 41), none⟩,
  ⟨some 43, .mov (.t 8), none⟩,
  ⟨some 44, .bin .add (.t 42) (.t 43), none⟩,
  ⟨some 45, .bin .rem (.t 44) (.k (.int .i64 (64))), none⟩,
  ⟨some 46, .bin .shr (.t 40) (.t 45), none⟩,
  ⟨some 47, .bin .and (.t 46) (.k (.int .u64 (1))), none⟩,
  ⟨some 48, .bin .eql (.t 47) (.k (.int .u64 (1))), none⟩,
  ⟨some 49, .iad 1 (.t 38) (.t 39), none⟩,
  ⟨none, .store 1 (.t 49) (.t 48), none⟩]
def c_r07_Made_r10 (F : String → Nat) : List LI := [⟨some 36, .mov (.t 8), none⟩,
  ⟨some 37, .bin .add (.t 36) (.k (.int .i64 (1))), none⟩,
  ⟨some 8, .mov (.t 37), none⟩]
def c_r07_Made_b11 (F : String → Nat) : LC := (.seq (.seq (.reg (c_r07_Made_r8 F) [1, 2, 4, 5, 6, 8, 35]) (.cond (.t 35) .skip (.exit 2))) (.seq (.block 3 (.reg (c_r07_Made_r9 F) [1, 2, 4, 5, 6, 8])) (.reg (c_r07_Made_r10 F) [1, 2, 4, 5, 6, 8])))
def c_r07_Made_r12 (F : String → Nat) : List LI := [⟨some 50, .load true 2 (.t 2), none⟩,
  ⟨some 51, .mov (.t 5), none⟩,
  ⟨some 52, .mov (.t 6), none⟩,
  ⟨some 53, .call (F "r07.Least") [.t 50, .t 51, .t 52] [], none⟩,
  ⟨none, .store 2 (.t 4) (.t 53), none⟩]
def c_r07_Made (F : String → Nat) : LC := (.seq (.reg (c_r07_Made_r0 F) [1, 2, 4]) (.seq (.dreg [(5, (some 16), [], false)] (c_r07_Made_r1 F) [1, 2, 4, 5, 6]) (.seq (.seq (.reg (c_r07_Made_r2 F) [1, 2, 4, 5, 6, 7]) (.block 0 (.loop [1, 2, 4, 5, 6, 7] (c_r07_Made_b6 F)))) (.seq (.seq (.reg (c_r07_Made_r7 F) [1, 2, 4, 5, 6, 8]) (.block 2 (.loop [1, 2, 4, 5, 6, 8] (c_r07_Made_b11 F)))) (.seq (.reg (c_r07_Made_r12 F) [4]) .ret)))))
def h_r07_Made : Hints := ⟨[], fun _ => [], tab [(0, [1, 2, 4]), (1, [1, 2, 4, 5, 6]), (2, [1, 2, 4, 5, 6, 7]), (3, [1, 2, 4, 5, 6, 7, 20]), (4, [1, 2, 4, 5, 6, 7]), (5, [1, 2, 4, 5, 6, 7]), (6, [1, 2, 4, 5, 6, 8]), (7, [1, 2, 4, 5, 6, 8, 35]), (8, [1, 2, 4, 5, 6, 8]), (9, [1, 2, 4, 5, 6, 8]), (10, [4])], tab [(3, [1, 2, 4, 5, 6, 7]), (7, [1, 2, 4, 5, 6, 8])]⟩

/- l12.made -/
def c_l12_made_r0 (F : String → Nat) : List LI := [⟨some 3, .bx (.t 0), none⟩,
  ⟨some 6, .alloc [.nl 1, .nl 3, .nl 1, .nl 3, .nl 1, .nl 1, .nl 1, .nl 1], none⟩]
def c_l12_made_r1 (F : String → Nat) : List LI := [⟨some 10, .load true 2 (.t 3), none⟩,
  ⟨some 11, .call (F "r05.Made") [.t 10] [], none⟩,
  ⟨some 7, .alloc [.nl 1, .nl 3], none⟩,
  ⟨none, .store 2 (.t 7) (.t 11), none⟩]
def c_l12_made_r2 (F : String → Nat) : List LI := [⟨some 13, .load true 2 (.t 7), none⟩,
  ⟨some 14, .mov (.t 1), none⟩,
  ⟨some 15, .call (F "r10.Grown") [.t 13, .t 14] [], none⟩,
  ⟨some 12, .mov (.t 15), none⟩,
  ⟨some 16, .ext (.t 12) 0, none⟩,
  ⟨some 17, .ext (.t 12) 1, none⟩,
  ⟨some 8, .alloc [.nl 1, .nl 3], none⟩,
  ⟨some 9, .alloc [.nl 1, .nl 1], none⟩,
  ⟨none, .store 2 (.t 8) (.t 16), none⟩,
  ⟨none, .store 2 (.t 9) (.t 17), none⟩]
def c_l12_made_r3 (F : String → Nat) : List LI := [⟨some 18, .load true 2 (.t 7), none⟩,
  ⟨some 19, .load true 2 (.t 8), none⟩,
  ⟨some 20, .load true 2 (.t 7), none⟩,
  ⟨some 21, .mov (.t 2), none⟩,
  ⟨some 22, .call (F "r07.Made") [.t 20, .t 21] [], none⟩,
  ⟨some 23, .load true 2 (.t 9), none⟩,
  ⟨some 24, .build [.nl 1, .nl 3, .nl 1, .nl 3, .nl 1, .nl 1, .nl 1, .nl 1] [(0, 2, .t 18), (2, 2, .t 19), (4, 2, .t 22), (6, 2, .t 23)], none⟩,
  ⟨none, .store 8 (.t 6) (.t 24), none⟩]
def c_l12_made (F : String → Nat) : LC := (.seq (.reg (c_l12_made_r0 F) [1, 2, 3, 6]) (.seq (.reg (c_l12_made_r1 F) [1, 2, 6, 7]) (.seq (.reg (c_l12_made_r2 F) [2, 6, 7, 8, 9]) (.seq (.dreg [(0, none, [], true), (1, none, [], true), (4, none, [0, 1], true), (5, (some 0), [4], false)] (c_l12_made_r3 F) [6]) .ret))))
def h_l12_made : Hints := ⟨[], fun _ => [], tab [(0, [1, 2, 3, 6]), (1, [1, 2, 6, 7]), (2, [2, 6, 7, 8, 9]), (3, [6])], tab []⟩

/- l12.covers -/
def c_l12_covers_r0 (F : String → Nat) : List LI := [⟨some 8, .mov (.k (.bool false)), none⟩]
def c_l12_covers_r1 (F : String → Nat) : List LI := [⟨some 14, .mov (.t 0), none⟩,
  ⟨some 15, .mov (.k (.int .i64 (0))), none⟩]
def c_l12_covers_r2 (F : String → Nat) : List LI := [⟨some 16, .bin .lss (.t 15) (.t 14), none⟩]
def c_l12_covers_r3 (F : String → Nat) : List LI := [⟨some 17, .mov (.t 15), none⟩,
  ⟨some 9, .mov (.t 17), none⟩]
def c_l12_covers_r4 (F : String → Nat) : List LI := [⟨some 10, .mov (.k (.int .i64 (0))), none⟩,
  ⟨some 11, .mov (.k (.bool false)), none⟩]
def c_l12_covers_r5 (F : String → Nat) : List LI := [⟨some 18, .mov (.t 2), none⟩,
  ⟨some 19, .len (.t 18), none⟩,
  ⟨some 20, .mov (.k (.int .i64 (0))), none⟩]
def c_l12_covers_r6 (F : String → Nat) : List LI := [⟨some 21, .bin .lss (.t 20) (.t 19), none⟩]
def c_l12_covers_r7 (F : String → Nat) : List LI := [⟨some 22, .mov (.t 20), none⟩,
  ⟨some 23, .iad 1 (.t 18) (.t 20), none⟩,
  ⟨some 24, .load false 1 (.t 23), none⟩,
  ⟨some 12, .mov (.t 22), none⟩,
  ⟨some 13, .mov (.t 24), none⟩]
def c_l12_covers_r8 (F : String → Nat) : List LI := [⟨some 25, .mov (.t 13), none⟩,
  ⟨some 26, .mov (.t 9), none⟩,
  ⟨some 27, .bin .eql (.t 25) (.t 26), none⟩]
def c_l12_covers_r9 (F : String → Nat) : List LI := [⟨some 28, .mov (.t 10), none⟩,
  ⟨some 29, .bin .add (.t 28) (.k (.int .i64 (1))), none⟩,
  ⟨some 10, .mov (.t 29), none⟩]
def c_l12_covers_r10 (F : String → Nat) : List LI := [⟨some 30, .mov (.t 11), none⟩,
  ⟨some 31, .mov (.t 30), none⟩,
  ⟨some 32, .mov (.t 3), some (31, false)⟩,
  ⟨some 33, .mov (.t 12), some (31, false)⟩,
  ⟨some 34, .call (F "slices.Contains.I") [.t 32, .t 33] [], some (31, false)⟩,
  ⟨some 35, .not (.t 34), some (31, false)⟩,
  ⟨some 36, .pick (.t 31) (.k (.bool true)) (.t 35), none⟩,
  ⟨some 11, .mov (.t 36), none⟩]
def c_l12_covers_r11 (F : String → Nat) : List LI := [⟨some 37, .bin .add (.t 20) (.k (.int .i64 (1))), none⟩,
  ⟨some 20, .mov (.t 37), none⟩]
def c_l12_covers_b12 (F : String → Nat) : LC := (.seq (.reg (c_l12_covers_r6 F) [1, 2, 3, 9, 10, 11, 14, 15, 18, 19, 20, 21]) (.seq (.cond (.t 21) .skip (.exit 2)) (.seq (.block 3 (.seq (.reg (c_l12_covers_r7 F) [1, 2, 3, 9, 10, 11, 12, 13, 14, 15, 18, 19, 20]) (.seq (.reg (c_l12_covers_r8 F) [1, 2, 3, 9, 10, 11, 12, 14, 15, 18, 19, 20, 27]) (.cond (.t 27) (.seq (.reg (c_l12_covers_r9 F) [1, 2, 3, 9, 10, 11, 12, 14, 15, 18, 19, 20]) (.reg (c_l12_covers_r10 F) [1, 2, 3, 9, 10, 11, 14, 15, 18, 19, 20])) .skip)))) (.reg (c_l12_covers_r11 F) [1, 2, 3, 9, 10, 11, 14, 15, 18, 19, 20]))))
def c_l12_covers_r13 (F : String → Nat) : List LI := [⟨some 38, .mov (.t 1), none⟩,
  ⟨some 39, .mov (.t 9), none⟩,
  ⟨some 40, .call (F "slices.Contains.I") [.t 38, .t 39] [], none⟩,
  ⟨some 41, .mov (.t 11), none⟩,
  ⟨some 42, .eqB false (.t 40) (.t 41), none⟩,
  ⟨some 43, .mov (.t 42), none⟩,
  ⟨some 44, .mov (.t 11), some (43, false)⟩,
  ⟨some 45, .mov (.t 44), some (43, false)⟩,
  ⟨some 46, .mov (.t 10), some (45, true)⟩,
  ⟨some 47, .bin .neq (.t 46) (.k (.int .i64 (1))), some (45, true)⟩,
  ⟨some 48, .pick (.t 45) (.t 47) (.k (.bool false)), some (43, false)⟩,
  ⟨some 49, .pick (.t 43) (.k (.bool true)) (.t 48), none⟩]
def c_l12_covers_r14 (F : String → Nat) : List LI := [⟨some 8, .mov (.k (.bool false)), none⟩]
def c_l12_covers_r15 (F : String → Nat) : List LI := [⟨some 50, .bin .add (.t 15) (.k (.int .i64 (1))), none⟩,
  ⟨some 15, .mov (.t 50), none⟩]
def c_l12_covers_b16 (F : String → Nat) : LC := (.seq (.reg (c_l12_covers_r2 F) [1, 2, 3, 14, 15, 16]) (.seq (.cond (.t 16) .skip (.exit 0)) (.seq (.block 1 (.seq (.reg (c_l12_covers_r3 F) [1, 2, 3, 9, 14, 15]) (.seq (.reg (c_l12_covers_r4 F) [1, 2, 3, 9, 10, 11, 14, 15]) (.seq (.seq (.reg (c_l12_covers_r5 F) [1, 2, 3, 9, 10, 11, 14, 15, 18, 19, 20]) (.block 2 (.loop [1, 2, 3, 9, 10, 11, 14, 15, 18, 19, 20] (c_l12_covers_b12 F)))) (.seq (.reg (c_l12_covers_r13 F) [1, 2, 3, 14, 15, 49]) (.cond (.t 49) (.seq (.reg (c_l12_covers_r14 F) [8]) .ret) .skip)))))) (.reg (c_l12_covers_r15 F) [1, 2, 3, 14, 15]))))
def c_l12_covers_r17 (F : String → Nat) : List LI := [⟨some 8, .mov (.k (.bool true)), none⟩]
def c_l12_covers (F : String → Nat) : LC := (.seq (.reg (c_l12_covers_r0 F) [0, 1, 2, 3]) (.seq (.seq (.reg (c_l12_covers_r1 F) [1, 2, 3, 14, 15]) (.block 0 (.loop [1, 2, 3, 14, 15] (c_l12_covers_b16 F)))) (.seq (.reg (c_l12_covers_r17 F) [8]) .ret)))
def h_l12_covers : Hints := ⟨[], fun _ => [], tab [(0, [0, 1, 2, 3]), (1, [1, 2, 3, 14, 15]), (2, [1, 2, 3, 14, 15, 16]), (3, [1, 2, 3, 9, 14, 15]), (4, [1, 2, 3, 9, 10, 11, 14, 15]), (5, [1, 2, 3, 9, 10, 11, 14, 15, 18, 19, 20]), (6, [1, 2, 3, 9, 10, 11, 14, 15, 18, 19, 20, 21]), (7, [1, 2, 3, 9, 10, 11, 12, 13, 14, 15, 18, 19, 20]), (8, [1, 2, 3, 9, 10, 11, 12, 14, 15, 18, 19, 20, 27]), (9, [1, 2, 3, 9, 10, 11, 12, 14, 15, 18, 19, 20]), (10, [1, 2, 3, 9, 10, 11, 14, 15, 18, 19, 20]), (11, [1, 2, 3, 9, 10, 11, 14, 15, 18, 19, 20]), (12, [1, 2, 3, 14, 15, 49]), (13, [8]), (14, [1, 2, 3, 14, 15]), (15, [8])], tab [(2, [1, 2, 3, 14, 15]), (6, [1, 2, 3, 9, 10, 11, 14, 15, 18, 19, 20])]⟩

/- l12.ComplementCovers -/
def c_l12_ComplementCovers_r0 (F : String → Nat) : List LI := [⟨some 3, .bx (.t 0), none⟩,
  ⟨some 6, .mov (.k (.bool false)), none⟩]
def c_l12_ComplementCovers_r1 (F : String → Nat) : List LI := [⟨some 10, .call (F "l12.awake") [] [], none⟩,
  ⟨some 11, .not (.t 10), none⟩]
def c_l12_ComplementCovers_r2 (F : String → Nat) : List LI := [⟨some 6, .mov (.k (.bool false)), none⟩]
def c_l12_ComplementCovers_r3 (F : String → Nat) : List LI := [⟨some 12, .load true 2 (.t 3), none⟩,
  ⟨some 13, .mov (.t 1), none⟩,
  ⟨some 14, .mov (.t 2), none⟩,
  ⟨some 15, .call (F "l12.made") [.t 12, .t 13, .t 14] [], none⟩,
  ⟨some 7, .alloc [.nl 1, .nl 3, .nl 1, .nl 3, .nl 1, .nl 1, .nl 1, .nl 1], none⟩,
  ⟨none, .store 8 (.t 7) (.t 15), none⟩]
def c_l12_ComplementCovers_r4 (F : String → Nat) : List LI := [⟨some 17, .fad 0 (.t 7), none⟩,
  ⟨some 18, .load true 2 (.t 17), none⟩,
  ⟨some 19, .fad 2 (.t 7), none⟩,
  ⟨some 20, .load true 2 (.t 19), none⟩,
  ⟨some 21, .fad 4 (.t 7), none⟩,
  ⟨some 22, .load true 2 (.t 21), none⟩,
  ⟨some 23, .fad 6 (.t 7), none⟩,
  ⟨some 24, .load true 2 (.t 23), none⟩,
  ⟨some 25, .call (F "complement.Of") [.t 18, .t 20, .t 22, .t 24] [], none⟩,
  ⟨some 16, .mov (.t 25), none⟩,
  ⟨some 26, .ext (.t 16) 0, none⟩,
  ⟨some 27, .ext (.t 16) 1, none⟩,
  ⟨some 8, .alloc [.nl 1, .nl 1], none⟩,
  ⟨none, .store 2 (.t 8) (.t 26), none⟩,
  ⟨some 9, .mov (.t 27), none⟩]
def c_l12_ComplementCovers_r5 (F : String → Nat) : List LI := [⟨some 28, .mov (.t 9), none⟩,
  ⟨some 29, .bin .neq (.t 28) (.k (.int .i64 (0))), none⟩]
def c_l12_ComplementCovers_r6 (F : String → Nat) : List LI := [⟨some 30, .mov (.t 9), none⟩,
  ⟨some 31, .bin .eql (.t 30) (.k (.int .i64 (15))), none⟩,
  ⟨some 32, .mov (.t 31), none⟩,
  ⟨some 33, .mov (.t 9), some (32, false)⟩,
  ⟨some 34, .bin .eql (.t 33) (.k (.int .i64 (14))), some (32, false)⟩,
  ⟨some 35, .pick (.t 32) (.k (.bool true)) (.t 34), none⟩,
  ⟨some 6, .mov (.t 35), none⟩]
def c_l12_ComplementCovers_r7 (F : String → Nat) : List LI := [⟨some 36, .fad 2 (.t 7), none⟩,
  ⟨some 37, .fad 0 (.t 36), none⟩,
  ⟨some 38, .load false 1 (.t 37), none⟩,
  ⟨some 39, .len (.t 38), none⟩,
  ⟨some 40, .fad 0 (.t 8), none⟩,
  ⟨some 41, .load false 1 (.t 40), none⟩,
  ⟨some 42, .fad 6 (.t 7), none⟩,
  ⟨some 43, .fad 0 (.t 42), none⟩,
  ⟨some 44, .load false 1 (.t 43), none⟩,
  ⟨some 45, .fad 4 (.t 7), none⟩,
  ⟨some 46, .fad 0 (.t 45), none⟩,
  ⟨some 47, .load false 1 (.t 46), none⟩,
  ⟨some 48, .call (F "l12.covers") [.t 39, .t 41, .t 44, .t 47] [], none⟩,
  ⟨some 49, .mov (.t 48), none⟩,
  ⟨some 50, .fad 2 (.t 7), some (49, true)⟩,
  ⟨some 51, .fad 1 (.t 50), some (49, true)⟩,
  ⟨some 52, .load false 1 (.t 51), some (49, true)⟩,
  ⟨some 53, .len (.t 52), some (49, true)⟩,
  ⟨some 54, .fad 1 (.t 8), some (49, true)⟩,
  ⟨some 55, .load false 1 (.t 54), some (49, true)⟩,
  ⟨some 56, .fad 6 (.t 7), some (49, true)⟩,
  ⟨some 57, .fad 1 (.t 56), some (49, true)⟩,
  ⟨some 58, .load false 1 (.t 57), some (49, true)⟩,
  ⟨some 59, .fad 4 (.t 7), some (49, true)⟩,
  ⟨some 60, .fad 1 (.t 59), some (49, true)⟩,
  ⟨some 61, .load false 1 (.t 60), some (49, true)⟩,
  ⟨some 62, .call (F "l12.covers") [.t 53, .t 55, .t 58, .t 61] [], some (49, true)⟩,
  ⟨some 63, .pick (.t 49) (.t 62) (.k (.bool false)), none⟩,
  ⟨some 6, .mov (.t 63), none⟩]
def c_l12_ComplementCovers (F : String → Nat) : LC := (.seq (.reg (c_l12_ComplementCovers_r0 F) [1, 2, 3]) (.seq (.seq (.reg (c_l12_ComplementCovers_r1 F) [1, 2, 3, 11]) (.cond (.t 11) (.seq (.reg (c_l12_ComplementCovers_r2 F) [6]) .ret) .skip)) (.seq (.reg (c_l12_ComplementCovers_r3 F) [7]) (.seq (.reg (c_l12_ComplementCovers_r4 F) [7, 8, 9]) (.seq (.seq (.reg (c_l12_ComplementCovers_r5 F) [7, 8, 9, 29]) (.cond (.t 29) (.seq (.reg (c_l12_ComplementCovers_r6 F) [6]) .ret) .skip)) (.seq (.reg (c_l12_ComplementCovers_r7 F) [6]) .ret))))))
def h_l12_ComplementCovers : Hints := ⟨[], fun _ => [], tab [(0, [1, 2, 3]), (1, [1, 2, 3, 11]), (2, [6]), (3, [7]), (4, [7, 8, 9]), (5, [7, 8, 9, 29]), (6, [6]), (7, [6])], tab []⟩

attribute [go_sem] c_r07_Made_r0 c_r07_Made_r1 c_r07_Made_r2 c_r07_Made_r3 c_r07_Made_r4 c_r07_Made_r5 c_r07_Made_r7 c_r07_Made_r8 c_r07_Made_r9 c_r07_Made_r10 c_r07_Made_r12 c_r07_Made c_l12_made_r0 c_l12_made_r1 c_l12_made_r2 c_l12_made_r3 c_l12_made c_l12_covers_r0 c_l12_covers_r1 c_l12_covers_r2 c_l12_covers_r3 c_l12_covers_r4 c_l12_covers_r5 c_l12_covers_r6 c_l12_covers_r7 c_l12_covers_r8 c_l12_covers_r9 c_l12_covers_r10 c_l12_covers_r11 c_l12_covers_r13 c_l12_covers_r14 c_l12_covers_r15 c_l12_covers_r17 c_l12_covers c_l12_ComplementCovers_r0 c_l12_ComplementCovers_r1 c_l12_ComplementCovers_r2 c_l12_ComplementCovers_r3 c_l12_ComplementCovers_r4 c_l12_ComplementCovers_r5 c_l12_ComplementCovers_r6 c_l12_ComplementCovers_r7 c_l12_ComplementCovers
/-- The bit of a number. -/
def bitB (s i : Int) : Bool := decide (IntKind.u64.wrap ((BitVec.ofInt 64 (s.fdiv (2 ^ (min (i.tmod 64).toNat 64))) &&& 1#64).toNat : Int) = 1)
def bitL (s : Int) (n m : Nat) : List Bool := (List.range m).map fun k : Nat => bitB s ((n : Int) + (k : Int))
/-- The least part with the elements that bits name. -/
def partP (g : G) (s : Int) : Mo := leastP g (bitL s 0 g.n.length) (bitL s g.n.length g.e.length)
def madeCx (d : Dr) (c : List Int) (s : Int) : Cx := ⟨madeG d, grG (madeG d) c, partP (madeG d) s, grM (madeG d) c⟩
def cxA (x : Cx) : D := .agg [.arr 1 (ints x.l.n), .arr 3 (eds x.l.e), .arr 1 (ints x.g.n), .arr 3 (eds x.g.e), .arr 1 (ints x.k.n), .arr 1 (ints x.k.e), .arr 1 (ints x.m.n), .arr 1 (ints x.m.e)]
def cntI (im : List Int) (i : Nat) : Nat → Nat
  | 0 => 0
  | k + 1 => if gt im k = (i : Int) then cntI im i k + 1 else cntI im i k
def gonI (im kn : List Int) (i : Nat) : Nat → Bool
  | 0 => false
  | k + 1 => gonI im kn i k || (decide (gt im k = (i : Int)) && !decide ((k : Int) ∈ kn))
section
variable (P : Program) (F : String → Nat)
def K_r07_Made : Prop := ∀ (g : G) (s : Int), validG g = 0 → FC P (F "r07.Made") [gD g, .int .u64 s] (mA (partP g s)) []
def K_l12_made : Prop := ∀ (d : Dr) (c : List Int) (s : Int), d.ok → d.n.length ≤ maxL → d.e.length ≤ maxL → c.length ≤ 2000000 → (∀ v ∈ c, Byte v) → FC P (F "l12.made") [drD d, .lst 1 (u8s c), .int .u64 s] (cxA (madeCx d c s)) []
def K_l12_covers : Prop := ∀ (n : Nat) (part im kn : List Int), n ≤ 1000 → part.length ≤ maxL → im.length ≤ 1000 → kn.length ≤ maxL →
  (∀ i : Nat, i < n → decide ((i : Int) ∈ part) = (!gonI im kn i im.length) ∧ (gonI im kn i im.length = true → cntI im i im.length = 1)) → FC P (F "l12.covers") [.int .i64 n, .lst 1 (ints part), .lst 1 (ints im), .lst 1 (ints kn)] (.bool true) []
def K_l12_ComplementCovers : Prop := ∀ (d : Dr) (c : List Int) (s : Int), d.ok → d.n.length ≤ maxL → d.e.length ≤ maxL → c.length ≤ 2000000 → (∀ v ∈ c, Byte v) → FC P (F "l12.ComplementCovers") [drD d, .lst 1 (u8s c), .int .u64 s] (.bool true) []
end
section
variable {P : Program} {F : String → Nat} {α : Type}
theorem bitL_len (s : Int) (n m : Nat) : (bitL s n m).length = m := by simp [bitL]
theorem bitL_gt {s : Int} {n m k : Nat} (h : k < m) : gt (bitL s n m) (k : Int) = bitB s ((n : Int) + k) := by
  rw [gt_nat (by rw [bitL_len]; exact h)]
  simp [bitL]
theorem least_close {g : G} {bn be : List Bool} (h1 : bn.length = g.n.length) (h2 : be.length = g.e.length) : leastP g bn be = closeP g (markL bn) (markL be) := by
  have hm : ∀ (b : List Bool) (k : Nat), k < b.length → gt b k = decide ((k : Int) ∈ markL b) := fun b k hk => by
    rw [Bool.eq_iff_iff, decide_eq_true_eq, markL_mem]
    exact ⟨fun h => ⟨hk, h⟩, fun h => h.2⟩
  refine close_least h1 h2 (fun k hk => hm bn k (by omega)) (fun k hk => hm be k (by omega)) fun x hx => ?_
  obtain ⟨k, hk, _, rfl⟩ := sel_mem.1 hx
  omega
theorem partP_ok {g : G} {s : Int} (hv : validG g = 0) : PK g (partP g s) := by
  unfold partP
  rw [least_close (bitL_len _ _ _) (bitL_len _ _ _)]
  exact closeP_ok hv
theorem w_r07_Made (hl : K_r07_Least P F) (g : G) (s : Int) (hv : validG g = 0) : W P (c_r07_Made F) (Done [.c 4 true 2] [] (mA (partP g s)) []) (init [gD g, .int .u64 s]) := by
  refine W_of ?_
  have vs := valid_spec hv
  have r1 := hl g (bitL s 0 g.n.length) (bitL s g.n.length g.e.length) hv (bitL_len _ _ _) (bitL_len _ _ _)
  have hL : partP g s = leastP g (bitL s 0 g.n.length) (bitL s g.n.length g.e.length) := rfl
  rw [hL]
  clear hL
  have b0 := bitL_len s 0 g.n.length
  have b1 := bitL_len s g.n.length g.e.length
  have bg0 : ∀ k : Nat, k < g.n.length → gt (bitL s 0 g.n.length) (k : Int) = bitB s (k : Int) := fun k hk => by rw [bitL_gt hk]; simp
  have bg1 : ∀ k : Nat, k < g.e.length → gt (bitL s g.n.length g.e.length) (k : Int) = bitB s ((g.n.length : Int) + k) := fun k hk => bitL_gt hk
  generalize bitL s 0 g.n.length = x0 at *
  generalize bitL s g.n.length g.e.length = x1 at *
  have hnb : ∀ i : Int, 0 ≤ i → ¬ i.tmod 64 < 0 := fun i h => by rw [Int.tmod_eq_emod_of_nonneg h]; omega
  have hb : ∀ i : Int, decide (IntKind.u64.wrap ((BitVec.ofInt 64 (s.fdiv (2 ^ (min (i.tmod 64).toNat 64))) &&& 1#64).toNat : Int) = 1) = bitB s i := fun i => rfl
  have z0 : ¬ ((64 : Int) = 0) := by omega
  obtain ⟨gn, ge⟩ := g
  simp only [gD] at *
  simp (config := { maxSteps := 1000000 }) (disch := first | omega | (simp only [go_sem]; omega)) only [go_sem, ↓reduceIte]
  refine W_loop (fun t : Nat × List Bool => ⟨[(1, .int .u64 s), (2, .pt 0 0), (4, .pt 3 0), (5, .sl 4 0 gn.length), (6, .sl 5 0 ge.length), (7, .int .i64 t.1)],
    [(0, .box [.lst 1 (ints gn), .lst 3 (eds ge)]), (1, .arr 1 []), (2, .arr 1 []), (3, .box [.sl 1 0 0, .sl 2 0 0]), (4, .arr 1 (bls t.2)), (5, .arr 1 (bls (List.replicate ge.length false)))], 6⟩)
    (fun t => t.1 ≤ gn.length ∧ t.2.length = gn.length ∧ ∀ k : Nat, k < t.1 → gt t.2 k = bitB s k) (fun t => gn.length - t.1) (0, List.replicate gn.length false) ?_ ?_ ?_
  · simp (config := { maxSteps := 1000000 }) (disch := first | omega | (simp only [go_sem]; omega)) only [go_sem, ↓reduceIte]
    rfl
  · exact ⟨by simp, by simp, fun k hk => by simp at hk⟩
  · rintro ⟨i, z⟩ ⟨i1, i2, i3⟩
    simp only at i1 i2 i3
    by_cases c : i < gn.length
    · have g1 : decide ((i : Int) < gn.length) = true := decide_eq_true (by omega)
      have hi := hnb i (by omega)
      have hbi := hb i
      simp (config := { maxSteps := 1000000 }) (disch := first | omega | (simp only [go_sem]; omega)) only [go_sem, ↓reduceIte, c_r07_Made_b6, g1, z0, hi, hbi, i2]
      refine ⟨(i + 1, z.set i (bitB s i)), by simp; rfl, ⟨by simp only; omega, by simp [i2], fun k hk => ?_⟩, by simp only; omega⟩
      simp only at hk
      simp only
      rw [gt_setB (by omega)]
      by_cases e : i = k
      · subst e; simp
      · rw [if_neg e]; exact i3 k (by omega)
    · have g1 : decide ((i : Int) < gn.length) = false := decide_eq_false (by omega)
      obtain rfl : i = gn.length := by omega
      have hz : z = x0 := list_ext_gt (by omega) fun k hk => by rw [i3 k (by omega), bg0 k (by omega)]
      subst hz
      clear i3
      simp (config := { maxSteps := 1000000 }) (disch := first | omega | (simp only [go_sem]; omega)) only [go_sem, ↓reduceIte, c_r07_Made_b6, g1, i2]
      refine W_loop (fun t : Nat × List Bool => ⟨[(1, .int .u64 s), (2, .pt 0 0), (4, .pt 3 0), (5, .sl 4 0 gn.length), (6, .sl 5 0 ge.length), (8, .int .i64 t.1)],
        [(0, .box [.lst 1 (ints gn), .lst 3 (eds ge)]), (1, .arr 1 []), (2, .arr 1 []), (3, .box [.sl 1 0 0, .sl 2 0 0]), (4, .arr 1 (bls z)), (5, .arr 1 (bls t.2))], 6⟩)
        (fun t => t.1 ≤ ge.length ∧ t.2.length = ge.length ∧ ∀ k : Nat, k < t.1 → gt t.2 k = bitB s ((gn.length : Int) + k)) (fun t => ge.length - t.1) (0, List.replicate ge.length false) ?_ ?_ ?_
      · simp (config := { maxSteps := 1000000 }) (disch := first | omega | (simp only [go_sem]; omega)) only [go_sem, ↓reduceIte]
        rfl
      · exact ⟨by simp, by simp, fun k hk => by simp at hk⟩
      · rintro ⟨i, y⟩ ⟨j1, j2, j3⟩
        simp only at j1 j2 j3
        by_cases c : i < ge.length
        · have g1 : decide ((i : Int) < ge.length) = true := decide_eq_true (by omega)
          have hi := hnb ((gn.length : Int) + i) (by omega)
          have hbi := hb ((gn.length : Int) + i)
          simp (config := { maxSteps := 1000000 }) (disch := first | omega | (simp only [go_sem]; omega)) only [go_sem, ↓reduceIte, c_r07_Made_b11, g1, z0, hi, hbi, i2, j2]
          refine ⟨(i + 1, y.set i (bitB s ((gn.length : Int) + i))), by simp; rfl, ⟨by simp only; omega, by simp [j2], fun k hk => ?_⟩, by simp only; omega⟩
          simp only at hk
          simp only
          rw [gt_setB (by omega)]
          by_cases e : i = k
          · subst e; simp
          · rw [if_neg e]; exact j3 k (by omega)
        · have g1 : decide ((i : Int) < ge.length) = false := decide_eq_false (by omega)
          obtain rfl : i = ge.length := by omega
          have hz : y = x1 := list_ext_gt (by omega) fun k hk => by rw [j3 k (by omega), bg1 k (by omega)]
          subst hz
          clear j3
          generalize leastP ⟨gn, ge⟩ z y = w at *
          obtain ⟨wn, we⟩ := w
          simp only [mA] at *
          simp (config := { maxSteps := 1000000 }) (disch := first | omega | (simp only [go_sem]; omega)) only [go_sem, ↓reduceIte, c_r07_Made_b11, g1, i2, j2]
          refine call_by r1 ?_
          simp (config := { maxSteps := 1000000 }) (disch := first | omega | (simp only [go_sem]; omega)) only [go_sem, ↓reduceIte]
          try rfl
theorem w_l12_made (hm : K_r05_Made P F) (hg : K_r10_Grown P F) (hp : K_r07_Made P F) (d : Dr) (c : List Int) (s : Int) (hd : d.ok) (d1 : d.n.length ≤ maxL) (d2 : d.e.length ≤ maxL) (c1 : c.length ≤ 2000000) (c2 : ∀ v ∈ c, Byte v) :
    W P (c_l12_made F) (Done [.c 6 true 8] [] (cxA (madeCx d c s)) []) (init [drD d, .lst 1 (u8s c), .int .u64 s]) := by
  refine W_of ?_
  have r1 := hm d hd d1 d2
  have va := madeG_valid hd
  have r2 := hg (madeG d) c va c1 c2
  have r3 := hp (madeG d) s va
  unfold madeCx
  generalize grM (madeG d) c = bm at *
  generalize grG (madeG d) c = bg at *
  generalize partP (madeG d) s = bp at *
  clear va
  generalize madeG d = a at *
  obtain ⟨an, ae⟩ := a
  obtain ⟨bn, be⟩ := bg
  obtain ⟨bmn, bme⟩ := bm
  obtain ⟨bpn, bpe⟩ := bp
  simp only [gD, gA, mD, mA, drD, cxA] at *
  simp (config := { maxSteps := 1000000 }) (disch := first | omega | (simp only [go_sem]; omega)) only [go_sem, ↓reduceIte]
  refine call_by r1 ?_
  simp (config := { maxSteps := 1000000 }) (disch := first | omega | (simp only [go_sem]; omega)) only [go_sem, ↓reduceIte]
  refine call_by r2 ?_
  simp (config := { maxSteps := 1000000 }) (disch := first | omega | (simp only [go_sem]; omega)) only [go_sem, ↓reduceIte]
  refine call_by r3 ?_
  simp (config := { maxSteps := 1000000 }) (disch := first | omega | (simp only [go_sem]; omega)) only [go_sem, ↓reduceIte]
  try rfl
theorem cntI_le (im : List Int) (i : Nat) : ∀ k, cntI im i k ≤ k
  | 0 => by simp [cntI]
  | k + 1 => by rw [cntI]; have := cntI_le im i k; split <;> omega
theorem w_l12_covers (hc : K_slices_Contains_I P F) (n : Nat) (part im kn : List Int) (hn : n ≤ 1000) (h1 : part.length ≤ maxL) (h2 : im.length ≤ 1000) (h3 : kn.length ≤ maxL)
    (hok : ∀ i : Nat, i < n → decide ((i : Int) ∈ part) = (!gonI im kn i im.length) ∧ (gonI im kn i im.length = true → cntI im i im.length = 1)) : W P (c_l12_covers F) (Done [.t 8] [] (.bool true) []) (init [.int .i64 n, .lst 1 (ints part), .lst 1 (ints im), .lst 1 (ints kn)]) := by
  refine W_of ?_
  have hp := fun i : Nat => hc part i h1
  have hk := fun i : Nat => hc kn i h3
  have c0 : ∀ i, cntI im i 0 = 0 := fun i => rfl
  have g0 : ∀ i, gonI im kn i 0 = false := fun i => rfl
  have cS : ∀ i k, cntI im i (k + 1) = if gt im k = (i : Int) then cntI im i k + 1 else cntI im i k := fun i k => rfl
  have gS : ∀ i k, gonI im kn i (k + 1) = (gonI im kn i k || (decide (gt im k = (i : Int)) && !decide ((k : Int) ∈ kn))) := fun i k => rfl
  have cl := fun i => cntI_le im i
  generalize cntI im = cn at *
  generalize gonI im kn = gn at *
  have hK : ∀ i : Nat, K_slices_Contains_I P F := fun _ => hc
  clear hc hK
  simp (config := { maxSteps := 1000000 }) (disch := first | omega | (simp only [go_sem]; omega)) only [go_sem, ↓reduceIte]
  refine W_loop (fun i : Nat => ⟨[(1, .lst 1 (ints part)), (2, .lst 1 (ints im)), (3, .lst 1 (ints kn)), (14, .int .i64 n), (15, .int .i64 i)], [], 0⟩) (fun i => i ≤ n) (fun i => n - i) 0 ?_ ?_ ?_
  · simp (config := { maxSteps := 1000000 }) (disch := first | omega | (simp only [go_sem]; omega)) only [go_sem, ↓reduceIte]
    rfl
  · simp
  · intro i hi
    by_cases c : i < n
    · have d1 : decide ((i : Int) < n) = true := decide_eq_true (by omega)
      simp (config := { maxSteps := 1000000 }) (disch := first | omega | (simp only [go_sem]; omega)) only [go_sem, ↓reduceIte, c_l12_covers_b16, d1]
      refine W_loop (fun k : Nat => ⟨[(1, .lst 1 (ints part)), (2, .lst 1 (ints im)), (3, .lst 1 (ints kn)), (9, .int .i64 i), (10, .int .i64 (cn i k)), (11, .bool (gn i k)), (14, .int .i64 n), (15, .int .i64 i), (18, .lst 1 (ints im)), (19, .int .i64 im.length), (20, .int .i64 k)], [], 0⟩) (fun k => k ≤ im.length) (fun k => im.length - k) 0 ?_ ?_ ?_
      · simp (config := { maxSteps := 1000000 }) (disch := first | omega | (simp only [go_sem]; omega)) only [go_sem, ↓reduceIte, c0, g0]
        rfl
      · simp
      · intro k hk'
        have cS' := cS i k
        have gS' := gS i k
        have cl' := cl i k
        by_cases e : k < im.length
        · have d2 : decide ((k : Int) < im.length) = true := decide_eq_true (by omega)
          by_cases f : gt im k = (i : Int)
          · have d3 : decide (gt im k = (i : Int)) = true := decide_eq_true f
            rw [if_pos f] at cS'
            rw [d3, Bool.true_and] at gS'
            have r1 := hk k
            generalize decide ((k : Int) ∈ kn) = b at *
            generalize gn i k = y at *
            cases y
            · simp (config := { maxSteps := 1000000 }) (disch := first | omega | (simp only [go_sem]; omega)) only [go_sem, ↓reduceIte, c_l12_covers_b12, d2, d3]
              refine call_by r1 ?_
              simp (config := { maxSteps := 1000000 }) (disch := first | omega | (simp only [go_sem]; omega)) only [go_sem, ↓reduceIte]
              exact ⟨k + 1, by simp [cS', gS'], by omega, by omega⟩
            · simp (config := { maxSteps := 1000000 }) (disch := first | omega | (simp only [go_sem]; omega)) only [go_sem, ↓reduceIte, c_l12_covers_b12, d2, d3]
              exact ⟨k + 1, by simp [cS', gS'], by omega, by omega⟩
          · have d3 : decide (gt im k = (i : Int)) = false := decide_eq_false f
            rw [if_neg f] at cS'
            rw [d3, Bool.false_and, Bool.or_false] at gS'
            simp (config := { maxSteps := 1000000 }) (disch := first | omega | (simp only [go_sem]; omega)) only [go_sem, ↓reduceIte, c_l12_covers_b12, d2, d3]
            exact ⟨k + 1, by simp [cS', gS'], by omega, by omega⟩
        · have d2 : decide ((k : Int) < im.length) = false := decide_eq_false (by omega)
          obtain rfl : k = im.length := by omega
          obtain ⟨o1, o2⟩ := hok i c
          have r1 := hp i
          generalize decide ((i : Int) ∈ part) = b at *
          generalize gn i im.length = y at *
          subst o1
          cases y
          · simp (config := { maxSteps := 1000000 }) (disch := first | omega | (simp only [go_sem]; omega)) only [go_sem, ↓reduceIte, c_l12_covers_b12, d2]
            refine call_by r1 ?_
            simp (config := { maxSteps := 1000000 }) (disch := first | omega | (simp only [go_sem]; omega)) only [go_sem, ↓reduceIte]
            exact ⟨i + 1, by simp, by omega, by omega⟩
          · have d4 : decide (((cn i im.length : Nat) : Int) = 1) = true := by rw [o2 rfl]; rfl
            simp (config := { maxSteps := 1000000 }) (disch := first | omega | (simp only [go_sem]; omega)) only [go_sem, ↓reduceIte, c_l12_covers_b12, d2, d4]
            refine call_by r1 ?_
            simp (config := { maxSteps := 1000000 }) (disch := first | omega | (simp only [go_sem]; omega)) only [go_sem, ↓reduceIte, d4]
            exact ⟨i + 1, by simp, by omega, by omega⟩
    · have d1 : decide ((i : Int) < n) = false := decide_eq_false (by omega)
      simp (config := { maxSteps := 1000000 }) (disch := first | omega | (simp only [go_sem]; omega)) only [go_sem, ↓reduceIte, c_l12_covers_b16, d1]
theorem gonI_x {im kn : List Int} {i : Nat} : ∀ {n : Nat}, gonI im kn i n = true ↔ ∃ k : Nat, k < n ∧ ¬ (k : Int) ∈ kn ∧ gt im k = (i : Int)
  | 0 => by simp [gonI]
  | n + 1 => by
    rw [gonI, Bool.or_eq_true, gonI_x]
    simp only [Bool.and_eq_true, decide_eq_true_eq, Bool.not_eq_true', decide_eq_false_iff_not]
    constructor
    · rintro (⟨k, h1, h2, h3⟩ | ⟨h1, h2⟩)
      · exact ⟨k, by omega, h2, h3⟩
      · exact ⟨n, by omega, h2, h1⟩
    · rintro ⟨k, h1, h2, h3⟩
      by_cases e : k = n
      · subst e; exact .inr ⟨h3, h2⟩
      · exact .inl ⟨k, by omega, h2, h3⟩
theorem cntI_zero {im : List Int} {i : Nat} : ∀ {n : Nat}, (∀ k : Nat, k < n → gt im k ≠ (i : Int)) → cntI im i n = 0
  | 0, _ => rfl
  | n + 1, h => by rw [cntI, if_neg (h n (by omega))]; exact cntI_zero fun k hk => h k (by omega)
theorem cntI_one {im : List Int} {i k0 : Nat} : ∀ {n : Nat}, k0 < n → gt im k0 = (i : Int) → (∀ k : Nat, k < n → gt im k = (i : Int) → k = k0) → cntI im i n = 1
  | 0, h, _, _ => by omega
  | n + 1, h, h1, h2 => by
    rw [cntI]
    by_cases e : k0 = n
    · subst e
      rw [if_pos h1, cntI_zero fun k hk he => by have := h2 k (by omega) he; omega]
    · rw [if_neg fun he => e (h2 n (by omega) he).symm]
      exact cntI_one (by omega) h1 fun k hk => h2 k (by omega)
theorem idR_nil {im kn : List Int} {i : Nat} : ∀ {n : Nat}, idR im kn i n = [] → ∀ k : Nat, i < k → k < n → idP im kn i k = false
  | 0, _, k, _, h => by omega
  | n + 1, h, k, h1, h2 => by
    rw [idR] at h
    split at h
    · simp at h
    · rename_i hc
      by_cases e : k = n
      · subst e
        rw [← Bool.not_eq_true]
        exact fun h => hc ⟨h1, h⟩
      · exact idR_nil h k h1 (by omega)
theorem idA_nil {im kn : List Int} : ∀ {n : Nat}, idA im kn n = [] → ∀ i : Nat, i < n → idR im kn i im.length = []
  | 0, _, i, h => by omega
  | n + 1, h, i, hi => by
    rw [idA, List.append_eq_nil_iff] at h
    by_cases e : i = n
    · subst e; exact h.2
    · exact idA_nil h.1 i (by omega)
theorem idL_nil {im kn : List Int} (h : idL im kn = []) {i k : Nat} (hi : i < k) (hk : k < im.length) (he : gt im i = gt im k) : (i : Int) ∈ kn ∧ (k : Int) ∈ kn := by
  have := idR_nil (idA_nil h i (by omega)) k hi hk
  unfold idP at this
  rw [he] at this
  simpa using this
/-- What is not in the rest is the image of one deleted element. -/
theorem cov_ok {n : Nat} {im kn : List Int} (h : idL im kn = []) (i : Nat) (hi : i < n) :
    decide ((i : Int) ∈ restL n (goneL im kn)) = (!gonI im kn i im.length) ∧ (gonI im kn i im.length = true → cntI im i im.length = 1) := by
  constructor
  · rw [Bool.eq_iff_iff, decide_eq_true_eq, restL, sel_memN, Bool.not_eq_true', Bool.not_eq_true', decide_eq_false_iff_not, ← Bool.not_eq_true, gonI_x, goneL_mem]
    simp [hi]
  · intro hg
    obtain ⟨k, h1, h2, h3⟩ := gonI_x.1 hg
    refine cntI_one h1 h3 fun j hj he => ?_
    rcases Nat.lt_trichotomy j k with c | c | c
    · exact absurd (idL_nil h c h1 (by rw [he, h3])).2 h2
    · exact c
    · exact absurd (idL_nil h c hj (by rw [he, h3])).1 h2
theorem cxm_ok {d : Dr} {c : List Int} {s : Int} (hd : d.ok) (hc : ∀ v ∈ c, Byte v) : cxE (madeCx d c s) = 0 := by
  have va := madeG_valid hd
  have l1 := madeN_len d
  have l2 := madeE_len d
  have l3 : (madeG d).n.length ≤ 8 := l1
  obtain ⟨h1, h2, h3⟩ := gr_ok va hc (by omega) (by omega)
  have e1 : validM (madeCx d c s).l (madeCx d c s).g (madeCx d c s).m = 0 := mok.2 h1
  have e2 : validP (madeCx d c s).l (madeCx d c s).k = 0 := validP_ok.2 (partP_ok va)
  unfold cxE
  rw [e1, e2]
  simp
theorem w_l12_ComplementCovers (hw : K_l12_awake P F) (hm : K_l12_made P F) (ho : K_complement_Of P F) (hc : K_l12_covers P F) (d : Dr) (c : List Int) (s : Int) (hd : d.ok) (d1 : d.n.length ≤ maxL) (d2 : d.e.length ≤ maxL) (c1 : c.length ≤ 2000000) (c2 : ∀ v ∈ c, Byte v) :
    W P (c_l12_ComplementCovers F) (Done [.t 6] [] (.bool true) []) (init [drD d, .lst 1 (u8s c), .int .u64 s]) := by
  refine W_of ?_
  have r1 := hm d c s hd d1 d2 c1 c2
  have he := cxm_ok (s := s) hd c2
  generalize madeCx d c s = x at *
  obtain ⟨hm1, hk1⟩ := cx_len he
  have l1 := hk1.len
  have l2 := valid_spec hm1.va
  have l3 := valid_spec hm1.vb
  have l4 := hm1.ln
  have l5 := hm1.le
  have r2 := ho x ⟨by unfold maxL; omega, by unfold maxL; omega⟩
  have hR : ((cxR x).2 = 15 ∨ (cxR x).2 = 14) ∨ ((cxR x).2 = 0 ∧ (cxR x).1 = ⟨restL x.g.n.length (goneL x.m.n x.k.n), restL x.g.e.length (goneL x.m.e x.k.e)⟩ ∧ idL x.m.n x.k.n = [] ∧ idL x.m.e x.k.e = []) := by
    unfold cxR
    rw [if_neg (by simp [he])]
    split
    · exact .inl (.inl rfl)
    · split
      · exact .inl (.inr rfl)
      · rename_i h1 _
        exact .inr ⟨rfl, rfl, List.eq_nil_of_length_eq_zero (by omega), List.eq_nil_of_length_eq_zero (by omega)⟩
  have k1 : idL x.m.n x.k.n = [] → ∀ i : Nat, i < x.g.n.length → _ := fun h i hi => cov_ok h i hi
  have k2 : idL x.m.e x.k.e = [] → ∀ i : Nat, i < x.g.e.length → _ := fun h i hi => cov_ok h i hi
  have q1 : (restL x.g.n.length (goneL x.m.n x.k.n)).length ≤ x.g.n.length := sel_len _ _
  have q2 : (restL x.g.e.length (goneL x.m.e x.k.e)).length ≤ x.g.e.length := sel_len _ _
  have r3 : (cxR x).2 = 0 → _ := fun h => hc x.g.n.length (restL x.g.n.length (goneL x.m.n x.k.n)) x.m.n x.k.n (by omega) (by unfold maxL; omega) (by omega) (by unfold maxL; omega) (k1 (by rcases hR with (h' | h') | ⟨_, _, h', _⟩ <;> first | exact h' | omega))
  have r4 : (cxR x).2 = 0 → _ := fun h => hc x.g.e.length (restL x.g.e.length (goneL x.m.e x.k.e)) x.m.e x.k.e (by omega) (by unfold maxL; omega) (by omega) (by unfold maxL; omega) (k2 (by rcases hR with (h' | h') | ⟨_, _, _, h'⟩ <;> first | exact h' | omega))
  clear k1 k2 he hm1 hk1
  generalize restL x.g.n.length (goneL x.m.n x.k.n) = rn at *
  generalize restL x.g.e.length (goneL x.m.e x.k.e) = re at *
  generalize cxR x = R at *
  obtain ⟨⟨xn, xe⟩, v⟩ := R
  obtain ⟨⟨ln, le⟩, ⟨gn, ge⟩, ⟨kn, ke⟩, ⟨mn, me⟩⟩ := x
  simp only at hR r3 r4
  simp only [gD, mD, mA, drD, cxA] at *
  rcases hR with (rfl | rfl) | ⟨rfl, hx, -, -⟩
  · simp (config := { maxSteps := 1000000 }) (disch := first | omega | (simp only [go_sem]; omega)) only [go_sem, ↓reduceIte]
    refine call_by hw ?_
    simp (config := { maxSteps := 1000000 }) (disch := first | omega | (simp only [go_sem]; omega)) only [go_sem, ↓reduceIte]
    refine call_by r1 ?_
    simp (config := { maxSteps := 1000000 }) (disch := first | omega | (simp only [go_sem]; omega)) only [go_sem, ↓reduceIte]
    refine call_by r2 ?_
    simp (config := { maxSteps := 1000000 }) (disch := first | omega | (simp only [go_sem]; omega)) only [go_sem, ↓reduceIte, show decide ((15 : Int) = 0) = false from rfl, show decide ((15 : Int) = 15) = true from rfl]
  · simp (config := { maxSteps := 1000000 }) (disch := first | omega | (simp only [go_sem]; omega)) only [go_sem, ↓reduceIte]
    refine call_by hw ?_
    simp (config := { maxSteps := 1000000 }) (disch := first | omega | (simp only [go_sem]; omega)) only [go_sem, ↓reduceIte]
    refine call_by r1 ?_
    simp (config := { maxSteps := 1000000 }) (disch := first | omega | (simp only [go_sem]; omega)) only [go_sem, ↓reduceIte]
    refine call_by r2 ?_
    simp (config := { maxSteps := 1000000 }) (disch := first | omega | (simp only [go_sem]; omega)) only [go_sem, ↓reduceIte, show decide ((14 : Int) = 0) = false from rfl, show decide ((14 : Int) = 15) = false from rfl, show decide ((14 : Int) = 14) = true from rfl]
  · simp only [Mo.mk.injEq] at hx
    obtain ⟨rfl, rfl⟩ := hx
    have r3 := r3 rfl
    have r4 := r4 rfl
    simp (config := { maxSteps := 1000000 }) (disch := first | omega | (simp only [go_sem]; omega)) only [go_sem, ↓reduceIte]
    refine call_by hw ?_
    simp (config := { maxSteps := 1000000 }) (disch := first | omega | (simp only [go_sem]; omega)) only [go_sem, ↓reduceIte]
    refine call_by r1 ?_
    simp (config := { maxSteps := 1000000 }) (disch := first | omega | (simp only [go_sem]; omega)) only [go_sem, ↓reduceIte]
    refine call_by r2 ?_
    simp (config := { maxSteps := 1000000 }) (disch := first | omega | (simp only [go_sem]; omega)) only [go_sem, ↓reduceIte]
    refine call_by r3 ?_
    simp (config := { maxSteps := 1000000 }) (disch := first | omega | (simp only [go_sem]; omega)) only [go_sem, ↓reduceIte]
    refine call_by r4 ?_
    simp (config := { maxSteps := 1000000 }) (disch := first | omega | (simp only [go_sem]; omega)) only [go_sem, ↓reduceIte]
def shU64 : Sh := .int .u64
theorem rd_u64 {x : D} (h : HasEl shU64 x) : ∃ n : Int, x = .int .u64 n := by
  simp only [shU64, HasEl] at h
  obtain ⟨n, rfl, _⟩ := h
  exact ⟨n, rfl⟩
theorem x_l12_ComplementCovers (h : K_l12_ComplementCovers P F) (args : List D) (ha : HasEls [shDr, shU8s, shU64] args) (hz : dszS args ≤ 1048576) : FC P (F "l12.ComplementCovers") args (.bool true) [] := by
  simp only [HasEls] at ha
  obtain ⟨_, _, rfl, h1, _, _, rfl, h2, _, _, rfl, h3, rfl⟩ := ha
  obtain ⟨x, rfl, a1, a2, a3⟩ := rd_draft h1
  obtain ⟨c, rfl, c1, c2⟩ := rd_u8s h2
  obtain ⟨s, rfl⟩ := rd_u64 h3
  simp only [dszS, dszA, dsz, u8s_length] at hz
  exact h x c s a1 a2 a3 (by omega) c1
end
end Go.Am
