/- Chapter 12: the example; the laws Violations, Of, Check, Repair. -/
import Derived.Test.YtoeomfoohdheoaaSpF
namespace Go.Am
open Go
set_option linter.unusedVariables false
set_option linter.unusedSimpArgs false
attribute [local irreducible] W
/- l12.awake -/
def c_l12_awake_r0 (F : String → Nat) : List LI := [⟨some 0, .mov (.k (.bool false)), none⟩]
def c_l12_awake_r1 (F : String → Nat) : List LI := [⟨some 10, .buildSl 1 8 (.int .i64 (0)) 2 [(0, .k (.int .i64 (0))), (1, .k (.int .i64 (0)))], none⟩,
  ⟨some 11, .build [.int .i64 (0), .int .i64 (0), .int .i64 (0)] [(1, 1, .k (.int .i64 (0))), (2, 1, .k (.int .i64 (1)))], none⟩,
  ⟨some 12, .buildSl 3 24 (.agg [.int .i64 (0), .int .i64 (0), .int .i64 (0)]) 1 [(0, .t 11)], none⟩,
  ⟨some 13, .build [.nl 1, .nl 3] [(0, 1, .t 10), (1, 1, .t 12)], none⟩,
  ⟨some 1, .alloc [.nl 1, .nl 3], none⟩,
  ⟨none, .store 2 (.t 1) (.t 13), none⟩]
def c_l12_awake_r2 (F : String → Nat) : List LI := [⟨some 14, .buildSl 1 8 (.int .i64 (0)) 3 [(0, .k (.int .i64 (0))), (1, .k (.int .i64 (0))), (2, .k (.int .i64 (0)))], none⟩,
  ⟨some 15, .build [.int .i64 (0), .int .i64 (0), .int .i64 (0)] [(1, 1, .k (.int .i64 (0))), (2, 1, .k (.int .i64 (1)))], none⟩,
  ⟨some 16, .build [.int .i64 (0), .int .i64 (0), .int .i64 (0)] [(1, 1, .k (.int .i64 (2))), (2, 1, .k (.int .i64 (1)))], none⟩,
  ⟨some 17, .buildSl 3 24 (.agg [.int .i64 (0), .int .i64 (0), .int .i64 (0)]) 2 [(0, .t 15), (1, .t 16)], none⟩,
  ⟨some 18, .build [.nl 1, .nl 3] [(0, 1, .t 14), (1, 1, .t 17)], none⟩,
  ⟨some 2, .alloc [.nl 1, .nl 3], none⟩,
  ⟨none, .store 2 (.t 2) (.t 18), none⟩]
def c_l12_awake_r3 (F : String → Nat) : List LI := [⟨some 19, .buildSl 1 8 (.int .i64 (0)) 2 [(0, .k (.int .i64 (0))), (1, .k (.int .i64 (1)))], none⟩,
  ⟨some 20, .buildSl 1 8 (.int .i64 (0)) 1 [(0, .k (.int .i64 (0)))], none⟩,
  ⟨some 21, .build [.nl 1, .nl 1] [(0, 1, .t 19), (1, 1, .t 20)], none⟩,
  ⟨some 3, .alloc [.nl 1, .nl 1], none⟩,
  ⟨none, .store 2 (.t 3) (.t 21), none⟩]
def c_l12_awake_r4 (F : String → Nat) : List LI := [⟨some 23, .load true 2 (.t 1), none⟩,
  ⟨some 24, .load true 2 (.t 2), none⟩,
  ⟨some 25, .buildSl 1 8 (.int .i64 (0)) 2 [(0, .k (.int .i64 (0))), (1, .k (.int .i64 (1)))], none⟩,
  ⟨some 26, .build [.nl 1, .nl 1] [(0, 1, .t 25)], none⟩,
  ⟨some 27, .load true 2 (.t 3), none⟩,
  ⟨some 28, .call (F "complement.Of") [.t 23, .t 24, .t 26, .t 27] [], none⟩,
  ⟨some 22, .mov (.t 28), none⟩,
  ⟨some 29, .ext (.t 22) 0, none⟩,
  ⟨some 30, .ext (.t 22) 1, none⟩,
  ⟨some 4, .alloc [.nl 1, .nl 1], none⟩,
  ⟨none, .store 2 (.t 4) (.t 29), none⟩,
  ⟨some 5, .mov (.t 30), none⟩]
def c_l12_awake_r5 (F : String → Nat) : List LI := [⟨some 32, .load true 2 (.t 1), none⟩,
  ⟨some 33, .load true 2 (.t 2), none⟩,
  ⟨some 34, .buildSl 1 8 (.int .i64 (0)) 1 [(0, .k (.int .i64 (0)))], none⟩,
  ⟨some 35, .build [.nl 1, .nl 1] [(0, 1, .t 34)], none⟩,
  ⟨some 36, .load true 2 (.t 3), none⟩,
  ⟨some 37, .call (F "complement.Dangling") [.t 32, .t 33, .t 35, .t 36] [], none⟩,
  ⟨some 31, .mov (.t 37), none⟩,
  ⟨some 38, .ext (.t 31) 0, none⟩,
  ⟨some 39, .ext (.t 31) 1, none⟩,
  ⟨some 6, .mov (.t 38), none⟩,
  ⟨some 7, .mov (.t 39), none⟩]
def c_l12_awake_r6 (F : String → Nat) : List LI := [⟨some 41, .load true 2 (.t 1), none⟩,
  ⟨some 42, .load true 2 (.t 2), none⟩,
  ⟨some 43, .buildSl 1 8 (.int .i64 (0)) 1 [(0, .k (.int .i64 (0)))], none⟩,
  ⟨some 44, .build [.nl 1, .nl 1] [(0, 1, .t 43)], none⟩,
  ⟨some 45, .load true 2 (.t 3), none⟩,
  ⟨some 46, .call (F "complement.Repair") [.t 41, .t 42, .t 44, .t 45] [], none⟩,
  ⟨some 40, .mov (.t 46), none⟩,
  ⟨some 47, .ext (.t 40) 0, none⟩,
  ⟨some 48, .ext (.t 40) 1, none⟩,
  ⟨some 8, .alloc [.nl 1, .nl 1], none⟩,
  ⟨none, .store 2 (.t 8) (.t 47), none⟩,
  ⟨some 9, .mov (.t 48), none⟩]
def c_l12_awake_r7 (F : String → Nat) : List LI := [⟨some 49, .mov (.t 5), none⟩,
  ⟨some 50, .bin .eql (.t 49) (.k (.int .i64 (0))), none⟩,
  ⟨some 51, .mov (.t 50), none⟩,
  ⟨some 52, .load true 2 (.t 4), some (51, true)⟩,
  ⟨some 53, .buildSl 1 8 (.int .i64 (0)) 3 [(0, .k (.int .i64 (0))), (1, .k (.int .i64 (1))), (2, .k (.int .i64 (2)))], some (51, true)⟩,
  ⟨some 54, .buildSl 1 8 (.int .i64 (0)) 1 [(0, .k (.int .i64 (1)))], some (51, true)⟩,
  ⟨some 55, .build [.nl 1, .nl 1] [(0, 1, .t 53), (1, 1, .t 54)], some (51, true)⟩,
  ⟨some 56, .call (F "r07.Same") [.t 52, .t 55] [], some (51, true)⟩,
  ⟨some 57, .pick (.t 51) (.t 56) (.k (.bool false)), none⟩,
  ⟨some 58, .mov (.t 57), none⟩,
  ⟨some 59, .mov (.t 7), some (58, true)⟩,
  ⟨some 60, .bin .eql (.t 59) (.k (.int .i64 (0))), some (58, true)⟩,
  ⟨some 61, .pick (.t 58) (.t 60) (.k (.bool false)), none⟩,
  ⟨some 62, .mov (.t 61), none⟩,
  ⟨some 63, .mov (.t 6), some (62, true)⟩,
  ⟨some 64, .buildSl 1 8 (.int .i64 (0)) 1 [(0, .k (.int .i64 (1)))], some (62, true)⟩,
  ⟨some 65, .call (F "slices.Equal.I") [.t 63, .t 64] [], some (62, true)⟩,
  ⟨some 66, .pick (.t 62) (.t 65) (.k (.bool false)), none⟩,
  ⟨some 67, .mov (.t 66), none⟩,
  ⟨some 68, .mov (.t 9), some (67, true)⟩,
  ⟨some 69, .bin .eql (.t 68) (.k (.int .i64 (0))), some (67, true)⟩,
  ⟨some 70, .pick (.t 67) (.t 69) (.k (.bool false)), none⟩,
  ⟨some 71, .mov (.t 70), none⟩,
  ⟨some 72, .load true 2 (.t 8), some (71, true)⟩,
  ⟨some 73, .buildSl 1 8 (.int .i64 (0)) 2 [(0, .k (.int .i64 (0))), (1, .k (.int .i64 (1)))], some (71, true)⟩,
  ⟨some 74, .build [.nl 1, .nl 1] [(0, 1, .t 73)], some (71, true)⟩,
  ⟨some 75, .call (F "r07.Same") [.t 72, .t 74] [], some (71, true)⟩,
  ⟨some 76, .pick (.t 71) (.t 75) (.k (.bool false)), none⟩,
  ⟨some 0, .mov (.t 76), none⟩]
def c_l12_awake (F : String → Nat) : LC := (.seq (.reg (c_l12_awake_r0 F) []) (.seq (.reg (c_l12_awake_r1 F) [1]) (.seq (.reg (c_l12_awake_r2 F) [1, 2]) (.seq (.reg (c_l12_awake_r3 F) [1, 2, 3]) (.seq (.reg (c_l12_awake_r4 F) [1, 2, 3, 4, 5]) (.seq (.reg (c_l12_awake_r5 F) [1, 2, 3, 4, 5, 6, 7]) (.seq (.reg (c_l12_awake_r6 F) [4, 5, 6, 7, 8, 9]) (.seq (.reg (c_l12_awake_r7 F) [0]) .ret))))))))
def h_l12_awake : Hints := ⟨[], fun _ => [], tab [(0, []), (1, [1]), (2, [1, 2]), (3, [1, 2, 3]), (4, [1, 2, 3, 4, 5]), (5, [1, 2, 3, 4, 5, 6, 7]), (6, [4, 5, 6, 7, 8, 9]), (7, [0])], tab []⟩

/- l12.few -/
def c_l12_few_r0 (F : String → Nat) : List LI := [⟨some 1, .bx (.t 0), none⟩,
  ⟨some 2, .mov (.k (.bool false)), none⟩]
def c_l12_few_r1 (F : String → Nat) : List LI := [⟨some 3, .fad 0 (.t 1), none⟩,
  ⟨some 4, .load true 2 (.t 3), none⟩,
  ⟨some 5, .call (F "r05.Few") [.t 4] [], none⟩,
  ⟨some 6, .mov (.t 5), none⟩,
  ⟨some 7, .fad 2 (.t 1), some (6, true)⟩,
  ⟨some 8, .load true 2 (.t 7), some (6, true)⟩,
  ⟨some 9, .call (F "r05.Few") [.t 8] [], some (6, true)⟩,
  ⟨some 10, .pick (.t 6) (.t 9) (.k (.bool false)), none⟩,
  ⟨some 11, .mov (.t 10), none⟩,
  ⟨some 12, .fad 4 (.t 1), some (11, true)⟩,
  ⟨some 13, .load true 2 (.t 12), some (11, true)⟩,
  ⟨some 14, .call (F "r07.Few") [.t 13, .k (.int .i64 (140))] [], some (11, true)⟩,
  ⟨some 15, .pick (.t 11) (.t 14) (.k (.bool false)), none⟩,
  ⟨some 16, .mov (.t 15), none⟩,
  ⟨some 17, .fad 6 (.t 1), some (16, true)⟩,
  ⟨some 18, .load true 2 (.t 17), some (16, true)⟩,
  ⟨some 19, .call (F "r06.Few") [.t 18, .k (.int .i64 (140))] [], some (16, true)⟩,
  ⟨some 20, .pick (.t 16) (.t 19) (.k (.bool false)), none⟩,
  ⟨some 2, .mov (.t 20), none⟩]
def c_l12_few (F : String → Nat) : LC := (.seq (.reg (c_l12_few_r0 F) [1]) (.seq (.reg (c_l12_few_r1 F) [2]) .ret))
def h_l12_few : Hints := ⟨[], fun _ => [], tab [(0, [1]), (1, [2])], tab []⟩

/- l12.copied -/
def c_l12_copied_r0 (F : String → Nat) : List LI := [⟨some 1, .bx (.t 0), none⟩,
  ⟨some 2, .alloc [.nl 1, .nl 1], none⟩]
def c_l12_copied_r1 (F : String → Nat) : List LI := [⟨some 3, .fad 0 (.t 1), none⟩,
  ⟨some 4, .load false 1 (.t 3), none⟩,
  ⟨some 5, .call (F "slices.Clone.I") [.t 4] [], none⟩,
  ⟨some 6, .fad 1 (.t 1), none⟩,
  ⟨some 7, .load false 1 (.t 6), none⟩,
  ⟨some 8, .call (F "slices.Clone.I") [.t 7] [], none⟩,
  ⟨some 9, .build [.nl 1, .nl 1] [(0, 1, .t 5), (1, 1, .t 8)], none⟩,
  ⟨none, .store 2 (.t 2) (.t 9), none⟩]
def c_l12_copied (F : String → Nat) : LC := (.seq (.reg (c_l12_copied_r0 F) [1, 2]) (.seq (.dreg [(2, none, [], true), (4, (some 8), [2], false)] (c_l12_copied_r1 F) [2]) .ret))
def h_l12_copied : Hints := ⟨[], fun _ => [], tab [(0, [1, 2]), (1, [2])], tab []⟩

/- slices.Equal.apiPair -/
def c_slices_Equal_apiPair_r0 (F : String → Nat) : List LI := [⟨some 4, .mov (.k (.bool false)), none⟩]
def c_slices_Equal_apiPair_r1 (F : String → Nat) : List LI := [⟨some 6, .mov (.t 0), none⟩,
  ⟨some 7, .len (.t 6), none⟩,
  ⟨some 8, .mov (.t 1), none⟩,
  ⟨some 9, .len (.t 8), none⟩,
  ⟨some 10, .bin .neq (.t 7) (.t 9), none⟩]
def c_slices_Equal_apiPair_r2 (F : String → Nat) : List LI := [⟨some 4, .mov (.k (.bool false)), none⟩]
def c_slices_Equal_apiPair_r3 (F : String → Nat) : List LI := [⟨some 11, .mov (.t 0), none⟩,
  ⟨some 12, .len (.t 11), none⟩,
  ⟨some 13, .mov (.k (.int .i64 (0))), none⟩]
def c_slices_Equal_apiPair_r4 (F : String → Nat) : List LI := [⟨some 14, .bin .lss (.t 13) (.t 12), none⟩]
def c_slices_Equal_apiPair_r5 (F : String → Nat) : List LI := [⟨some 15, .mov (.t 13), none⟩,
  ⟨some 5, .mov (.t 15), none⟩]
def c_slices_Equal_apiPair_r6 (F : String → Nat) : List LI := [⟨some 16, .mov (.t 0), none⟩,
  ⟨some 17, .mov (.t 5), none⟩,
  ⟨some 18, .iad 2 (.t 16) (.t 17), none⟩,
  ⟨some 19, .load true 2 (.t 18), none⟩,
  ⟨some 20, .mov (.t 1), none⟩,
  ⟨some 21, .mov (.t 5), none⟩,
  ⟨some 22, .iad 2 (.t 20) (.t 21), none⟩,
  ⟨some 23, .load true 2 (.t 22), none⟩,
  ⟨some 24, .eqA 2 true (.t 19) (.t 23), none⟩]
def c_slices_Equal_apiPair_r7 (F : String → Nat) : List LI := [⟨some 4, .mov (.k (.bool false)), none⟩]
def c_slices_Equal_apiPair_r8 (F : String → Nat) : List LI := [⟨some 25, .bin .add (.t 13) (.k (.int .i64 (1))), none⟩,
  ⟨some 13, .mov (.t 25), none⟩]
def c_slices_Equal_apiPair_b9 (F : String → Nat) : LC := (.seq (.reg (c_slices_Equal_apiPair_r4 F) [0, 1, 12, 13, 14]) (.seq (.cond (.t 14) .skip (.exit 0)) (.seq (.block 1 (.seq (.reg (c_slices_Equal_apiPair_r5 F) [0, 1, 5, 12, 13]) (.seq (.dreg [] (c_slices_Equal_apiPair_r6 F) [0, 1, 12, 13, 24]) (.cond (.t 24) (.seq (.reg (c_slices_Equal_apiPair_r7 F) [4]) .ret) .skip)))) (.reg (c_slices_Equal_apiPair_r8 F) [0, 1, 12, 13]))))
def c_slices_Equal_apiPair_r10 (F : String → Nat) : List LI := [⟨some 4, .mov (.k (.bool true)), none⟩]
def c_slices_Equal_apiPair (F : String → Nat) : LC := (.seq (.reg (c_slices_Equal_apiPair_r0 F) [0, 1]) (.seq (.seq (.reg (c_slices_Equal_apiPair_r1 F) [0, 1, 10]) (.cond (.t 10) (.seq (.reg (c_slices_Equal_apiPair_r2 F) [4]) .ret) .skip)) (.seq (.seq (.reg (c_slices_Equal_apiPair_r3 F) [0, 1, 12, 13]) (.block 0 (.loop [0, 1, 12, 13] (c_slices_Equal_apiPair_b9 F)))) (.seq (.reg (c_slices_Equal_apiPair_r10 F) [4]) .ret))))
def h_slices_Equal_apiPair : Hints := ⟨[], fun _ => [], tab [(0, [0, 1]), (1, [0, 1, 10]), (2, [4]), (3, [0, 1, 12, 13]), (4, [0, 1, 12, 13, 14]), (5, [0, 1, 5, 12, 13]), (6, [0, 1, 12, 13, 24]), (7, [4]), (8, [0, 1, 12, 13]), (9, [4])], tab [(4, [0, 1, 12, 13])]⟩

/- l12.ComplementViolations -/
def c_l12_ComplementViolations_r0 (F : String → Nat) : List LI := [⟨some 1, .bx (.t 0), none⟩,
  ⟨some 2, .mov (.k (.bool false)), none⟩]
def c_l12_ComplementViolations_r1 (F : String → Nat) : List LI := [⟨some 13, .call (F "l12.awake") [] [], none⟩,
  ⟨some 14, .not (.t 13), none⟩,
  ⟨some 15, .mov (.t 14), none⟩,
  ⟨some 16, .load true 8 (.t 1), some (15, false)⟩,
  ⟨some 17, .call (F "l12.few") [.t 16] [], some (15, false)⟩,
  ⟨some 18, .not (.t 17), some (15, false)⟩,
  ⟨some 19, .pick (.t 15) (.k (.bool true)) (.t 18), none⟩]
def c_l12_ComplementViolations_r2 (F : String → Nat) : List LI := [⟨some 20, .call (F "l12.awake") [] [], none⟩,
  ⟨some 2, .mov (.t 20), none⟩]
def c_l12_ComplementViolations_r3 (F : String → Nat) : List LI := [⟨some 22, .fad 0 (.t 1), none⟩,
  ⟨some 23, .load true 2 (.t 22), none⟩,
  ⟨some 24, .fad 2 (.t 1), none⟩,
  ⟨some 25, .load true 2 (.t 24), none⟩,
  ⟨some 26, .fad 4 (.t 1), none⟩,
  ⟨some 27, .load true 2 (.t 26), none⟩,
  ⟨some 28, .call (F "l12.copied") [.t 27] [], none⟩,
  ⟨some 29, .fad 6 (.t 1), none⟩,
  ⟨some 30, .load true 2 (.t 29), none⟩,
  ⟨some 31, .call (F "complement.Dangling") [.t 23, .t 25, .t 28, .t 30] [], none⟩,
  ⟨some 21, .mov (.t 31), none⟩,
  ⟨some 32, .ext (.t 21) 0, none⟩,
  ⟨some 33, .ext (.t 21) 1, none⟩,
  ⟨some 3, .mov (.t 32), none⟩,
  ⟨some 4, .mov (.t 33), none⟩]
def c_l12_ComplementViolations_r4 (F : String → Nat) : List LI := [⟨some 35, .fad 0 (.t 1), none⟩,
  ⟨some 36, .load true 2 (.t 35), none⟩,
  ⟨some 37, .fad 2 (.t 1), none⟩,
  ⟨some 38, .load true 2 (.t 37), none⟩,
  ⟨some 39, .fad 4 (.t 1), none⟩,
  ⟨some 40, .load true 2 (.t 39), none⟩,
  ⟨some 41, .fad 6 (.t 1), none⟩,
  ⟨some 42, .load true 2 (.t 41), none⟩,
  ⟨some 43, .call (F "r12.Dangling") [.t 36, .t 38, .t 40, .t 42] [], none⟩,
  ⟨some 34, .mov (.t 43), none⟩,
  ⟨some 44, .ext (.t 34) 0, none⟩,
  ⟨some 45, .ext (.t 34) 1, none⟩,
  ⟨some 5, .mov (.t 44), none⟩,
  ⟨some 6, .mov (.t 45), none⟩]
def c_l12_ComplementViolations_r5 (F : String → Nat) : List LI := [⟨some 47, .fad 0 (.t 1), none⟩,
  ⟨some 48, .load true 2 (.t 47), none⟩,
  ⟨some 49, .fad 2 (.t 1), none⟩,
  ⟨some 50, .load true 2 (.t 49), none⟩,
  ⟨some 51, .fad 4 (.t 1), none⟩,
  ⟨some 52, .load true 2 (.t 51), none⟩,
  ⟨some 53, .call (F "l12.copied") [.t 52] [], none⟩,
  ⟨some 54, .fad 6 (.t 1), none⟩,
  ⟨some 55, .load true 2 (.t 54), none⟩,
  ⟨some 56, .call (F "complement.Identified") [.t 48, .t 50, .t 53, .t 55] [], none⟩,
  ⟨some 46, .mov (.t 56), none⟩,
  ⟨some 57, .ext (.t 46) 0, none⟩,
  ⟨some 58, .ext (.t 46) 1, none⟩,
  ⟨some 59, .ext (.t 46) 2, none⟩,
  ⟨some 7, .mov (.t 57), none⟩,
  ⟨some 8, .mov (.t 58), none⟩,
  ⟨some 9, .mov (.t 59), none⟩]
def c_l12_ComplementViolations_r6 (F : String → Nat) : List LI := [⟨some 61, .fad 0 (.t 1), none⟩,
  ⟨some 62, .load true 2 (.t 61), none⟩,
  ⟨some 63, .fad 2 (.t 1), none⟩,
  ⟨some 64, .load true 2 (.t 63), none⟩,
  ⟨some 65, .fad 4 (.t 1), none⟩,
  ⟨some 66, .load true 2 (.t 65), none⟩,
  ⟨some 67, .fad 6 (.t 1), none⟩,
  ⟨some 68, .load true 2 (.t 67), none⟩,
  ⟨some 69, .call (F "r12.Identified") [.t 62, .t 64, .t 66, .t 68] [], none⟩,
  ⟨some 60, .mov (.t 69), none⟩,
  ⟨some 70, .ext (.t 60) 0, none⟩,
  ⟨some 71, .ext (.t 60) 1, none⟩,
  ⟨some 72, .ext (.t 60) 2, none⟩,
  ⟨some 10, .mov (.t 70), none⟩,
  ⟨some 11, .mov (.t 71), none⟩,
  ⟨some 12, .mov (.t 72), none⟩]
def c_l12_ComplementViolations_r7 (F : String → Nat) : List LI := [⟨some 73, .mov (.t 4), none⟩,
  ⟨some 74, .mov (.t 6), none⟩,
  ⟨some 75, .bin .eql (.t 73) (.t 74), none⟩,
  ⟨some 76, .mov (.t 75), none⟩,
  ⟨some 77, .mov (.t 3), some (76, true)⟩,
  ⟨some 78, .mov (.t 5), some (76, true)⟩,
  ⟨some 79, .call (F "slices.Equal.I") [.t 77, .t 78] [], some (76, true)⟩,
  ⟨some 80, .pick (.t 76) (.t 79) (.k (.bool false)), none⟩,
  ⟨some 81, .mov (.t 80), none⟩,
  ⟨some 82, .mov (.t 9), some (81, true)⟩,
  ⟨some 83, .mov (.t 12), some (81, true)⟩,
  ⟨some 84, .bin .eql (.t 82) (.t 83), some (81, true)⟩,
  ⟨some 85, .pick (.t 81) (.t 84) (.k (.bool false)), none⟩,
  ⟨some 86, .mov (.t 85), none⟩,
  ⟨some 87, .mov (.t 7), some (86, true)⟩,
  ⟨some 88, .mov (.t 10), some (86, true)⟩,
  ⟨some 89, .call (F "slices.Equal.apiPair") [.t 87, .t 88] [], some (86, true)⟩,
  ⟨some 90, .pick (.t 86) (.t 89) (.k (.bool false)), none⟩,
  ⟨some 91, .mov (.t 90), none⟩,
  ⟨some 92, .mov (.t 8), some (91, true)⟩,
  ⟨some 93, .mov (.t 11), some (91, true)⟩,
  ⟨some 94, .call (F "slices.Equal.apiPair") [.t 92, .t 93] [], some (91, true)⟩,
  ⟨some 95, .pick (.t 91) (.t 94) (.k (.bool false)), none⟩,
  ⟨some 2, .mov (.t 95), none⟩]
def c_l12_ComplementViolations (F : String → Nat) : LC := (.seq (.reg (c_l12_ComplementViolations_r0 F) [1]) (.seq (.seq (.reg (c_l12_ComplementViolations_r1 F) [1, 19]) (.cond (.t 19) (.seq (.reg (c_l12_ComplementViolations_r2 F) [2]) .ret) .skip)) (.seq (.dreg [(1, none, [], true), (3, none, [], true), (6, none, [1, 3], true), (8, (some 128), [6], false)] (c_l12_ComplementViolations_r3 F) [1, 3, 4]) (.seq (.reg (c_l12_ComplementViolations_r4 F) [1, 3, 4, 5, 6]) (.seq (.dreg [(1, none, [], true), (3, none, [], true), (6, none, [1, 3], true), (8, (some 128), [6], false)] (c_l12_ComplementViolations_r5 F) [1, 3, 4, 5, 6, 7, 8, 9]) (.seq (.reg (c_l12_ComplementViolations_r6 F) [3, 4, 5, 6, 7, 8, 9, 10, 11, 12]) (.seq (.reg (c_l12_ComplementViolations_r7 F) [2]) .ret)))))))
def h_l12_ComplementViolations : Hints := ⟨[], fun _ => [], tab [(0, [1]), (1, [1, 19]), (2, [2]), (3, [1, 3, 4]), (4, [1, 3, 4, 5, 6]), (5, [1, 3, 4, 5, 6, 7, 8, 9]), (6, [3, 4, 5, 6, 7, 8, 9, 10, 11, 12]), (7, [2])], tab []⟩

attribute [go_sem] c_l12_awake_r0 c_l12_awake_r1 c_l12_awake_r2 c_l12_awake_r3 c_l12_awake_r4 c_l12_awake_r5 c_l12_awake_r6 c_l12_awake_r7 c_l12_awake c_l12_few_r0 c_l12_few_r1 c_l12_few c_l12_copied_r0 c_l12_copied_r1 c_l12_copied c_slices_Equal_apiPair_r0 c_slices_Equal_apiPair_r1 c_slices_Equal_apiPair_r2 c_slices_Equal_apiPair_r3 c_slices_Equal_apiPair_r4 c_slices_Equal_apiPair_r5 c_slices_Equal_apiPair_r6 c_slices_Equal_apiPair_r7 c_slices_Equal_apiPair_r8 c_slices_Equal_apiPair_r10 c_slices_Equal_apiPair c_l12_ComplementViolations_r0 c_l12_ComplementViolations_r1 c_l12_ComplementViolations_r2 c_l12_ComplementViolations_r3 c_l12_ComplementViolations_r4 c_l12_ComplementViolations_r5 c_l12_ComplementViolations_r6 c_l12_ComplementViolations_r7 c_l12_ComplementViolations
def fewCx (x : Cx) : Bool := few x.l && (few x.g && (fewM x.k 140 && fewM x.m 140))
section
variable (P : Program) (F : String → Nat)
def K_l12_awake : Prop := FC P (F "l12.awake") [] (.bool true) []
def K_l12_few : Prop := ∀ x : Cx, x.sm → x.m.sm → FC P (F "l12.few") [cxD x] (.bool (fewCx x)) []
def K_l12_copied : Prop := ∀ m : Mo, m.n.length ≤ 1000000 → m.e.length ≤ 1000000 → FC P (F "l12.copied") [mD m] (mA m) []
def K_slices_Equal_apiPair : Prop := ∀ a b : List Pr, a.length ≤ maxL → FC P (F "slices.Equal.apiPair") [.lst 2 (prs a), .lst 2 (prs b)] (.bool (decide (a = b))) []
def K_l12_ComplementViolations : Prop := ∀ x : Cx, x.sm → x.m.sm → FC P (F "l12.ComplementViolations") [cxD x] (.bool true) []
end
section
variable {P : Program} {F : String → Nat} {α : Type}
theorem fewCx_len {x : Cx} (h : fewCx x = true) : (x.k.n.length ≤ 140 ∧ x.k.e.length ≤ 140) ∧ (x.m.n.length ≤ 140 ∧ x.m.e.length ≤ 140) := by
  simp only [fewCx, fewM, Bool.and_eq_true, decide_eq_true_eq] at h
  omega
theorem cxDr_len (x : Cx) : (cxDr x).length ≤ 80 := by
  unfold cxDr
  split
  · rename_i c
    have := valid_spec (cx_len c).1.vb
    have := danL_len x
    omega
  · simp
theorem cxIn_len (x : Cx) : (cxIn x).length ≤ 1000000 := by
  unfold cxIn
  split
  · rename_i c
    have := valid_spec (cx_len c).1.va
    have := (cx_len c).1.ln
    exact idL_len (by omega)
  · simp
theorem cxIe_len (x : Cx) : (cxIe x).length ≤ 1000000 := by
  unfold cxIe
  split
  · rename_i c
    have := valid_spec (cx_len c).1.va
    have := (cx_len c).1.le
    exact idL_len (by omega)
  · simp
def exC (k : Mo) : Cx := ⟨⟨[0, 0], [⟨0, 0, 1⟩]⟩, ⟨[0, 0, 0], [⟨0, 0, 1⟩, ⟨0, 2, 1⟩]⟩, k, ⟨[0, 1], [0]⟩⟩
set_option maxRecDepth 100000 in
theorem w_l12_awake (ho : K_complement_Of P F) (hd : K_complement_Dangling P F) (hr : K_complement_Repair P F) (hs : K_r07_Same P F) (he : K_slices_Equal_I P F) : W P (c_l12_awake F) (Done [.t 0] [] (.bool true) []) (init []) := by
  refine W_of ?_
  have r1 := ho (exC ⟨[0, 1], []⟩) ⟨by decide, by decide⟩
  rw [show cxR (exC ⟨[0, 1], []⟩) = (⟨[0, 1, 2], [1]⟩, 0) by decide +kernel] at r1
  have r2 := hd (exC ⟨[0], []⟩) ⟨by decide, by decide⟩
  rw [show cxDr (exC ⟨[0], []⟩) = [1] by decide +kernel, show cxE (exC ⟨[0], []⟩) = 0 by decide +kernel] at r2
  have r3 := hr (exC ⟨[0], []⟩) ⟨by decide, by decide⟩
  rw [show repR (exC ⟨[0], []⟩) = (⟨[0, 1], []⟩, 0) by decide +kernel] at r3
  have s1 := hs ⟨[0, 1, 2], [1]⟩ ⟨[0, 1, 2], [1]⟩ (by decide) (by decide)
  have s2 := he [1] [1] (by decide)
  have s3 := hs ⟨[0, 1], []⟩ ⟨[0, 1], []⟩ (by decide) (by decide)
  simp only [exC, gD, mD, mA] at *
  simp (config := { maxSteps := 1000000 }) (disch := first | omega | (simp only [go_sem]; omega)) only [go_sem, ↓reduceIte]
  refine call_by r1 ?_
  simp (config := { maxSteps := 1000000 }) (disch := first | omega | (simp only [go_sem]; omega)) only [go_sem, ↓reduceIte, Int.cast_ofNat_Int, eq_self]
  refine call_by r2 ?_
  simp (config := { maxSteps := 1000000 }) (disch := first | omega | (simp only [go_sem]; omega)) only [go_sem, ↓reduceIte, Int.cast_ofNat_Int, eq_self]
  refine call_by r3 ?_
  simp (config := { maxSteps := 1000000 }) (disch := first | omega | (simp only [go_sem]; omega)) only [go_sem, ↓reduceIte, Int.cast_ofNat_Int, eq_self]
  refine call_by s1 ?_
  simp (config := { maxSteps := 1000000 }) (disch := first | omega | (simp only [go_sem]; omega)) only [go_sem, ↓reduceIte]
  refine call_by s2 ?_
  simp (config := { maxSteps := 1000000 }) (disch := first | omega | (simp only [go_sem]; omega)) only [go_sem, ↓reduceIte]
  refine call_by s3 ?_
  simp (config := { maxSteps := 1000000 }) (disch := first | omega | (simp only [go_sem]; omega)) only [go_sem, ↓reduceIte]
theorem w_l12_copied (hc : K_slices_Clone_I P F) (m : Mo) (h1 : m.n.length ≤ 1000000) (h2 : m.e.length ≤ 1000000) : W P (c_l12_copied F) (Done [.c 2 true 2] [] (mA m) []) (init [mD m]) := by
  refine W_of ?_
  have r1 := hc m.n (by omega)
  have r2 := hc m.e (by omega)
  simp only [mD, mA]
  simp (config := { maxSteps := 1000000 }) (disch := first | omega | (simp only [go_sem]; omega)) only [go_sem, ↓reduceIte]
  refine call_by r1 ?_
  simp (config := { maxSteps := 1000000 }) (disch := first | omega | (simp only [go_sem]; omega)) only [go_sem, ↓reduceIte]
  refine call_by r2 ?_
  simp (config := { maxSteps := 1000000 }) (disch := first | omega | (simp only [go_sem]; omega)) only [go_sem, ↓reduceIte]
  try rfl
theorem w_l12_few (hg : K_r05_Few P F) (hp : K_r07_Few P F) (hm : K_r06_Few P F) (x : Cx) (h1 : x.sm) (h2 : x.m.sm) : W P (c_l12_few F) (Done [.t 2] [] (.bool (fewCx x)) []) (init [cxD x]) := by
  refine W_of ?_
  have r1 := hg x.l
  have r2 := hg x.g
  have r3 := hp x.k 140 h1.1 h1.2
  have r4 := hm x.m 140 h2.1 h2.2
  have hc : fewCx x = (few x.l && (few x.g && (fewM x.k 140 && fewM x.m 140))) := rfl
  rw [hc]
  generalize few x.l = b1 at *
  generalize few x.g = b2 at *
  generalize fewM x.k 140 = b3 at *
  generalize fewM x.m 140 = b4 at *
  simp only [gD, mD, cxD] at *
  simp (config := { maxSteps := 1000000 }) (disch := first | omega | (simp only [go_sem]; omega)) only [go_sem, ↓reduceIte]
  refine call_by r1 ?_
  cases b1
  · simp (config := { maxSteps := 1000000 }) (disch := first | omega | (simp only [go_sem]; omega)) only [go_sem, ↓reduceIte]
    try simp
  simp (config := { maxSteps := 1000000 }) (disch := first | omega | (simp only [go_sem]; omega)) only [go_sem, ↓reduceIte]
  refine call_by r2 ?_
  cases b2
  · simp (config := { maxSteps := 1000000 }) (disch := first | omega | (simp only [go_sem]; omega)) only [go_sem, ↓reduceIte]
    try simp
  simp (config := { maxSteps := 1000000 }) (disch := first | omega | (simp only [go_sem]; omega)) only [go_sem, ↓reduceIte]
  refine call_by r3 ?_
  cases b3
  · simp (config := { maxSteps := 1000000 }) (disch := first | omega | (simp only [go_sem]; omega)) only [go_sem, ↓reduceIte]
    try simp
  simp (config := { maxSteps := 1000000 }) (disch := first | omega | (simp only [go_sem]; omega)) only [go_sem, ↓reduceIte]
  refine call_by r4 ?_
  simp (config := { maxSteps := 1000000 }) (disch := first | omega | (simp only [go_sem]; omega)) only [go_sem, ↓reduceIte]
  try simp
theorem w_slices_Equal_apiPair (a b : List Pr) (hl : a.length ≤ maxL) : W P (c_slices_Equal_apiPair F) (Done [.t 4] [] (.bool (decide (a = b))) []) (init [.lst 2 (prs a), .lst 2 (prs b)]) := by
  refine W_of ?_
  unfold maxL at hl
  simp (config := { maxSteps := 1000000 }) (disch := first | omega | (simp only [go_sem]; omega)) only [go_sem, ↓reduceIte]
  refine bran_ndec (fun h => ?_) (fun h => ?_)
  · simp (config := { maxSteps := 1000000 }) (disch := first | omega | (simp only [go_sem]; omega)) only [go_sem, ↓reduceIte]
    have : a ≠ b := fun e => h (by rw [e])
    simp [this]
  · have h' : a.length = b.length := by omega
    simp (config := { maxSteps := 1000000 }) (disch := first | omega | (simp only [go_sem]; omega)) only [go_sem, ↓reduceIte]
    refine W_loop (fun i : Nat => ⟨[(0, .lst 2 (prs a)), (1, .lst 2 (prs b)), (12, .int .i64 a.length), (13, .int .i64 i)], [], 0⟩) (fun i => i ≤ a.length ∧ a.take i = b.take i) (fun i => a.length - i) 0 ?_ ?_ ?_
    · simp (config := { maxSteps := 1000000 }) (disch := first | omega | (simp only [go_sem]; omega)) only [go_sem, ↓reduceIte]
      rfl
    · simp
    · intro i hi
      simp (config := { maxSteps := 1000000 }) (disch := first | omega | (simp only [go_sem]; omega)) only [go_sem, ↓reduceIte, c_slices_Equal_apiPair_b9]
      refine bran_dec (fun c => ?_) (fun c => ?_)
      · have he : (decide ((gt a i).a = (gt b i).a) && decide ((gt a i).b = (gt b i).b)) = decide (gt a i = gt b i) := by
          rw [Bool.eq_iff_iff]; simp [eqPr]
        simp (config := { maxSteps := 1000000 }) (disch := first | omega | (simp only [go_sem]; omega)) only [go_sem, ↓reduceIte, he]
        refine bran_ndec (fun d => ?_) (fun d => ?_)
        · simp (config := { maxSteps := 1000000 }) (disch := first | omega | (simp only [go_sem]; omega)) only [go_sem, ↓reduceIte]
          have : a ≠ b := fun e => d (by rw [e])
          simp [this]
        · simp (config := { maxSteps := 1000000 }) (disch := first | omega | (simp only [go_sem]; omega)) only [go_sem, ↓reduceIte]
          exact ⟨i + 1, by simp, ⟨by omega, by rw [take_gt (by omega), take_gt (by omega), hi.2, d]⟩, by omega⟩
      · simp (config := { maxSteps := 1000000 }) (disch := first | omega | (simp only [go_sem]; omega)) only [go_sem, ↓reduceIte]
        obtain rfl : i = a.length := by omega
        have := hi.2
        rw [List.take_length, List.take_of_length_le (by omega)] at this
        simp [this]
theorem w_l12_ComplementViolations (hw : K_l12_awake P F) (hf : K_l12_few P F) (hcp : K_l12_copied P F) (hd : K_complement_Dangling P F) (hd2 : K_r12_Dangling P F) (hi : K_complement_Identified P F) (hi2 : K_r12_Identified P F) (he : K_slices_Equal_I P F) (hep : K_slices_Equal_apiPair P F) (x : Cx) (h1 : x.sm) (h2 : x.m.sm) : W P (c_l12_ComplementViolations F) (Done [.t 2] [] (.bool true) []) (init [cxD x]) := by
  refine W_of ?_
  have r1 := hf x h1 h2
  by_cases c : fewCx x = true
  case neg =>
    rw [Bool.not_eq_true] at c
    rw [c] at r1
    simp only [cxD] at *
    simp (config := { maxSteps := 1000000 }) (disch := first | omega | (simp only [go_sem]; omega)) only [go_sem, ↓reduceIte]
    refine call_by hw ?_
    simp (config := { maxSteps := 1000000 }) (disch := first | omega | (simp only [go_sem]; omega)) only [go_sem, ↓reduceIte]
    refine call_by r1 ?_
    simp (config := { maxSteps := 1000000 }) (disch := first | omega | (simp only [go_sem]; omega)) only [go_sem, ↓reduceIte]
    refine call_by hw ?_
    simp (config := { maxSteps := 1000000 }) (disch := first | omega | (simp only [go_sem]; omega)) only [go_sem, ↓reduceIte]
  obtain ⟨s1, s2⟩ := fewCx_len c
  rw [c] at r1
  have r2 := hcp x.k (by omega) (by omega)
  have r3 := hd x h1
  have r4 := hd2 x h1
  have r5 := hi x h1
  have r6 := hi2 x h1
  have l1 := cxDr_len x
  have l2 := cxIn_len x
  have l3 := cxIe_len x
  have r7 := he (cxDr x) (cxDr x) (by unfold maxL; omega)
  have r8 := hep (cxIn x) (cxIn x) (by unfold maxL; omega)
  have r9 := hep (cxIe x) (cxIe x) (by unfold maxL; omega)
  clear s1 s2 l1 l2 l3 c
  generalize cxDr x = d at *
  generalize cxIn x = i1 at *
  generalize cxIe x = i2 at *
  generalize cxE x = v at *
  simp only [cxD, gD, mD, mA, decide_true] at *
  simp (config := { maxSteps := 1000000 }) (disch := first | omega | (simp only [go_sem]; omega)) only [go_sem, ↓reduceIte]
  refine call_by hw ?_
  simp (config := { maxSteps := 1000000 }) (disch := first | omega | (simp only [go_sem]; omega)) only [go_sem, ↓reduceIte]
  refine call_by r1 ?_
  simp (config := { maxSteps := 1000000 }) (disch := first | omega | (simp only [go_sem]; omega)) only [go_sem, ↓reduceIte]
  refine call_by r2 ?_
  simp (config := { maxSteps := 1000000 }) (disch := first | omega | (simp only [go_sem]; omega)) only [go_sem, ↓reduceIte]
  refine call_by r3 ?_
  simp (config := { maxSteps := 1000000 }) (disch := first | omega | (simp only [go_sem]; omega)) only [go_sem, ↓reduceIte]
  refine call_by r4 ?_
  simp (config := { maxSteps := 1000000 }) (disch := first | omega | (simp only [go_sem]; omega)) only [go_sem, ↓reduceIte]
  refine call_by r2 ?_
  simp (config := { maxSteps := 1000000 }) (disch := first | omega | (simp only [go_sem]; omega)) only [go_sem, ↓reduceIte]
  refine call_by r5 ?_
  simp (config := { maxSteps := 1000000 }) (disch := first | omega | (simp only [go_sem]; omega)) only [go_sem, ↓reduceIte]
  refine call_by r6 ?_
  simp (config := { maxSteps := 1000000 }) (disch := first | omega | (simp only [go_sem]; omega)) only [go_sem, ↓reduceIte]
  refine call_by r7 ?_
  simp (config := { maxSteps := 1000000 }) (disch := first | omega | (simp only [go_sem]; omega)) only [go_sem, ↓reduceIte]
  refine call_by r8 ?_
  simp (config := { maxSteps := 1000000 }) (disch := first | omega | (simp only [go_sem]; omega)) only [go_sem, ↓reduceIte]
  refine call_by r9 ?_
  simp (config := { maxSteps := 1000000 }) (disch := first | omega | (simp only [go_sem]; omega)) only [go_sem, ↓reduceIte]
def shCx : Sh := .cat [shG, shG, shM, shM]
theorem rd_case {x : D} (h : HasEl shCx x) : ∃ c : Cx, x = cxD c ∧ c.sm ∧ c.m.sm := by
  simp only [shCx, HasEl] at h
  obtain ⟨ds, rfl, h⟩ := h
  obtain ⟨_, _, rfl, h1, h⟩ := hasShs_cat h
  obtain ⟨_, _, rfl, h2, h⟩ := hasShs_cat h
  obtain ⟨_, _, rfl, h3, h⟩ := hasShs_cat h
  obtain ⟨_, _, rfl, h4, h⟩ := hasShs_cat h
  obtain rfl := hasShs_nil h
  obtain ⟨l, rfl⟩ := rd_gl h1
  obtain ⟨g, rfl⟩ := rd_gl h2
  obtain ⟨k, rfl, h5⟩ := rd_ml h3
  obtain ⟨m, rfl, h6⟩ := rd_ml h4
  exact ⟨⟨l, g, k, m⟩, rfl, h5, h6⟩
theorem x_l12_ComplementViolations (h : K_l12_ComplementViolations P F) (args : List D) (ha : HasEls [shCx] args) : FC P (F "l12.ComplementViolations") args (.bool true) [] := by
  simp only [HasEls] at ha
  obtain ⟨_, _, rfl, h1, rfl⟩ := ha
  obtain ⟨s, rfl, k1, k2⟩ := rd_case h1
  exact h s k1 k2
end
end Go.Am
