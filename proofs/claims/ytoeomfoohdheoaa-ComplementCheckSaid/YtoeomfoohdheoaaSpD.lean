/- Closing of parts; Dangling, Identified, Of and Check of complements. -/
import Derived.Test.YtoeomfoohdheoaaSpC
namespace Go.Am
open Go
set_option linter.unusedVariables false
set_option linter.unusedSimpArgs false
attribute [local irreducible] W
/- complement.Dangling -/
def c_complement_Dangling_r0 (F : String → Nat) : List LI := [⟨some 4, .bx (.t 0), none⟩,
  ⟨some 5, .bx (.t 1), none⟩,
  ⟨some 6, .bx (.t 2), none⟩,
  ⟨some 7, .bx (.t 3), none⟩,
  ⟨some 8, .mov (.k (.nl 1)), none⟩,
  ⟨some 9, .mov (.k (.int .i64 (0))), none⟩]
def c_complement_Dangling_r1 (F : String → Nat) : List LI := [⟨some 12, .load true 2 (.t 4), none⟩,
  ⟨some 13, .load true 2 (.t 5), none⟩,
  ⟨some 14, .load true 2 (.t 6), none⟩,
  ⟨some 15, .load true 2 (.t 7), none⟩,
  ⟨some 16, .build [.nl 1, .nl 3, .nl 1, .nl 3, .nl 1, .nl 1, .nl 1, .nl 1] [(0, 2, .t 12), (2, 2, .t 13), (4, 2, .t 14), (6, 2, .t 15)], none⟩,
  ⟨some 10, .alloc [.nl 1, .nl 3, .nl 1, .nl 3, .nl 1, .nl 1, .nl 1, .nl 1], none⟩,
  ⟨none, .store 8 (.t 10) (.t 16), none⟩]
def c_complement_Dangling_r2 (F : String → Nat) : List LI := [⟨some 17, .load true 8 (.t 10), none⟩,
  ⟨some 18, .call (F "complement.gluing.given") [.t 17] [], none⟩,
  ⟨some 11, .mov (.t 18), none⟩]
def c_complement_Dangling_r3 (F : String → Nat) : List LI := [⟨some 19, .mov (.t 11), none⟩,
  ⟨some 20, .bin .neq (.t 19) (.k (.int .i64 (0))), none⟩]
def c_complement_Dangling_r4 (F : String → Nat) : List LI := [⟨some 21, .mov (.t 11), none⟩,
  ⟨some 8, .mov (.k (.nl 1)), none⟩,
  ⟨some 9, .mov (.t 21), none⟩]
def c_complement_Dangling_r5 (F : String → Nat) : List LI := [⟨some 22, .load true 8 (.t 10), none⟩,
  ⟨some 23, .call (F "complement.gluing.dangling") [.t 22] [], none⟩,
  ⟨some 8, .mov (.t 23), none⟩,
  ⟨some 9, .mov (.k (.int .i64 (0))), none⟩]
def c_complement_Dangling (F : String → Nat) : LC := (.seq (.reg (c_complement_Dangling_r0 F) [4, 5, 6, 7]) (.seq (.reg (c_complement_Dangling_r1 F) [10]) (.seq (.seq (.reg (c_complement_Dangling_r2 F) [10, 11]) (.seq (.reg (c_complement_Dangling_r3 F) [10, 11, 20]) (.cond (.t 20) (.seq (.reg (c_complement_Dangling_r4 F) [8, 9]) .ret) .skip))) (.seq (.reg (c_complement_Dangling_r5 F) [8, 9]) .ret))))
def h_complement_Dangling : Hints := ⟨[], fun _ => [], tab [(0, [4, 5, 6, 7]), (1, [10]), (2, [10, 11]), (3, [10, 11, 20]), (4, [8, 9]), (5, [8, 9])], tab []⟩

/- complement.Of -/
def c_complement_Of_r0 (F : String → Nat) : List LI := [⟨some 4, .bx (.t 0), none⟩,
  ⟨some 5, .bx (.t 1), none⟩,
  ⟨some 6, .bx (.t 2), none⟩,
  ⟨some 7, .bx (.t 3), none⟩,
  ⟨some 8, .alloc [.nl 1, .nl 1], none⟩,
  ⟨some 9, .mov (.k (.int .i64 (0))), none⟩]
def c_complement_Of_r1 (F : String → Nat) : List LI := [⟨some 14, .load true 2 (.t 4), none⟩,
  ⟨some 15, .load true 2 (.t 5), none⟩,
  ⟨some 16, .load true 2 (.t 6), none⟩,
  ⟨some 17, .load true 2 (.t 7), none⟩,
  ⟨some 18, .build [.nl 1, .nl 3, .nl 1, .nl 3, .nl 1, .nl 1, .nl 1, .nl 1] [(0, 2, .t 14), (2, 2, .t 15), (4, 2, .t 16), (6, 2, .t 17)], none⟩,
  ⟨some 10, .alloc [.nl 1, .nl 3, .nl 1, .nl 3, .nl 1, .nl 1, .nl 1, .nl 1], none⟩,
  ⟨none, .store 8 (.t 10) (.t 18), none⟩]
def c_complement_Of_r2 (F : String → Nat) : List LI := [⟨some 19, .load true 8 (.t 10), none⟩,
  ⟨some 20, .call (F "complement.gluing.given") [.t 19] [], none⟩,
  ⟨some 11, .mov (.t 20), none⟩]
def c_complement_Of_r3 (F : String → Nat) : List LI := [⟨some 21, .mov (.t 11), none⟩,
  ⟨some 22, .bin .neq (.t 21) (.k (.int .i64 (0))), none⟩]
def c_complement_Of_r4 (F : String → Nat) : List LI := [⟨some 23, .build [.nl 1, .nl 1] [], none⟩,
  ⟨some 24, .mov (.t 11), none⟩,
  ⟨none, .store 2 (.t 8) (.t 23), none⟩,
  ⟨some 9, .mov (.t 24), none⟩]
def c_complement_Of_r5 (F : String → Nat) : List LI := [⟨some 26, .load true 8 (.t 10), none⟩,
  ⟨some 27, .call (F "complement.gluing.identified") [.t 26] [], none⟩,
  ⟨some 25, .mov (.t 27), none⟩,
  ⟨some 28, .ext (.t 25) 0, none⟩,
  ⟨some 29, .ext (.t 25) 1, none⟩,
  ⟨some 12, .mov (.t 28), none⟩,
  ⟨some 13, .mov (.t 29), none⟩]
def c_complement_Of_r6 (F : String → Nat) : List LI := [⟨some 31, .mov (.t 12), none⟩,
  ⟨some 32, .len (.t 31), none⟩,
  ⟨some 33, .mov (.t 13), none⟩,
  ⟨some 34, .len (.t 33), none⟩,
  ⟨some 35, .bin .add (.t 32) (.t 34), none⟩,
  ⟨some 36, .bin .gtr (.t 35) (.k (.int .i64 (0))), none⟩,
  ⟨some 30, .mov (.t 36), none⟩]
def c_complement_Of_r7 (F : String → Nat) : List LI := [⟨some 37, .build [.nl 1, .nl 1] [], none⟩,
  ⟨none, .store 2 (.t 8) (.t 37), none⟩,
  ⟨some 9, .mov (.k (.int .i64 (15))), none⟩]
def c_complement_Of_r8 (F : String → Nat) : List LI := [⟨some 39, .load true 8 (.t 10), none⟩,
  ⟨some 40, .call (F "complement.gluing.dangling") [.t 39] [], none⟩,
  ⟨some 41, .len (.t 40), none⟩,
  ⟨some 42, .bin .gtr (.t 41) (.k (.int .i64 (0))), none⟩,
  ⟨some 38, .mov (.t 42), none⟩]
def c_complement_Of_r9 (F : String → Nat) : List LI := [⟨some 43, .build [.nl 1, .nl 1] [], none⟩,
  ⟨none, .store 2 (.t 8) (.t 43), none⟩,
  ⟨some 9, .mov (.k (.int .i64 (14))), none⟩]
def c_complement_Of_r10 (F : String → Nat) : List LI := [⟨some 44, .fad 0 (.t 5), none⟩,
  ⟨some 45, .load false 1 (.t 44), none⟩,
  ⟨some 46, .len (.t 45), none⟩,
  ⟨some 47, .fad 0 (.t 7), none⟩,
  ⟨some 48, .load false 1 (.t 47), none⟩,
  ⟨some 49, .fad 0 (.t 6), none⟩,
  ⟨some 50, .load false 1 (.t 49), none⟩,
  ⟨some 51, .call (F "complement.rest") [.t 46, .t 48, .t 50] [], none⟩,
  ⟨some 52, .fad 1 (.t 5), none⟩,
  ⟨some 53, .load false 1 (.t 52), none⟩,
  ⟨some 54, .len (.t 53), none⟩,
  ⟨some 55, .fad 1 (.t 7), none⟩,
  ⟨some 56, .load false 1 (.t 55), none⟩,
  ⟨some 57, .fad 1 (.t 6), none⟩,
  ⟨some 58, .load false 1 (.t 57), none⟩,
  ⟨some 59, .call (F "complement.rest") [.t 54, .t 56, .t 58] [], none⟩,
  ⟨some 60, .build [.nl 1, .nl 1] [(0, 1, .t 51), (1, 1, .t 59)], none⟩,
  ⟨none, .store 2 (.t 8) (.t 60), none⟩,
  ⟨some 9, .mov (.k (.int .i64 (0))), none⟩]
def c_complement_Of (F : String → Nat) : LC := (.seq (.reg (c_complement_Of_r0 F) [4, 5, 6, 7, 8]) (.seq (.reg (c_complement_Of_r1 F) [5, 6, 7, 8, 10]) (.seq (.seq (.reg (c_complement_Of_r2 F) [5, 6, 7, 8, 10, 11]) (.seq (.reg (c_complement_Of_r3 F) [5, 6, 7, 8, 10, 11, 22]) (.cond (.t 22) (.seq (.reg (c_complement_Of_r4 F) [8, 9]) .ret) .skip))) (.seq (.reg (c_complement_Of_r5 F) [5, 6, 7, 8, 10, 12, 13]) (.seq (.block 0 (.seq (.reg (c_complement_Of_r6 F) [5, 6, 7, 8, 10, 30]) (.cond (.t 30) (.seq (.reg (c_complement_Of_r7 F) [8, 9]) .ret) (.seq (.reg (c_complement_Of_r8 F) [5, 6, 7, 8, 38]) (.cond (.t 38) (.seq (.reg (c_complement_Of_r9 F) [8, 9]) .ret) .skip))))) (.seq (.dreg [(7, none, [], true), (9, (some 256), [7], false), (12, (some 2048), [7], false), (14, (some 8192), [7], false)] (c_complement_Of_r10 F) [8, 9]) .ret))))))
def h_complement_Of : Hints := ⟨[], fun _ => [], tab [(0, [4, 5, 6, 7, 8]), (1, [5, 6, 7, 8, 10]), (2, [5, 6, 7, 8, 10, 11]), (3, [5, 6, 7, 8, 10, 11, 22]), (4, [8, 9]), (5, [5, 6, 7, 8, 10, 12, 13]), (6, [5, 6, 7, 8, 10, 30]), (7, [8, 9]), (8, [5, 6, 7, 8, 38]), (9, [8, 9]), (10, [8, 9])], tab []⟩

/- complement.Check -/
def c_complement_Check_r0 (F : String → Nat) : List LI := [⟨some 5, .bx (.t 0), none⟩,
  ⟨some 6, .bx (.t 1), none⟩,
  ⟨some 7, .bx (.t 2), none⟩,
  ⟨some 8, .bx (.t 3), none⟩,
  ⟨some 9, .bx (.t 4), none⟩,
  ⟨some 10, .mov (.k (.bool false)), none⟩]
def c_complement_Check_r1 (F : String → Nat) : List LI := [⟨some 14, .load true 2 (.t 5), none⟩,
  ⟨some 15, .load true 2 (.t 6), none⟩,
  ⟨some 16, .load true 2 (.t 7), none⟩,
  ⟨some 17, .load true 2 (.t 8), none⟩,
  ⟨some 18, .call (F "complement.Of") [.t 14, .t 15, .t 16, .t 17] [], none⟩,
  ⟨some 13, .mov (.t 18), none⟩,
  ⟨some 19, .ext (.t 13) 0, none⟩,
  ⟨some 20, .ext (.t 13) 1, none⟩,
  ⟨some 11, .alloc [.nl 1, .nl 1], none⟩,
  ⟨none, .store 2 (.t 11) (.t 19), none⟩,
  ⟨some 12, .mov (.t 20), none⟩]
def c_complement_Check_r2 (F : String → Nat) : List LI := [⟨some 21, .mov (.t 12), none⟩,
  ⟨some 22, .bin .eql (.t 21) (.k (.int .i64 (0))), none⟩,
  ⟨some 23, .mov (.t 22), none⟩,
  ⟨some 24, .fad 0 (.t 11), some (23, true)⟩,
  ⟨some 25, .load false 1 (.t 24), some (23, true)⟩,
  ⟨some 26, .fad 0 (.t 9), some (23, true)⟩,
  ⟨some 27, .load false 1 (.t 26), some (23, true)⟩,
  ⟨some 28, .call (F "slices.Equal.I") [.t 25, .t 27] [], some (23, true)⟩,
  ⟨some 29, .pick (.t 23) (.t 28) (.k (.bool false)), none⟩,
  ⟨some 30, .mov (.t 29), none⟩,
  ⟨some 31, .fad 1 (.t 11), some (30, true)⟩,
  ⟨some 32, .load false 1 (.t 31), some (30, true)⟩,
  ⟨some 33, .fad 1 (.t 9), some (30, true)⟩,
  ⟨some 34, .load false 1 (.t 33), some (30, true)⟩,
  ⟨some 35, .call (F "slices.Equal.I") [.t 32, .t 34] [], some (30, true)⟩,
  ⟨some 36, .pick (.t 30) (.t 35) (.k (.bool false)), none⟩,
  ⟨some 10, .mov (.t 36), none⟩]
def c_complement_Check (F : String → Nat) : LC := (.seq (.reg (c_complement_Check_r0 F) [5, 6, 7, 8, 9]) (.seq (.reg (c_complement_Check_r1 F) [9, 11, 12]) (.seq (.reg (c_complement_Check_r2 F) [10]) .ret)))
def h_complement_Check : Hints := ⟨[], fun _ => [], tab [(0, [5, 6, 7, 8, 9]), (1, [9, 11, 12]), (2, [10])], tab []⟩

/- r12.Of -/
def c_r12_Of_r0 (F : String → Nat) : List LI := [⟨some 4, .bx (.t 0), none⟩,
  ⟨some 5, .bx (.t 1), none⟩,
  ⟨some 6, .bx (.t 2), none⟩,
  ⟨some 7, .bx (.t 3), none⟩,
  ⟨some 8, .alloc [.nl 1, .nl 1], none⟩,
  ⟨some 9, .mov (.k (.int .i64 (0))), none⟩]
def c_r12_Of_r1 (F : String → Nat) : List LI := [⟨some 11, .load true 2 (.t 4), none⟩,
  ⟨some 12, .load true 2 (.t 5), none⟩,
  ⟨some 13, .load true 2 (.t 6), none⟩,
  ⟨some 14, .load true 2 (.t 7), none⟩,
  ⟨some 15, .call (F "r12.given") [.t 11, .t 12, .t 13, .t 14] [], none⟩,
  ⟨some 10, .mov (.t 15), none⟩]
def c_r12_Of_r2 (F : String → Nat) : List LI := [⟨some 16, .mov (.t 10), none⟩,
  ⟨some 17, .bin .neq (.t 16) (.k (.int .i64 (0))), none⟩]
def c_r12_Of_r3 (F : String → Nat) : List LI := [⟨some 18, .build [.nl 1, .nl 1] [], none⟩,
  ⟨some 19, .mov (.t 10), none⟩,
  ⟨none, .store 2 (.t 8) (.t 18), none⟩,
  ⟨some 9, .mov (.t 19), none⟩]
def c_r12_Of_r4 (F : String → Nat) : List LI := [⟨some 20, .fad 0 (.t 7), none⟩,
  ⟨some 21, .load false 1 (.t 20), none⟩,
  ⟨some 22, .fad 0 (.t 6), none⟩,
  ⟨some 23, .load false 1 (.t 22), none⟩,
  ⟨some 24, .call (F "r12.identified") [.t 21, .t 23] [], none⟩,
  ⟨some 25, .len (.t 24), none⟩,
  ⟨some 26, .fad 1 (.t 7), none⟩,
  ⟨some 27, .load false 1 (.t 26), none⟩,
  ⟨some 28, .fad 1 (.t 6), none⟩,
  ⟨some 29, .load false 1 (.t 28), none⟩,
  ⟨some 30, .call (F "r12.identified") [.t 27, .t 29] [], none⟩,
  ⟨some 31, .len (.t 30), none⟩,
  ⟨some 32, .bin .add (.t 25) (.t 31), none⟩,
  ⟨some 33, .bin .gtr (.t 32) (.k (.int .i64 (0))), none⟩]
def c_r12_Of_r5 (F : String → Nat) : List LI := [⟨some 34, .build [.nl 1, .nl 1] [], none⟩,
  ⟨none, .store 2 (.t 8) (.t 34), none⟩,
  ⟨some 9, .mov (.k (.int .i64 (15))), none⟩]
def c_r12_Of_r6 (F : String → Nat) : List LI := [⟨some 35, .load true 2 (.t 4), none⟩,
  ⟨some 36, .load true 2 (.t 5), none⟩,
  ⟨some 37, .load true 2 (.t 6), none⟩,
  ⟨some 38, .load true 2 (.t 7), none⟩,
  ⟨some 39, .call (F "r12.dangling") [.t 35, .t 36, .t 37, .t 38] [], none⟩,
  ⟨some 40, .len (.t 39), none⟩,
  ⟨some 41, .bin .gtr (.t 40) (.k (.int .i64 (0))), none⟩]
def c_r12_Of_r7 (F : String → Nat) : List LI := [⟨some 42, .build [.nl 1, .nl 1] [], none⟩,
  ⟨none, .store 2 (.t 8) (.t 42), none⟩,
  ⟨some 9, .mov (.k (.int .i64 (14))), none⟩]
def c_r12_Of_r8 (F : String → Nat) : List LI := [⟨some 43, .fad 0 (.t 5), none⟩,
  ⟨some 44, .load false 1 (.t 43), none⟩,
  ⟨some 45, .len (.t 44), none⟩,
  ⟨some 46, .fad 0 (.t 7), none⟩,
  ⟨some 47, .load false 1 (.t 46), none⟩,
  ⟨some 48, .fad 0 (.t 6), none⟩,
  ⟨some 49, .load false 1 (.t 48), none⟩,
  ⟨some 50, .call (F "r12.gone") [.t 47, .t 49] [], none⟩,
  ⟨some 51, .call (F "r12.rest") [.t 45, .t 50] [], none⟩,
  ⟨some 52, .fad 1 (.t 5), none⟩,
  ⟨some 53, .load false 1 (.t 52), none⟩,
  ⟨some 54, .len (.t 53), none⟩,
  ⟨some 55, .fad 1 (.t 7), none⟩,
  ⟨some 56, .load false 1 (.t 55), none⟩,
  ⟨some 57, .fad 1 (.t 6), none⟩,
  ⟨some 58, .load false 1 (.t 57), none⟩,
  ⟨some 59, .call (F "r12.gone") [.t 56, .t 58] [], none⟩,
  ⟨some 60, .call (F "r12.rest") [.t 54, .t 59] [], none⟩,
  ⟨some 61, .build [.nl 1, .nl 1] [(0, 1, .t 51), (1, 1, .t 60)], none⟩,
  ⟨none, .store 2 (.t 8) (.t 61), none⟩,
  ⟨some 9, .mov (.k (.int .i64 (0))), none⟩]
def c_r12_Of (F : String → Nat) : LC := (.seq (.reg (c_r12_Of_r0 F) [4, 5, 6, 7, 8]) (.seq (.seq (.reg (c_r12_Of_r1 F) [4, 5, 6, 7, 8, 10]) (.seq (.reg (c_r12_Of_r2 F) [4, 5, 6, 7, 8, 10, 17]) (.cond (.t 17) (.seq (.reg (c_r12_Of_r3 F) [8, 9]) .ret) .skip))) (.seq (.seq (.dreg [(4, none, [], true), (7, (some 64), [4], false), (9, (some 256), [4], false)] (c_r12_Of_r4 F) [4, 5, 6, 7, 8, 33]) (.cond (.t 33) (.seq (.reg (c_r12_Of_r5 F) [8, 9]) .ret) .skip)) (.seq (.seq (.reg (c_r12_Of_r6 F) [5, 6, 7, 8, 41]) (.cond (.t 41) (.seq (.reg (c_r12_Of_r7 F) [8, 9]) .ret) .skip)) (.seq (.dreg [(1, none, [], true), (7, none, [1], true), (8, none, [], true), (10, (some 512), [7, 8], true), (13, (some 4096), [7, 8], false), (15, (some 16384), [7, 8], false), (16, none, [10], false)] (c_r12_Of_r8 F) [8, 9]) .ret)))))
def h_r12_Of : Hints := ⟨[], fun _ => [], tab [(0, [4, 5, 6, 7, 8]), (1, [4, 5, 6, 7, 8, 10]), (2, [4, 5, 6, 7, 8, 10, 17]), (3, [8, 9]), (4, [4, 5, 6, 7, 8, 33]), (5, [8, 9]), (6, [5, 6, 7, 8, 41]), (7, [8, 9]), (8, [8, 9])], tab []⟩

/- r12.Check -/
def c_r12_Check_r0 (F : String → Nat) : List LI := [⟨some 5, .bx (.t 0), none⟩,
  ⟨some 6, .bx (.t 1), none⟩,
  ⟨some 7, .bx (.t 2), none⟩,
  ⟨some 8, .bx (.t 3), none⟩,
  ⟨some 9, .bx (.t 4), none⟩,
  ⟨some 10, .mov (.k (.bool false)), none⟩]
def c_r12_Check_r1 (F : String → Nat) : List LI := [⟨some 14, .load true 2 (.t 5), none⟩,
  ⟨some 15, .load true 2 (.t 6), none⟩,
  ⟨some 16, .load true 2 (.t 7), none⟩,
  ⟨some 17, .load true 2 (.t 8), none⟩,
  ⟨some 18, .call (F "r12.Of") [.t 14, .t 15, .t 16, .t 17] [], none⟩,
  ⟨some 13, .mov (.t 18), none⟩,
  ⟨some 19, .ext (.t 13) 0, none⟩,
  ⟨some 20, .ext (.t 13) 1, none⟩,
  ⟨some 11, .alloc [.nl 1, .nl 1], none⟩,
  ⟨none, .store 2 (.t 11) (.t 19), none⟩,
  ⟨some 12, .mov (.t 20), none⟩]
def c_r12_Check_r2 (F : String → Nat) : List LI := [⟨some 21, .mov (.t 12), none⟩,
  ⟨some 22, .bin .eql (.t 21) (.k (.int .i64 (0))), none⟩,
  ⟨some 23, .mov (.t 22), none⟩,
  ⟨some 24, .fad 0 (.t 11), some (23, true)⟩,
  ⟨some 25, .load false 1 (.t 24), some (23, true)⟩,
  ⟨some 26, .fad 0 (.t 9), some (23, true)⟩,
  ⟨some 27, .load false 1 (.t 26), some (23, true)⟩,
  ⟨some 28, .call (F "r05.SameInts") [.t 25, .t 27] [], some (23, true)⟩,
  ⟨some 29, .pick (.t 23) (.t 28) (.k (.bool false)), none⟩,
  ⟨some 30, .mov (.t 29), none⟩,
  ⟨some 31, .fad 1 (.t 11), some (30, true)⟩,
  ⟨some 32, .load false 1 (.t 31), some (30, true)⟩,
  ⟨some 33, .fad 1 (.t 9), some (30, true)⟩,
  ⟨some 34, .load false 1 (.t 33), some (30, true)⟩,
  ⟨some 35, .call (F "r05.SameInts") [.t 32, .t 34] [], some (30, true)⟩,
  ⟨some 36, .pick (.t 30) (.t 35) (.k (.bool false)), none⟩,
  ⟨some 10, .mov (.t 36), none⟩]
def c_r12_Check (F : String → Nat) : LC := (.seq (.reg (c_r12_Check_r0 F) [5, 6, 7, 8, 9]) (.seq (.reg (c_r12_Check_r1 F) [9, 11, 12]) (.seq (.reg (c_r12_Check_r2 F) [10]) .ret)))
def h_r12_Check : Hints := ⟨[], fun _ => [], tab [(0, [5, 6, 7, 8, 9]), (1, [9, 11, 12]), (2, [10])], tab []⟩

attribute [go_sem] c_complement_Dangling_r0 c_complement_Dangling_r1 c_complement_Dangling_r2 c_complement_Dangling_r3 c_complement_Dangling_r4 c_complement_Dangling_r5 c_complement_Dangling c_complement_Of_r0 c_complement_Of_r1 c_complement_Of_r2 c_complement_Of_r3 c_complement_Of_r4 c_complement_Of_r5 c_complement_Of_r6 c_complement_Of_r7 c_complement_Of_r8 c_complement_Of_r9 c_complement_Of_r10 c_complement_Of c_complement_Check_r0 c_complement_Check_r1 c_complement_Check_r2 c_complement_Check c_r12_Of_r0 c_r12_Of_r1 c_r12_Of_r2 c_r12_Of_r3 c_r12_Of_r4 c_r12_Of_r5 c_r12_Of_r6 c_r12_Of_r7 c_r12_Of_r8 c_r12_Of c_r12_Check_r0 c_r12_Check_r1 c_r12_Check_r2 c_r12_Check
def cxR (x : Cx) : Mo × Int := if cxE x ≠ 0 then (m0, cxE x) else if 0 < (idL x.m.n x.k.n).length + (idL x.m.e x.k.e).length then (m0, 15) else if 0 < (cxDan x).length then (m0, 14) else (⟨restL x.g.n.length (goneL x.m.n x.k.n), restL x.g.e.length (goneL x.m.e x.k.e)⟩, 0)
def cxC (x : Cx) (d : Mo) : Bool := decide ((cxR x).2 = 0) && (decide ((cxR x).1.n = d.n) && decide ((cxR x).1.e = d.e))
def cxDr (x : Cx) : List Int := if cxE x = 0 then cxDan x else []
section
variable (P : Program) (F : String → Nat)
def K_complement_Dangling : Prop := ∀ x : Cx, x.sm → FC P (F "complement.Dangling") [gD x.l, gD x.g, mD x.k, mD x.m] (.tup [.arr 1 (ints (cxDr x)), .int .i64 (cxE x)]) []
def K_complement_Of : Prop := ∀ x : Cx, x.sm → FC P (F "complement.Of") [gD x.l, gD x.g, mD x.k, mD x.m] (.tup [mA (cxR x).1, .int .i64 (cxR x).2]) []
def K_r12_Of : Prop := ∀ x : Cx, x.sm → FC P (F "r12.Of") [gD x.l, gD x.g, mD x.k, mD x.m] (.tup [mA (cxR x).1, .int .i64 (cxR x).2]) []
def K_complement_Check : Prop := ∀ (x : Cx) (d : Mo), x.sm → FC P (F "complement.Check") [gD x.l, gD x.g, mD x.k, mD x.m, mD d] (.bool (cxC x d)) []
def K_r12_Check : Prop := ∀ (x : Cx) (d : Mo), x.sm → FC P (F "r12.Check") [gD x.l, gD x.g, mD x.k, mD x.m, mD d] (.bool (cxC x d)) []
end
section
variable {P : Program} {F : String → Nat} {α : Type}
theorem w_complement_Dangling (hg : K_complement_gluing_given P F) (hd : K_complement_gluing_dangling P F) (x : Cx) (hs : x.sm) : W P (c_complement_Dangling F) (Done [.t 8, .t 9] [] (.tup [.arr 1 (ints (cxDr x)), .int .i64 (cxE x)]) []) (init [gD x.l, gD x.g, mD x.k, mD x.m]) := by
  refine W_of ?_
  have r1 := hg x hs
  have hD : cxDr x = if cxE x = 0 then cxDan x else [] := rfl
  rw [hD]
  by_cases c : cxE x = 0
  · have r2 := hd x c
    rw [if_pos c]
    rw [c] at r1 ⊢
    generalize cxDan x = d at *
    simp only [gD, mD, cxD] at *
    simp (config := { maxSteps := 1000000 }) (disch := first | omega | (simp only [go_sem]; omega)) only [go_sem, ↓reduceIte]
    refine call_by r1 ?_
    simp (config := { maxSteps := 1000000 }) (disch := first | omega | (simp only [go_sem]; omega)) only [go_sem, ↓reduceIte]
    refine call_by r2 ?_
    simp (config := { maxSteps := 1000000 }) (disch := first | omega | (simp only [go_sem]; omega)) only [go_sem, ↓reduceIte]
  · rw [if_neg c]
    generalize cxE x = v at *
    simp only [gD, mD, cxD] at *
    simp (config := { maxSteps := 1000000 }) (disch := first | omega | (simp only [go_sem]; omega)) only [go_sem, ↓reduceIte]
    refine call_by r1 ?_
    simp (config := { maxSteps := 1000000 }) (disch := first | omega | (simp only [go_sem]; omega)) only [go_sem, ↓reduceIte, c]
    try simp [ints]
theorem idL_len {im kn : List Int} (h : im.length ≤ 1000) : (idL im kn).length ≤ 1000000 := idA_bd h (Nat.le_refl _)
theorem danL_len (x : Cx) : (cxDan x).length ≤ x.g.e.length := sel_len _ _
set_option maxHeartbeats 1000000 in
theorem w_complement_Of (hg : K_complement_gluing_given P F) (hi : K_complement_gluing_identified P F) (hd : K_complement_gluing_dangling P F) (hr : K_complement_rest P F) (x : Cx) (hs : x.sm) : W P (c_complement_Of F) (Done [.c 8 true 2, .t 9] [] (.tup [mA (cxR x).1, .int .i64 (cxR x).2]) []) (init [gD x.l, gD x.g, mD x.k, mD x.m]) := by
  refine W_of ?_
  have r1 := hg x hs
  have hR : cxR x = if cxE x ≠ 0 then (m0, cxE x) else if 0 < (idL x.m.n x.k.n).length + (idL x.m.e x.k.e).length then (m0, 15) else if 0 < (cxDan x).length then (m0, 14) else (⟨restL x.g.n.length (goneL x.m.n x.k.n), restL x.g.e.length (goneL x.m.e x.k.e)⟩, 0) := rfl
  by_cases c : cxE x = 0
  case neg =>
    rw [if_pos c] at hR
    rw [hR]
    generalize cxE x = v at *
    simp only [gD, mD, cxD] at *
    simp (config := { maxSteps := 1000000 }) (disch := first | omega | (simp only [go_sem]; omega)) only [go_sem, ↓reduceIte]
    refine call_by r1 ?_
    simp (config := { maxSteps := 1000000 }) (disch := first | omega | (simp only [go_sem]; omega)) only [go_sem, ↓reduceIte, c]
    simp [m0, mA, ints]
  rw [if_neg (by simp [c])] at hR
  obtain ⟨hm, hk⟩ := cx_len c
  have vl := valid_spec hm.va
  have vg := valid_spec hm.vb
  have l1 := hm.ln
  have l2 := hm.le
  have bd := validM_bd (mok.2 hm)
  have r2 := hi x c
  have r3 := hd x c
  have r4 := hr x.g.n.length x.m.n x.k.n (by omega) (by omega) hs.1 bd.1
  have r5 := hr x.g.e.length x.m.e x.k.e (by omega) (by omega) hs.2 bd.2
  have q1 := idL_len (im := x.m.n) (kn := x.k.n) (by omega)
  have q2 := idL_len (im := x.m.e) (kn := x.k.e) (by omega)
  have q3 := danL_len x
  rw [c] at r1
  clear hm hk bd vl l1 l2 c
  generalize idL x.m.n x.k.n = i1 at *
  generalize idL x.m.e x.k.e = i2 at *
  generalize cxDan x = d at *
  generalize restL x.g.n.length (goneL x.m.n x.k.n) = s1 at *
  generalize restL x.g.e.length (goneL x.m.e x.k.e) = s2 at *
  simp only [gD, mD, cxD] at *
  by_cases c1 : 0 < i1.length + i2.length
  · rw [if_pos c1] at hR
    rw [hR]
    have g1 : decide ((0 : Int) < (i1.length : Int) + i2.length) = true := decide_eq_true (by omega)
    simp (config := { maxSteps := 1000000 }) (disch := first | omega | (simp only [go_sem]; omega)) only [go_sem, ↓reduceIte]
    refine call_by r1 ?_
    simp (config := { maxSteps := 1000000 }) (disch := first | omega | (simp only [go_sem]; omega)) only [go_sem, ↓reduceIte]
    refine call_by r2 ?_
    simp (config := { maxSteps := 1000000 }) (disch := first | omega | (simp only [go_sem]; omega)) only [go_sem, ↓reduceIte, g1]
    simp [m0, mA, ints]
  rw [if_neg c1] at hR
  have g1 : decide ((0 : Int) < (i1.length : Int) + i2.length) = false := decide_eq_false (by omega)
  by_cases c2 : 0 < d.length
  · rw [if_pos c2] at hR
    rw [hR]
    have g2 : decide ((0 : Int) < (d.length : Int)) = true := decide_eq_true (by omega)
    simp (config := { maxSteps := 1000000 }) (disch := first | omega | (simp only [go_sem]; omega)) only [go_sem, ↓reduceIte]
    refine call_by r1 ?_
    simp (config := { maxSteps := 1000000 }) (disch := first | omega | (simp only [go_sem]; omega)) only [go_sem, ↓reduceIte]
    refine call_by r2 ?_
    simp (config := { maxSteps := 1000000 }) (disch := first | omega | (simp only [go_sem]; omega)) only [go_sem, ↓reduceIte, g1]
    refine call_by r3 ?_
    simp (config := { maxSteps := 1000000 }) (disch := first | omega | (simp only [go_sem]; omega)) only [go_sem, ↓reduceIte, g2]
    simp [m0, mA, ints]
  rw [if_neg c2] at hR
  rw [hR]
  have g2 : decide ((0 : Int) < (d.length : Int)) = false := decide_eq_false (by omega)
  simp (config := { maxSteps := 1000000 }) (disch := first | omega | (simp only [go_sem]; omega)) only [go_sem, ↓reduceIte]
  refine call_by r1 ?_
  simp (config := { maxSteps := 1000000 }) (disch := first | omega | (simp only [go_sem]; omega)) only [go_sem, ↓reduceIte]
  refine call_by r2 ?_
  simp (config := { maxSteps := 1000000 }) (disch := first | omega | (simp only [go_sem]; omega)) only [go_sem, ↓reduceIte, g1]
  refine call_by r3 ?_
  simp (config := { maxSteps := 1000000 }) (disch := first | omega | (simp only [go_sem]; omega)) only [go_sem, ↓reduceIte, g2]
  refine call_by r4 ?_
  simp (config := { maxSteps := 1000000 }) (disch := first | omega | (simp only [go_sem]; omega)) only [go_sem, ↓reduceIte]
  refine call_by r5 ?_
  simp (config := { maxSteps := 1000000 }) (disch := first | omega | (simp only [go_sem]; omega)) only [go_sem, ↓reduceIte]
  try rfl
set_option maxHeartbeats 1000000 in
theorem w_r12_Of (hg : K_r12_given P F) (hi : K_r12_identified P F) (hd : K_r12_dangling P F) (hgo : K_r12_gone P F) (hr : K_r12_rest P F) (x : Cx) (hs : x.sm) : W P (c_r12_Of F) (Done [.c 8 true 2, .t 9] [] (.tup [mA (cxR x).1, .int .i64 (cxR x).2]) []) (init [gD x.l, gD x.g, mD x.k, mD x.m]) := by
  refine W_of ?_
  have r1 := hg x hs
  have hR : cxR x = if cxE x ≠ 0 then (m0, cxE x) else if 0 < (idL x.m.n x.k.n).length + (idL x.m.e x.k.e).length then (m0, 15) else if 0 < (cxDan x).length then (m0, 14) else (⟨restL x.g.n.length (goneL x.m.n x.k.n), restL x.g.e.length (goneL x.m.e x.k.e)⟩, 0) := rfl
  by_cases c : cxE x = 0
  case neg =>
    rw [if_pos c] at hR
    rw [hR]
    generalize cxE x = v at *
    simp only [gD, mD, cxD] at *
    simp (config := { maxSteps := 1000000 }) (disch := first | omega | (simp only [go_sem]; omega)) only [go_sem, ↓reduceIte]
    refine call_by r1 ?_
    simp (config := { maxSteps := 1000000 }) (disch := first | omega | (simp only [go_sem]; omega)) only [go_sem, ↓reduceIte, c]
    simp [m0, mA, ints]
  rw [if_neg (by simp [c])] at hR
  obtain ⟨hm, hk⟩ := cx_len c
  have vl := valid_spec hm.va
  have vg := valid_spec hm.vb
  have l1 := hm.ln
  have l2 := hm.le
  have r2 := hi x.m.n x.k.n (by omega) hs.1
  have r2b := hi x.m.e x.k.e (by omega) hs.2
  have r3 := hd x c
  have g3 := hgo x.m.n x.k.n (by omega) hs.1
  have g4 := hgo x.m.e x.k.e (by omega) hs.2
  have gl1 := goneL_len x.m.n x.k.n
  have gl2 := goneL_len x.m.e x.k.e
  have r4 := hr x.g.n.length (goneL x.m.n x.k.n) (by omega) (by unfold maxL; omega)
  have r5 := hr x.g.e.length (goneL x.m.e x.k.e) (by omega) (by unfold maxL; omega)
  have q1 := idL_len (im := x.m.n) (kn := x.k.n) (by omega)
  have q2 := idL_len (im := x.m.e) (kn := x.k.e) (by omega)
  have q3 := danL_len x
  rw [c] at r1
  clear hm hk vl l1 l2 c
  generalize idL x.m.n x.k.n = i1 at *
  generalize idL x.m.e x.k.e = i2 at *
  generalize cxDan x = d at *
  generalize restL x.g.n.length (goneL x.m.n x.k.n) = s1 at *
  generalize restL x.g.e.length (goneL x.m.e x.k.e) = s2 at *
  generalize goneL x.m.n x.k.n = go1 at *
  generalize goneL x.m.e x.k.e = go2 at *
  simp only [gD, mD, cxD] at *
  by_cases c1 : 0 < i1.length + i2.length
  · rw [if_pos c1] at hR
    rw [hR]
    have g1 : decide ((0 : Int) < (i1.length : Int) + i2.length) = true := decide_eq_true (by omega)
    simp (config := { maxSteps := 1000000 }) (disch := first | omega | (simp only [go_sem]; omega)) only [go_sem, ↓reduceIte]
    refine call_by r1 ?_
    simp (config := { maxSteps := 1000000 }) (disch := first | omega | (simp only [go_sem]; omega)) only [go_sem, ↓reduceIte]
    refine call_by r2 ?_
    simp (config := { maxSteps := 1000000 }) (disch := first | omega | (simp only [go_sem]; omega)) only [go_sem, ↓reduceIte]
    refine call_by r2b ?_
    simp (config := { maxSteps := 1000000 }) (disch := first | omega | (simp only [go_sem]; omega)) only [go_sem, ↓reduceIte, g1]
    simp [m0, mA, ints]
  rw [if_neg c1] at hR
  have g1 : decide ((0 : Int) < (i1.length : Int) + i2.length) = false := decide_eq_false (by omega)
  by_cases c2 : 0 < d.length
  · rw [if_pos c2] at hR
    rw [hR]
    have g2 : decide ((0 : Int) < (d.length : Int)) = true := decide_eq_true (by omega)
    simp (config := { maxSteps := 1000000 }) (disch := first | omega | (simp only [go_sem]; omega)) only [go_sem, ↓reduceIte]
    refine call_by r1 ?_
    simp (config := { maxSteps := 1000000 }) (disch := first | omega | (simp only [go_sem]; omega)) only [go_sem, ↓reduceIte]
    refine call_by r2 ?_
    simp (config := { maxSteps := 1000000 }) (disch := first | omega | (simp only [go_sem]; omega)) only [go_sem, ↓reduceIte]
    refine call_by r2b ?_
    simp (config := { maxSteps := 1000000 }) (disch := first | omega | (simp only [go_sem]; omega)) only [go_sem, ↓reduceIte, g1]
    refine call_by r3 ?_
    simp (config := { maxSteps := 1000000 }) (disch := first | omega | (simp only [go_sem]; omega)) only [go_sem, ↓reduceIte, g2]
    simp [m0, mA, ints]
  rw [if_neg c2] at hR
  rw [hR]
  have g2 : decide ((0 : Int) < (d.length : Int)) = false := decide_eq_false (by omega)
  simp (config := { maxSteps := 1000000 }) (disch := first | omega | (simp only [go_sem]; omega)) only [go_sem, ↓reduceIte]
  refine call_by r1 ?_
  simp (config := { maxSteps := 1000000 }) (disch := first | omega | (simp only [go_sem]; omega)) only [go_sem, ↓reduceIte]
  refine call_by r2 ?_
  simp (config := { maxSteps := 1000000 }) (disch := first | omega | (simp only [go_sem]; omega)) only [go_sem, ↓reduceIte]
  refine call_by r2b ?_
  simp (config := { maxSteps := 1000000 }) (disch := first | omega | (simp only [go_sem]; omega)) only [go_sem, ↓reduceIte, g1]
  refine call_by r3 ?_
  simp (config := { maxSteps := 1000000 }) (disch := first | omega | (simp only [go_sem]; omega)) only [go_sem, ↓reduceIte, g2]
  refine call_by g3 ?_
  simp (config := { maxSteps := 1000000 }) (disch := first | omega | (simp only [go_sem]; omega)) only [go_sem, ↓reduceIte]
  refine call_by r4 ?_
  simp (config := { maxSteps := 1000000 }) (disch := first | omega | (simp only [go_sem]; omega)) only [go_sem, ↓reduceIte]
  refine call_by g4 ?_
  simp (config := { maxSteps := 1000000 }) (disch := first | omega | (simp only [go_sem]; omega)) only [go_sem, ↓reduceIte]
  refine call_by r5 ?_
  simp (config := { maxSteps := 1000000 }) (disch := first | omega | (simp only [go_sem]; omega)) only [go_sem, ↓reduceIte]
  try rfl
theorem cxR_len (x : Cx) : (cxR x).1.n.length ≤ 40 ∧ (cxR x).1.e.length ≤ 80 := by
  unfold cxR
  split
  · simp [m0]
  rename_i c
  obtain ⟨hm, hk⟩ := cx_len (Decidable.not_not.1 c)
  have vg := valid_spec hm.vb
  split
  · simp [m0]
  split
  · simp [m0]
  have a := sel_len (fun i : Nat => !decide ((i : Int) ∈ goneL x.m.n x.k.n)) x.g.n.length
  have b := sel_len (fun i : Nat => !decide ((i : Int) ∈ goneL x.m.e x.k.e)) x.g.e.length
  simp only [restL]
  omega
theorem w_complement_Check (ho : K_complement_Of P F) (he : K_slices_Equal_I P F) (x : Cx) (d : Mo) (hs : x.sm) : W P (c_complement_Check F) (Done [.t 10] [] (.bool (cxC x d)) []) (init [gD x.l, gD x.g, mD x.k, mD x.m, mD d]) := by
  refine W_of ?_
  have r1 := ho x hs
  have hl := cxR_len x
  have r2 := he (cxR x).1.n d.n (by unfold maxL; omega)
  have r3 := he (cxR x).1.e d.e (by unfold maxL; omega)
  have hC : cxC x d = (decide ((cxR x).2 = 0) && (decide ((cxR x).1.n = d.n) && decide ((cxR x).1.e = d.e))) := rfl
  rw [hC]
  generalize decide ((cxR x).1.n = d.n) = b1 at *
  generalize decide ((cxR x).1.e = d.e) = b2 at *
  generalize cxR x = R at *
  obtain ⟨⟨rn, re⟩, v⟩ := R
  simp only [gD, mD, mA] at *
  by_cases c : v = 0
  · subst c
    simp (config := { maxSteps := 1000000 }) (disch := first | omega | (simp only [go_sem]; omega)) only [go_sem, ↓reduceIte]
    refine call_by r1 ?_
    simp (config := { maxSteps := 1000000 }) (disch := first | omega | (simp only [go_sem]; omega)) only [go_sem, ↓reduceIte]
    refine call_by r2 ?_
    cases b1
    · simp (config := { maxSteps := 1000000 }) (disch := first | omega | (simp only [go_sem]; omega)) only [go_sem, ↓reduceIte]
      try simp
    · simp (config := { maxSteps := 1000000 }) (disch := first | omega | (simp only [go_sem]; omega)) only [go_sem, ↓reduceIte]
      refine call_by r3 ?_
      simp (config := { maxSteps := 1000000 }) (disch := first | omega | (simp only [go_sem]; omega)) only [go_sem, ↓reduceIte]
      try simp
  · rw [decide_eq_false c]
    simp (config := { maxSteps := 1000000 }) (disch := first | omega | (simp only [go_sem]; omega)) only [go_sem, ↓reduceIte]
    refine call_by r1 ?_
    simp (config := { maxSteps := 1000000 }) (disch := first | omega | (simp only [go_sem]; omega)) only [go_sem, ↓reduceIte, c]
    try simp
theorem w_r12_Check (ho : K_r12_Of P F) (he : K_r05_SameInts P F) (x : Cx) (d : Mo) (hs : x.sm) : W P (c_r12_Check F) (Done [.t 10] [] (.bool (cxC x d)) []) (init [gD x.l, gD x.g, mD x.k, mD x.m, mD d]) := by
  refine W_of ?_
  have r1 := ho x hs
  have hl := cxR_len x
  have r2 := he (cxR x).1.n d.n (by unfold maxL; omega)
  have r3 := he (cxR x).1.e d.e (by unfold maxL; omega)
  have hC : cxC x d = (decide ((cxR x).2 = 0) && (decide ((cxR x).1.n = d.n) && decide ((cxR x).1.e = d.e))) := rfl
  rw [hC]
  generalize decide ((cxR x).1.n = d.n) = b1 at *
  generalize decide ((cxR x).1.e = d.e) = b2 at *
  generalize cxR x = R at *
  obtain ⟨⟨rn, re⟩, v⟩ := R
  simp only [gD, mD, mA] at *
  by_cases c : v = 0
  · subst c
    simp (config := { maxSteps := 1000000 }) (disch := first | omega | (simp only [go_sem]; omega)) only [go_sem, ↓reduceIte]
    refine call_by r1 ?_
    simp (config := { maxSteps := 1000000 }) (disch := first | omega | (simp only [go_sem]; omega)) only [go_sem, ↓reduceIte]
    refine call_by r2 ?_
    cases b1
    · simp (config := { maxSteps := 1000000 }) (disch := first | omega | (simp only [go_sem]; omega)) only [go_sem, ↓reduceIte]
      try simp
    · simp (config := { maxSteps := 1000000 }) (disch := first | omega | (simp only [go_sem]; omega)) only [go_sem, ↓reduceIte]
      refine call_by r3 ?_
      simp (config := { maxSteps := 1000000 }) (disch := first | omega | (simp only [go_sem]; omega)) only [go_sem, ↓reduceIte]
      try simp
  · rw [decide_eq_false c]
    simp (config := { maxSteps := 1000000 }) (disch := first | omega | (simp only [go_sem]; omega)) only [go_sem, ↓reduceIte]
    refine call_by r1 ?_
    simp (config := { maxSteps := 1000000 }) (disch := first | omega | (simp only [go_sem]; omega)) only [go_sem, ↓reduceIte, c]
    try simp
end
end Go.Am
