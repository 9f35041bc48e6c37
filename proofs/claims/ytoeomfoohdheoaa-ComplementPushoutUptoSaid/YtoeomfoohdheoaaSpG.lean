/- Chapter 12: the example; the laws Violations, Of, Check, Repair. -/
import Derived.Test.YtoeomfoohdheoaaSpF
namespace Go.Am
open Go
set_option linter.unusedVariables false
set_option linter.unusedSimpArgs false
attribute [local irreducible] W
/- l12.awake -/
def c_l12_awake_r0 (F : String → Nat) : List LI := [⟨some 0, .mov (.k (.bool false)), none⟩]
def c_l12_awake_r1 (F : String → Nat) : List LI := [⟨some 10, .buildSl 1 8 (.int .i64 (0)) 2 [(0, .k (.int .i64 (0))), (1, .k (.int .i64 (0)))], none⟩,
  ⟨some 11, .build [.int .i64 (0), .int .i64 (0), .int .i64 (0)] [(1, 1, .k (.int .i64 (0))), (2, 1, .k (.int .i64 (1)))], none⟩,
  ⟨some 12, .buildSl 3 24 (.agg [.int .i64 (0), .int .i64 (0), .int .i64 (0)]) 1 [(0, .t 11)], none⟩,
  ⟨some 13, .build [.nl 1, .nl 3] [(0, 1, .t 10), (1, 1, .t 12)], none⟩,
  ⟨some 1, .alloc [.nl 1, .nl 3], none⟩,
  ⟨none, .store 2 (.t 1) (.t 13), none⟩]
def c_l12_awake_r2 (F : String → Nat) : List LI := [⟨some 14, .buildSl 1 8 (.int .i64 (0)) 3 [(0, .k (.int .i64 (0))), (1, .k (.int .i64 (0))), (2, .k (.int .i64 (0)))], none⟩,
  ⟨some 15, .build [.int .i64 (0), .int .i64 (0), .int .i64 (0)] [(1, 1, .k (.int .i64 (0))), (2, 1, .k (.int .i64 (1)))], none⟩,
  ⟨some 16, .build [.int .i64 (0), .int .i64 (0), .int .i64 (0)] [(1, 1, .k (.int .i64 (2))), (2, 1, .k (.int .i64 (1)))], none⟩,
  ⟨some 17, .buildSl 3 24 (.agg [.int .i64 (0), .int .i64 (0), .int .i64 (0)]) 2 [(0, .t 15), (1, .t 16)], none⟩,
  ⟨some 18, .build [.nl 1, .nl 3] [(0, 1, .t 14), (1, 1, .t 17)], none⟩,
  ⟨some 2, .alloc [.nl 1, .nl 3], none⟩,
  ⟨none, .store 2 (.t 2) (.t 18), none⟩]
def c_l12_awake_r3 (F : String → Nat) : List LI := [⟨some 19, .buildSl 1 8 (.int .i64 (0)) 2 [(0, .k (.int .i64 (0))), (1, .k (.int .i64 (1)))], none⟩,
  ⟨some 20, .buildSl 1 8 (.int .i64 (0)) 1 [(0, .k (.int .i64 (0)))], none⟩,
  ⟨some 21, .build [.nl 1, .nl 1] [(0, 1, .t 19), (1, 1, .t 20)], none⟩,
  ⟨some 3, .alloc [.nl 1, .nl 1], none⟩,
  ⟨none, .store 2 (.t 3) (.t 21), none⟩]
def c_l12_awake_r4 (F : String → Nat) : List LI := [⟨some 23, .load true 2 (.t 1), none⟩,
  ⟨some 24, .load true 2 (.t 2), none⟩,
  ⟨some 25, .buildSl 1 8 (.int .i64 (0)) 2 [(0, .k (.int .i64 (0))), (1, .k (.int .i64 (1)))], none⟩,
  ⟨some 26, .build [.nl 1, .nl 1] [(0, 1, .t 25)], none⟩,
  ⟨some 27, .load true 2 (.t 3), none⟩,
  ⟨some 28, .call (F "complement.Of") [.t 23, .t 24, .t 26, .t 27] [], none⟩,
  ⟨some 22, .mov (.t 28), none⟩,
  ⟨some 29, .ext (.t 22) 0, none⟩,
  ⟨some 30, .ext (.t 22) 1, none⟩,
  ⟨some 4, .alloc [.nl 1, .nl 1], none⟩,
  ⟨none, .store 2 (.t 4) (.t 29), none⟩,
  ⟨some 5, .mov (.t 30), none⟩]
def c_l12_awake_r5 (F : String → Nat) : List LI := [⟨some 32, .load true 2 (.t 1), none⟩,
  ⟨some 33, .load true 2 (.t 2), none⟩,
  ⟨some 34, .buildSl 1 8 (.int .i64 (0)) 1 [(0, .k (.int .i64 (0)))], none⟩,
  ⟨some 35, .build [.nl 1, .nl 1] [(0, 1, .t 34)], none⟩,
  ⟨some 36, .load true 2 (.t 3), none⟩,
  ⟨some 37, .call (F "complement.Dangling") [.t 32, .t 33, .t 35, .t 36] [], none⟩,
  ⟨some 31, .mov (.t 37), none⟩,
  ⟨some 38, .ext (.t 31) 0, none⟩,
  ⟨some 39, .ext (.t 31) 1, none⟩,
  ⟨some 6, .mov (.t 38), none⟩,
  ⟨some 7, .mov (.t 39), none⟩]
def c_l12_awake_r6 (F : String → Nat) : List LI := [⟨some 41, .load true 2 (.t 1), none⟩,
  ⟨some 42, .load true 2 (.t 2), none⟩,
  ⟨some 43, .buildSl 1 8 (.int .i64 (0)) 1 [(0, .k (.int .i64 (0)))], none⟩,
  ⟨some 44, .build [.nl 1, .nl 1] [(0, 1, .t 43)], none⟩,
  ⟨some 45, .load true 2 (.t 3), none⟩,
  ⟨some 46, .call (F "complement.Repair") [.t 41, .t 42, .t 44, .t 45] [], none⟩,
  ⟨some 40, .mov (.t 46), none⟩,
  ⟨some 47, .ext (.t 40) 0, none⟩,
  ⟨some 48, .ext (.t 40) 1, none⟩,
  ⟨some 8, .alloc [.nl 1, .nl 1], none⟩,
  ⟨none, .store 2 (.t 8) (.t 47), none⟩,
  ⟨some 9, .mov (.t 48), none⟩]
def c_l12_awake_r7 (F : String → Nat) : List LI := [⟨some 49, .mov (.t 5), none⟩,
  ⟨some 50, .bin .eql (.t 49) (.k (.int .i64 (0))), none⟩,
  ⟨some 51, .mov (.t 50), none⟩,
  ⟨some 52, .load true 2 (.t 4), some (51, true)⟩,
  ⟨some 53, .buildSl 1 8 (.int .i64 (0)) 3 [(0, .k (.int .i64 (0))), (1, .k (.int .i64 (1))), (2, .k (.int .i64 (2)))], some (51, true)⟩,
  ⟨some 54, .buildSl 1 8 (.int .i64 (0)) 1 [(0, .k (.int .i64 (1)))], some (51, true)⟩,
  ⟨some 55, .build [.nl 1, .nl 1] [(0, 1, .t 53), (1, 1, .t 54)], some (51, true)⟩,
  ⟨some 56, .call (F "r07.Same") [.t 52, .t 55] [], some (51, true)⟩,
  ⟨some 57, .pick (.t 51) (.t 56) (.k (.bool false)), none⟩,
  ⟨some 58, .mov (.t 57), none⟩,
  ⟨some 59, .mov (.t 7), some (58, true)⟩,
  ⟨some 60, .bin .eql (.t 59) (.k (.int .i64 (0))), some (58, true)⟩,
  ⟨some 61, .pick (.t 58) (.t 60) (.k (.bool false)), none⟩,
  ⟨some 62, .mov (.t 61), none⟩,
  ⟨some 63, .mov (.t 6), some (62, true)⟩,
  ⟨some 64, .buildSl 1 8 (.int .i64 (0)) 1 [(0, .k (.int .i64 (1)))], some (62, true)⟩,
  ⟨some 65, .call (F "slices.Equal.I") [.t 63, .t 64] [], some (62, true)⟩,
  ⟨some 66, .pick (.t 62) (.t 65) (.k (.bool false)), none⟩,
  ⟨some 67, .mov (.t 66), none⟩,
  ⟨some 68, .mov (.t 9), some (67, true)⟩,
  ⟨some 69, .bin .eql (.t 68) (.k (.int .i64 (0))), some (67, true)⟩,
  ⟨some 70, .pick (.t 67) (.t 69) (.k (.bool false)), none⟩,
  ⟨some 71, .mov (.t 70), none⟩,
  ⟨some 72, .load true 2 (.t 8), some (71, true)⟩,
  ⟨some 73, .buildSl 1 8 (.int .i64 (0)) 2 [(0, .k (.int .i64 (0))), (1, .k (.int .i64 (1)))], some (71, true)⟩,
  ⟨some 74, .build [.nl 1, .nl 1] [(0, 1, .t 73)], some (71, true)⟩,
  ⟨some 75, .call (F "r07.Same") [.t 72, .t 74] [], some (71, true)⟩,
  ⟨some 76, .pick (.t 71) (.t 75) (.k (.bool false)), none⟩,
  ⟨some 0, .mov (.t 76), none⟩]
def c_l12_awake (F : String → Nat) : LC := (.seq (.reg (c_l12_awake_r0 F) []) (.seq (.reg (c_l12_awake_r1 F) [1]) (.seq (.reg (c_l12_awake_r2 F) [1, 2]) (.seq (.reg (c_l12_awake_r3 F) [1, 2, 3]) (.seq (.reg (c_l12_awake_r4 F) [1, 2, 3, 4, 5]) (.seq (.reg (c_l12_awake_r5 F) [1, 2, 3, 4, 5, 6, 7]) (.seq (.reg (c_l12_awake_r6 F) [4, 5, 6, 7, 8, 9]) (.seq (.reg (c_l12_awake_r7 F) [0]) .ret))))))))
def h_l12_awake : Hints := ⟨[], fun _ => [], tab [(0, []), (1, [1]), (2, [1, 2]), (3, [1, 2, 3]), (4, [1, 2, 3, 4, 5]), (5, [1, 2, 3, 4, 5, 6, 7]), (6, [4, 5, 6, 7, 8, 9]), (7, [0])], tab []⟩

attribute [go_sem] c_l12_awake_r0 c_l12_awake_r1 c_l12_awake_r2 c_l12_awake_r3 c_l12_awake_r4 c_l12_awake_r5 c_l12_awake_r6 c_l12_awake_r7 c_l12_awake
section
variable (P : Program) (F : String → Nat)
def K_l12_awake : Prop := FC P (F "l12.awake") [] (.bool true) []
end
section
variable {P : Program} {F : String → Nat} {α : Type}
def exC (k : Mo) : Cx := ⟨⟨[0, 0], [⟨0, 0, 1⟩]⟩, ⟨[0, 0, 0], [⟨0, 0, 1⟩, ⟨0, 2, 1⟩]⟩, k, ⟨[0, 1], [0]⟩⟩
set_option maxRecDepth 100000 in
theorem w_l12_awake (ho : K_complement_Of P F) (hd : K_complement_Dangling P F) (hr : K_complement_Repair P F) (hs : K_r07_Same P F) (he : K_slices_Equal_I P F) : W P (c_l12_awake F) (Done [.t 0] [] (.bool true) []) (init []) := by
  refine W_of ?_
  have r1 := ho (exC ⟨[0, 1], []⟩) ⟨by decide, by decide⟩
  rw [show cxR (exC ⟨[0, 1], []⟩) = (⟨[0, 1, 2], [1]⟩, 0) by decide +kernel] at r1
  have r2 := hd (exC ⟨[0], []⟩) ⟨by decide, by decide⟩
  rw [show cxDr (exC ⟨[0], []⟩) = [1] by decide +kernel, show cxE (exC ⟨[0], []⟩) = 0 by decide +kernel] at r2
  have r3 := hr (exC ⟨[0], []⟩) ⟨by decide, by decide⟩
  rw [show repR (exC ⟨[0], []⟩) = (⟨[0, 1], []⟩, 0) by decide +kernel] at r3
  have s1 := hs ⟨[0, 1, 2], [1]⟩ ⟨[0, 1, 2], [1]⟩ (by decide) (by decide)
  have s2 := he [1] [1] (by decide)
  have s3 := hs ⟨[0, 1], []⟩ ⟨[0, 1], []⟩ (by decide) (by decide)
  simp only [exC, gD, mD, mA] at *
  simp (config := { maxSteps := 1000000 }) (disch := first | omega | (simp only [go_sem]; omega)) only [go_sem, ↓reduceIte]
  refine call_by r1 ?_
  simp (config := { maxSteps := 1000000 }) (disch := first | omega | (simp only [go_sem]; omega)) only [go_sem, ↓reduceIte, Int.cast_ofNat_Int, eq_self]
  refine call_by r2 ?_
  simp (config := { maxSteps := 1000000 }) (disch := first | omega | (simp only [go_sem]; omega)) only [go_sem, ↓reduceIte, Int.cast_ofNat_Int, eq_self]
  refine call_by r3 ?_
  simp (config := { maxSteps := 1000000 }) (disch := first | omega | (simp only [go_sem]; omega)) only [go_sem, ↓reduceIte, Int.cast_ofNat_Int, eq_self]
  refine call_by s1 ?_
  simp (config := { maxSteps := 1000000 }) (disch := first | omega | (simp only [go_sem]; omega)) only [go_sem, ↓reduceIte]
  refine call_by s2 ?_
  simp (config := { maxSteps := 1000000 }) (disch := first | omega | (simp only [go_sem]; omega)) only [go_sem, ↓reduceIte]
  refine call_by s3 ?_
  simp (config := { maxSteps := 1000000 }) (disch := first | omega | (simp only [go_sem]; omega)) only [go_sem, ↓reduceIte]
end
end Go.Am
