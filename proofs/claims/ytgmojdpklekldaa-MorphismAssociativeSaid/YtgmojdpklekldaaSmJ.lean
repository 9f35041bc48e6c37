/- Chapter 6: the example's check; what its laws take. -/
import Derived.Test.YtgmojdpklekldaaSmG
import Derived.Test.YtgmojdpklekldaaSmE
namespace Go.Am
open Go
set_option linter.unusedVariables false
set_option linter.unusedSimpArgs false
attribute [local irreducible] W
/- l06.awake -/
def c_l06_awake_r0 (F : String → Nat) : List LI := [⟨some 0, .mov (.k (.bool false)), none⟩]
def c_l06_awake_r1 (F : String → Nat) : List LI := [⟨some 9, .buildSl 1 8 (.int .i64 (0)) 2 [(0, .k (.int .i64 (0))), (1, .k (.int .i64 (0)))], none⟩,
  ⟨some 10, .build [.int .i64 (0), .int .i64 (0), .int .i64 (0)] [(1, 1, .k (.int .i64 (0))), (2, 1, .k (.int .i64 (1)))], none⟩,
  ⟨some 11, .buildSl 3 24 (.agg [.int .i64 (0), .int .i64 (0), .int .i64 (0)]) 1 [(0, .t 10)], none⟩,
  ⟨some 12, .build [.nl 1, .nl 3] [(0, 1, .t 9), (1, 1, .t 11)], none⟩,
  ⟨some 1, .alloc [.nl 1, .nl 3], none⟩,
  ⟨none, .store 2 (.t 1) (.t 12), none⟩]
def c_l06_awake_r2 (F : String → Nat) : List LI := [⟨some 13, .buildSl 1 8 (.int .i64 (0)) 1 [(0, .k (.int .i64 (0)))], none⟩,
  ⟨some 14, .build [.int .i64 (0), .int .i64 (0), .int .i64 (0)] [(1, 1, .k (.int .i64 (0))), (2, 1, .k (.int .i64 (0)))], none⟩,
  ⟨some 15, .buildSl 3 24 (.agg [.int .i64 (0), .int .i64 (0), .int .i64 (0)]) 1 [(0, .t 14)], none⟩,
  ⟨some 16, .build [.nl 1, .nl 3] [(0, 1, .t 13), (1, 1, .t 15)], none⟩,
  ⟨some 2, .alloc [.nl 1, .nl 3], none⟩,
  ⟨none, .store 2 (.t 2) (.t 16), none⟩]
def c_l06_awake_r3 (F : String → Nat) : List LI := [⟨some 18, .load true 2 (.t 1), none⟩,
  ⟨some 19, .load true 2 (.t 2), none⟩,
  ⟨some 20, .call (F "morphism.All") [.t 18, .t 19] [], none⟩,
  ⟨some 17, .mov (.t 20), none⟩,
  ⟨some 21, .ext (.t 17) 0, none⟩,
  ⟨some 22, .ext (.t 17) 1, none⟩,
  ⟨some 3, .mov (.t 21), none⟩,
  ⟨some 4, .mov (.t 22), none⟩]
def c_l06_awake_r4 (F : String → Nat) : List LI := [⟨some 24, .load true 2 (.t 2), none⟩,
  ⟨some 25, .load true 2 (.t 1), none⟩,
  ⟨some 26, .call (F "morphism.All") [.t 24, .t 25] [], none⟩,
  ⟨some 23, .mov (.t 26), none⟩,
  ⟨some 27, .ext (.t 23) 0, none⟩,
  ⟨some 28, .ext (.t 23) 1, none⟩,
  ⟨some 5, .mov (.t 27), none⟩,
  ⟨some 6, .mov (.t 28), none⟩]
def c_l06_awake_r5 (F : String → Nat) : List LI := [⟨some 30, .load true 2 (.t 1), none⟩,
  ⟨some 31, .load true 2 (.t 1), none⟩,
  ⟨some 32, .call (F "morphism.All") [.t 30, .t 31] [], none⟩,
  ⟨some 29, .mov (.t 32), none⟩,
  ⟨some 33, .ext (.t 29) 0, none⟩,
  ⟨some 34, .ext (.t 29) 1, none⟩,
  ⟨some 7, .mov (.t 33), none⟩,
  ⟨some 8, .mov (.t 34), none⟩]
def c_l06_awake_r6 (F : String → Nat) : List LI := [⟨some 35, .mov (.t 4), none⟩,
  ⟨some 36, .bin .neq (.t 35) (.k (.int .i64 (0))), none⟩,
  ⟨some 37, .mov (.t 36), none⟩,
  ⟨some 38, .mov (.t 6), some (37, false)⟩,
  ⟨some 39, .bin .neq (.t 38) (.k (.int .i64 (0))), some (37, false)⟩,
  ⟨some 40, .pick (.t 37) (.k (.bool true)) (.t 39), none⟩,
  ⟨some 41, .mov (.t 40), none⟩,
  ⟨some 42, .mov (.t 8), some (41, false)⟩,
  ⟨some 43, .bin .neq (.t 42) (.k (.int .i64 (0))), some (41, false)⟩,
  ⟨some 44, .pick (.t 41) (.k (.bool true)) (.t 43), none⟩,
  ⟨some 45, .mov (.t 44), none⟩,
  ⟨some 46, .mov (.t 3), some (45, false)⟩,
  ⟨some 47, .len (.t 46), some (45, false)⟩,
  ⟨some 48, .bin .neq (.t 47) (.k (.int .i64 (1))), some (45, false)⟩,
  ⟨some 49, .pick (.t 45) (.k (.bool true)) (.t 48), none⟩,
  ⟨some 50, .mov (.t 49), none⟩,
  ⟨some 51, .mov (.t 5), some (50, false)⟩,
  ⟨some 52, .len (.t 51), some (50, false)⟩,
  ⟨some 53, .bin .neq (.t 52) (.k (.int .i64 (0))), some (50, false)⟩,
  ⟨some 54, .pick (.t 50) (.k (.bool true)) (.t 53), none⟩,
  ⟨some 55, .mov (.t 54), none⟩,
  ⟨some 56, .mov (.t 7), some (55, false)⟩,
  ⟨some 57, .len (.t 56), some (55, false)⟩,
  ⟨some 58, .bin .neq (.t 57) (.k (.int .i64 (1))), some (55, false)⟩,
  ⟨some 59, .pick (.t 55) (.k (.bool true)) (.t 58), none⟩]
def c_l06_awake_r7 (F : String → Nat) : List LI := [⟨some 0, .mov (.k (.bool false)), none⟩]
def c_l06_awake_r8 (F : String → Nat) : List LI := [⟨some 60, .mov (.t 3), none⟩,
  ⟨some 61, .iad 2 (.t 60) (.k (.int .i64 (0))), none⟩,
  ⟨some 62, .load true 2 (.t 61), none⟩,
  ⟨some 63, .buildSl 1 8 (.int .i64 (0)) 2 [(0, .k (.int .i64 (0))), (1, .k (.int .i64 (0)))], none⟩,
  ⟨some 64, .buildSl 1 8 (.int .i64 (0)) 1 [(0, .k (.int .i64 (0)))], none⟩,
  ⟨some 65, .build [.nl 1, .nl 1] [(0, 1, .t 63), (1, 1, .t 64)], none⟩,
  ⟨some 66, .call (F "morphism.Same") [.t 62, .t 65] [], none⟩,
  ⟨some 67, .mov (.t 66), none⟩,
  ⟨some 68, .load true 2 (.t 1), some (67, true)⟩,
  ⟨some 69, .load true 2 (.t 2), some (67, true)⟩,
  ⟨some 70, .mov (.t 3), some (67, true)⟩,
  ⟨some 71, .iad 2 (.t 70) (.k (.int .i64 (0))), some (67, true)⟩,
  ⟨some 72, .load true 2 (.t 71), some (67, true)⟩,
  ⟨some 73, .call (F "morphism.Surjective") [.t 68, .t 69, .t 72] [], some (67, true)⟩,
  ⟨some 74, .pick (.t 67) (.t 73) (.k (.bool false)), none⟩,
  ⟨some 75, .mov (.t 74), none⟩,
  ⟨some 76, .load true 2 (.t 1), some (75, true)⟩,
  ⟨some 77, .load true 2 (.t 2), some (75, true)⟩,
  ⟨some 78, .mov (.t 3), some (75, true)⟩,
  ⟨some 79, .iad 2 (.t 78) (.k (.int .i64 (0))), some (75, true)⟩,
  ⟨some 80, .load true 2 (.t 79), some (75, true)⟩,
  ⟨some 81, .call (F "morphism.Injective") [.t 76, .t 77, .t 80] [], some (75, true)⟩,
  ⟨some 82, .not (.t 81), some (75, true)⟩,
  ⟨some 83, .pick (.t 75) (.t 82) (.k (.bool false)), none⟩,
  ⟨some 0, .mov (.t 83), none⟩]
def c_l06_awake (F : String → Nat) : LC := (.seq (.reg (c_l06_awake_r0 F) []) (.seq (.reg (c_l06_awake_r1 F) [1]) (.seq (.reg (c_l06_awake_r2 F) [1, 2]) (.seq (.reg (c_l06_awake_r3 F) [1, 2, 3, 4]) (.seq (.reg (c_l06_awake_r4 F) [1, 2, 3, 4, 5, 6]) (.seq (.reg (c_l06_awake_r5 F) [1, 2, 3, 4, 5, 6, 7, 8]) (.seq (.seq (.reg (c_l06_awake_r6 F) [1, 2, 3, 59]) (.cond (.t 59) (.seq (.reg (c_l06_awake_r7 F) [0]) .ret) .skip)) (.seq (.dreg [(1, none, [], true), (2, none, [], true), (3, none, [1, 2], true), (4, (some 0), [1, 2, 3], false)] (c_l06_awake_r8 F) [0]) .ret))))))))
def h_l06_awake : Hints := ⟨[], fun _ => [], tab [(0, []), (1, [1]), (2, [1, 2]), (3, [1, 2, 3, 4]), (4, [1, 2, 3, 4, 5, 6]), (5, [1, 2, 3, 4, 5, 6, 7, 8]), (6, [1, 2, 3, 59]), (7, [0]), (8, [0])], tab []⟩

attribute [go_sem] c_l06_awake_r0 c_l06_awake_r1 c_l06_awake_r2 c_l06_awake_r3 c_l06_awake_r4 c_l06_awake_r5 c_l06_awake_r6 c_l06_awake_r7 c_l06_awake_r8 c_l06_awake
section
variable (P : Program) (F : String → Nat)
def K_l06_awake : Prop := FC P (F "l06.awake") [] (.bool true) []
end
section
variable {P : Program} {F : String → Nat} {α : Type}
theorem w_l06_awake (ha : K_morphism_All P F) (hs : K_morphism_Same P F) (hj : K_morphism_Surjective P F) (hi : K_morphism_Injective P F) : W P (c_l06_awake F) (Done [.t 0] [] (.bool true) []) (init []) := by
  refine W_of ?_
  have r1 := ha ⟨[0, 0], [⟨0, 0, 1⟩]⟩ ⟨[0], [⟨0, 0, 0⟩]⟩
  rw [show allM ⟨[0, 0], [⟨0, 0, 1⟩]⟩ ⟨[0], [⟨0, 0, 0⟩]⟩ = [⟨[0, 0], [0]⟩] by decide +kernel, show allErr ⟨[0, 0], [⟨0, 0, 1⟩]⟩ ⟨[0], [⟨0, 0, 0⟩]⟩ = 0 by decide +kernel] at r1
  have r2 := ha ⟨[0], [⟨0, 0, 0⟩]⟩ ⟨[0, 0], [⟨0, 0, 1⟩]⟩
  rw [show allM ⟨[0], [⟨0, 0, 0⟩]⟩ ⟨[0, 0], [⟨0, 0, 1⟩]⟩ = [] by decide +kernel, show allErr ⟨[0], [⟨0, 0, 0⟩]⟩ ⟨[0, 0], [⟨0, 0, 1⟩]⟩ = 0 by decide +kernel] at r2
  have r3 := ha ⟨[0, 0], [⟨0, 0, 1⟩]⟩ ⟨[0, 0], [⟨0, 0, 1⟩]⟩
  rw [show allM ⟨[0, 0], [⟨0, 0, 1⟩]⟩ ⟨[0, 0], [⟨0, 0, 1⟩]⟩ = [⟨[0, 1], [0]⟩] by decide +kernel, show allErr ⟨[0, 0], [⟨0, 0, 1⟩]⟩ ⟨[0, 0], [⟨0, 0, 1⟩]⟩ = 0 by decide +kernel] at r3
  have r4 := hs ⟨[0, 0], [0]⟩ ⟨[0, 0], [0]⟩ (by decide) (by decide)
  have r5 := hj ⟨[0, 0], [⟨0, 0, 1⟩]⟩ ⟨[0], [⟨0, 0, 0⟩]⟩ ⟨[0, 0], [0]⟩
  rw [show surM ⟨[0, 0], [⟨0, 0, 1⟩]⟩ ⟨[0], [⟨0, 0, 0⟩]⟩ ⟨[0, 0], [0]⟩ = true by decide +kernel] at r5
  have r6 := hi ⟨[0, 0], [⟨0, 0, 1⟩]⟩ ⟨[0], [⟨0, 0, 0⟩]⟩ ⟨[0, 0], [0]⟩
  rw [show injM ⟨[0, 0], [⟨0, 0, 1⟩]⟩ ⟨[0], [⟨0, 0, 0⟩]⟩ ⟨[0, 0], [0]⟩ = false by decide +kernel] at r6
  simp only [gD, mD, pts, List.map_cons, List.map_nil] at *
  simp (config := { maxSteps := 1000000 }) (disch := first | omega | (simp only [go_sem]; omega)) only [go_sem, ↓reduceIte]
  refine call_fz r1 ?_
  simp (config := { maxSteps := 1000000 }) (disch := first | omega | (simp only [go_sem]; omega)) only [go_sem, ↓reduceIte]
  refine call_fz r2 ?_
  simp (config := { maxSteps := 1000000 }) (disch := first | omega | (simp only [go_sem]; omega)) only [go_sem, ↓reduceIte]
  refine call_fz r3 ?_
  simp (config := { maxSteps := 1000000 }) (disch := first | omega | (simp only [go_sem]; omega)) only [go_sem, ↓reduceIte, Int.cast_ofNat_Int, eq_self]
  refine call_by r4 ?_
  simp (config := { maxSteps := 1000000 }) (disch := first | omega | (simp only [go_sem]; omega)) only [go_sem, ↓reduceIte]
  refine call_by r5 ?_
  simp (config := { maxSteps := 1000000 }) (disch := first | omega | (simp only [go_sem]; omega)) only [go_sem, ↓reduceIte]
  refine call_by r6 ?_
  simp (config := { maxSteps := 1000000 }) (disch := first | omega | (simp only [go_sem]; omega)) only [go_sem, ↓reduceIte]
end
end Go.Am
