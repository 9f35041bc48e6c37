/- slices.Clone. -/
import Derived.Test.YtfkkngepnnkloaaSkA
namespace Go.Am
open Go
set_option linter.unusedVariables false
set_option linter.unusedSimpArgs false
/- slices.Clone.E -/
def c_slices_Clone_E_r0 (F : String → Nat) : List LI := [⟨some 2, .mov (.k (.nl 3)), none⟩]
def c_slices_Clone_E_r1 (F : String → Nat) : List LI := [⟨some 3, .mov (.t 0), none⟩,
  ⟨some 4, .isnil false (.t 3), none⟩]
def c_slices_Clone_E_r2 (F : String → Nat) : List LI := [⟨some 2, .mov (.k (.nl 3)), none⟩]
def c_slices_Clone_E_r3 (F : String → Nat) : List LI := [⟨some 5, .buildSl 3 24 (.agg [.int .i64 (0), .int .i64 (0), .int .i64 (0)]) 0 [], none⟩,
  ⟨some 6, .mov (.t 0), none⟩,
  ⟨some 7, .app 3 24 (.t 5) (.t 6), none⟩,
  ⟨some 2, .mov (.t 7), none⟩]
def c_slices_Clone_E (F : String → Nat) : LC := (.seq (.reg (c_slices_Clone_E_r0 F) [0]) (.seq (.seq (.reg (c_slices_Clone_E_r1 F) [0, 4]) (.cond (.t 4) (.seq (.reg (c_slices_Clone_E_r2 F) [2]) .ret) .skip)) (.seq (.reg (c_slices_Clone_E_r3 F) [2]) .ret)))
def h_slices_Clone_E : Hints := ⟨[], fun _ => [], tab [(0, [0]), (1, [0, 4]), (2, [2]), (3, [2])], tab []⟩

attribute [go_sem] c_slices_Clone_E_r0 c_slices_Clone_E_r1 c_slices_Clone_E_r2 c_slices_Clone_E_r3 c_slices_Clone_E
def pts (l : List Mo) : List D := l.map mD
theorem pts_length (l : List Mo) : (pts l).length = l.length := by simp [pts]
theorem pts_snoc (l : List Mo) (a b : List Int) : pts l ++ [.agg [.lst 1 (ints a), .lst 1 (ints b)]] = pts (l ++ [⟨a, b⟩]) := by simp [pts, mD]
attribute [go_sem] pts_length pts_snoc
section
variable (P : Program) (F : String → Nat)
def K_slices_Clone_E : Prop := ∀ l : List E, l.length ≤ 1000000000000 → FC P (F "slices.Clone.E") [.lst 3 (eds l)] (.arr 3 (eds l)) []
end
section
variable {P : Program} {F : String → Nat} {α : Type}
theorem w_slices_Clone_E (l : List E) (hl : l.length ≤ 1000000000000) : W P (c_slices_Clone_E F) (Done [.t 2] [] (.arr 3 (eds l)) []) (init [.lst 3 (eds l)]) := by
  refine W_of ?_
  simp (config := { maxSteps := 1000000 }) (disch := first | omega | (simp only [go_sem]; omega)) only [go_sem, ↓reduceIte]
  refine nil_by (fun h => ?_) (fun _ => ?_)
  · have : l = [] := by simpa [eds] using h
    subst this
    have e : eds [] = [] := rfl
    simp (config := { maxSteps := 1000000 }) (disch := first | omega | (simp only [go_sem]; omega)) only [go_sem, ↓reduceIte, e]
  · simp (config := { maxSteps := 1000000 }) (disch := first | omega | (simp only [go_sem]; omega)) only [go_sem, ↓reduceIte]
end
end Go.Am
