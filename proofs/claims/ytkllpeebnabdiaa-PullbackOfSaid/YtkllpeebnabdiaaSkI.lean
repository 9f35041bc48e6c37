/- Chapter 11: the example's check. -/
import Derived.Test.YtkllpeebnabdiaaSkH
namespace Go.Am
open Go
set_option linter.unusedVariables false
set_option linter.unusedSimpArgs false
section
variable {P : Program} {F : String → Nat} {α : Type}
def shAr : Sh := .cat [shG, shG, shM, shM]
theorem rd_arrows {x : D} (h : HasEl shAr x) : ∃ (a b : G) (f g : Mo), x = .agg (gL a ++ (gL b ++ (moL f ++ moL g))) ∧ f.sm ∧ g.sm := by
  simp only [shAr, HasEl] at h
  obtain ⟨ds, rfl, h⟩ := h
  obtain ⟨_, _, rfl, h1, h⟩ := hasShs_cat h
  obtain ⟨_, _, rfl, h2, h⟩ := hasShs_cat h
  obtain ⟨_, _, rfl, h3, h⟩ := hasShs_cat h
  obtain ⟨_, _, rfl, h4, h⟩ := hasShs_cat h
  obtain rfl := hasShs_nil h
  obtain ⟨a, rfl⟩ := rd_gl h1
  obtain ⟨b, rfl⟩ := rd_gl h2
  obtain ⟨f, rfl, h5⟩ := rd_ml h3
  obtain ⟨g, rfl, h6⟩ := rd_ml h4
  exact ⟨a, b, f, g, by simp, h5, h6⟩
theorem w_l11_awake (he : K_l11_example P F) (ho : K_pullback_Of P F) (hm : K_pullback_Mediate P F) (hk : K_pullback_Kernel P F) (hq : K_slices_Equal_I P F) (hp : K_r11_SamePairs P F) : W P (c_l11_awake F) (Done [.t 0] [] (.bool true) []) (init []) := by
  refine W_of ?_
  have r1 := ho exCs
  rw [show pbG exCs = ⟨[0, 0, 0, 0], []⟩ by decide +kernel, show pbP exCs = ⟨[0, 0, 1, 1], []⟩ by decide +kernel, show pbQ exCs = ⟨[0, 1, 0, 1], []⟩ by decide +kernel, show pbErr exCs = 0 by decide +kernel] at r1
  have r2 := hm exCs ⟨[0], []⟩ ⟨[1], []⟩ ⟨[0], []⟩
  rw [show medM exCs ⟨[0], []⟩ ⟨[1], []⟩ ⟨[0], []⟩ = (⟨[2], []⟩, 0) by decide +kernel] at r2
  have r3 := hk ⟨[0, 0], []⟩ ⟨[0], []⟩ ⟨[0, 0], []⟩
  rw [show kernN ⟨[0, 0], []⟩ ⟨[0], []⟩ ⟨[0, 0], []⟩ = [⟨0, 1⟩] by decide +kernel, show kernE ⟨[0, 0], []⟩ ⟨[0], []⟩ ⟨[0, 0], []⟩ = [] by decide +kernel, show validM ⟨[0, 0], []⟩ ⟨[0], []⟩ ⟨[0, 0], []⟩ = 0 by decide +kernel] at r3
  have r0 := he
  unfold K_l11_example at r0
  simp only [csD, exCs, gD, mD, gA, mA] at r1 r2 r3
  simp (config := { maxSteps := 1000000 }) (disch := first | omega | (simp only [go_sem]; omega)) only [go_sem, ↓reduceIte]
  refine call_by r0 ?_
  simp (config := { maxSteps := 1000000 }) (disch := first | omega | (simp only [go_sem]; omega)) only [go_sem, ↓reduceIte]
  refine call_by r1 ?_
  simp (config := { maxSteps := 1000000 }) (disch := first | omega | (simp only [go_sem]; omega)) only [go_sem, ↓reduceIte]
  refine call_by r2 ?_
  simp (config := { maxSteps := 1000000 }) (disch := first | omega | (simp only [go_sem]; omega)) only [go_sem, ↓reduceIte]
  refine call_by r3 ?_
  simp (config := { maxSteps := 1000000 }) (disch := first | omega | (simp only [go_sem]; omega)) only [go_sem, ↓reduceIte, Int.cast_ofNat_Int, eq_self]
  refine call_by (hq [0, 0, 1, 1] [0, 0, 1, 1] (by decide)) ?_
  simp (config := { maxSteps := 1000000 }) (disch := first | omega | (simp only [go_sem]; omega)) only [go_sem, ↓reduceIte]
  refine call_by (hq [0, 1, 0, 1] [0, 1, 0, 1] (by decide)) ?_
  simp (config := { maxSteps := 1000000 }) (disch := first | omega | (simp only [go_sem]; omega)) only [go_sem, ↓reduceIte]
  refine call_by (hq [2] [2] (by decide)) ?_
  simp (config := { maxSteps := 1000000 }) (disch := first | omega | (simp only [go_sem]; omega)) only [go_sem, ↓reduceIte]
  refine call_by (hp [⟨0, 1⟩] [⟨0, 1⟩] (by decide)) ?_
  simp (config := { maxSteps := 1000000 }) (disch := first | omega | (simp only [go_sem]; omega)) only [go_sem, ↓reduceIte]
  try simp
end
end Go.Am
