/- Morphisms: inverses. -/
import Derived.Test.YtpdjpdfkacpnnaaGreatSmF
namespace Go.Am
open Go
set_option linter.unusedVariables false
set_option linter.unusedSimpArgs false
attribute [local irreducible] W
section
variable {P : Program} {F : String → Nat} {α : Type}
theorem bij_len {l : List Int} {n : Nat} (hd : distinct l = true) (hc : covers l n = true) (hb : ∀ x ∈ l, 0 ≤ x ∧ x < n) : l.length = n := by
  have h1 := imgs_inj.2 (show l.Nodup by simpa [distinct] using hd)
  have h2 := sur_imgs hb
  rw [hc, decide_eq_true_eq] at h2
  omega
theorem bijM {a b : G} {m : Mo} (h1 : injM a b m = true) (h2 : surM a b m = true) : (m.n.Nodup ∧ m.e.Nodup) ∧ m.n.length = b.n.length ∧ m.e.length = b.e.length ∧ (∀ x ∈ m.n, 0 ≤ x ∧ x < m.n.length) ∧ (∀ x ∈ m.e, 0 ≤ x ∧ x < m.e.length) := by
  unfold injM at h1
  unfold surM at h2
  simp only [Bool.and_eq_true, decide_eq_true_eq] at h1 h2
  obtain ⟨hv, h3, h4⟩ := h1
  obtain ⟨_, h5, h6⟩ := h2
  obtain ⟨b1, b2⟩ := validM_bd hv
  have e1 := bij_len h3 h5 b1
  have e2 := bij_len h4 h6 b2
  rw [← e1] at b1
  rw [← e2] at b2
  exact ⟨⟨by simpa [distinct] using h3, by simpa [distinct] using h4⟩, e1, e2, b1, b2⟩
theorem w_r06_Inverse (hv : K_r06_Valid P F) (hi : K_r06_Injective P F) (hj : K_r06_Surjective P F) (hb : K_r06_Back P F) (a b : G) (m : Mo) :
    W P (c_r06_Inverse F) (Done [.c 6 true 2, .t 7] [] (.tup [mA (invM a b m).1, .int .i64 (invM a b m).2]) []) (init [gD a, gD b, mD m]) := by
  refine W_of ?_
  have r1 := hv a b m
  have r2 := hi a b m
  have r3 := hj a b m
  have hl := @validM_len a b m
  have hbj := @bijM a b m
  have hE : invM a b m = if validM a b m ≠ 0 then (m0, validM a b m) else if injM a b m = true ∧ surM a b m = true then (⟨backL m.n m.n.length, backL m.e m.e.length⟩, 0) else (m0, 10) := rfl
  generalize invM a b m = q at *
  generalize validM a b m = v at *
  generalize injM a b m = b1 at *
  generalize surM a b m = b2 at *
  by_cases c : v = 0
  · subst c
    rw [if_neg (by simp)] at hE
    obtain ⟨l1, l2, _, _, l3, l4⟩ := hl rfl
    have r2 := r2 (by unfold maxL; omega) (by unfold maxL; omega)
    cases b1
    · rw [if_neg (by simp)] at hE
      subst hE
      simp only [gD, mD] at *
      simp (config := { maxSteps := 1000000 }) (disch := first | omega | (simp only [go_sem]; omega)) only [go_sem, ↓reduceIte]
      refine call_by r1 ?_
      simp (config := { maxSteps := 1000000 }) (disch := first | omega | (simp only [go_sem]; omega)) only [go_sem, ↓reduceIte]
      refine call_by r2 ?_
      simp (config := { maxSteps := 1000000 }) (disch := first | omega | (simp only [go_sem]; omega)) only [go_sem, ↓reduceIte]
      simp [m0, mA, ints]
    · cases b2
      · rw [if_neg (by simp)] at hE
        subst hE
        simp only [gD, mD] at *
        simp (config := { maxSteps := 1000000 }) (disch := first | omega | (simp only [go_sem]; omega)) only [go_sem, ↓reduceIte]
        refine call_by r1 ?_
        simp (config := { maxSteps := 1000000 }) (disch := first | omega | (simp only [go_sem]; omega)) only [go_sem, ↓reduceIte]
        refine call_by r2 ?_
        simp (config := { maxSteps := 1000000 }) (disch := first | omega | (simp only [go_sem]; omega)) only [go_sem, ↓reduceIte]
        refine call_by r3 ?_
        simp (config := { maxSteps := 1000000 }) (disch := first | omega | (simp only [go_sem]; omega)) only [go_sem, ↓reduceIte]
        simp [m0, mA, ints]
      · rw [if_pos (by simp)] at hE
        subst hE
        obtain ⟨⟨n1, n2⟩, e1, e2, n3, n4⟩ := hbj rfl rfl
        have t1 := hb m.n b.n.length (by omega) (by omega)
        have t2 := hb m.e b.e.length (by omega) (by omega)
        rw [e1, e2]
        generalize backL m.n b.n.length = bn at *
        generalize backL m.e b.e.length = be at *
        simp only [gD, mD] at *
        simp (config := { maxSteps := 1000000 }) (disch := first | omega | (simp only [go_sem]; omega)) only [go_sem, ↓reduceIte]
        refine call_by r1 ?_
        simp (config := { maxSteps := 1000000 }) (disch := first | omega | (simp only [go_sem]; omega)) only [go_sem, ↓reduceIte]
        refine call_by r2 ?_
        simp (config := { maxSteps := 1000000 }) (disch := first | omega | (simp only [go_sem]; omega)) only [go_sem, ↓reduceIte]
        refine call_by r3 ?_
        simp (config := { maxSteps := 1000000 }) (disch := first | omega | (simp only [go_sem]; omega)) only [go_sem, ↓reduceIte]
        refine call_by t1 ?_
        simp (config := { maxSteps := 1000000 }) (disch := first | omega | (simp only [go_sem]; omega)) only [go_sem, ↓reduceIte]
        refine call_by t2 ?_
        simp (config := { maxSteps := 1000000 }) (disch := first | omega | (simp only [go_sem]; omega)) only [go_sem, ↓reduceIte]
        simp [mA]
  · rw [if_pos c] at hE
    subst hE
    simp only [gD, mD] at *
    simp (config := { maxSteps := 1000000 }) (disch := first | omega | (simp only [go_sem]; omega)) only [go_sem, ↓reduceIte]
    refine call_by r1 ?_
    simp (config := { maxSteps := 1000000 }) (disch := first | omega | (simp only [go_sem]; omega)) only [go_sem, ↓reduceIte, c]
    simp [m0, mA, ints]
end
end Go.Am
