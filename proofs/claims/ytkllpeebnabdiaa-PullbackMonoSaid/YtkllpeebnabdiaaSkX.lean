/- Pullbacks: Check and its reference; cones. -/
import Derived.Test.YtkllpeebnabdiaaSkW
namespace Go.Am
open Go
set_option linter.unusedVariables false
set_option linter.unusedSimpArgs false
def smallC (x : G) (h k : Mo) : Bool := few x && (fewM h 150 && fewM k 150)
section
variable (P : Program) (F : String → Nat)
def K_l11_Cone_small : Prop := ∀ (x : G) (h k : Mo), h.sm → k.sm → FC P (F "l11.Cone.small") [.agg (gL x ++ (moL h ++ moL k))] (.bool (smallC x h k)) []
end
section
variable {P : Program} {F : String → Nat} {α : Type}
theorem w_pullback_Check (hm : K_pullback_Mediate P F) (ho : K_pullback_of P F) (hi : K_morphism_Injective P F) (hj : K_morphism_Surjective P F) (s : Cs) (x : G) (h k : Mo) :
    W P (c_pullback_Check F) (Done [.t 8] [] (.bool (checkM s x h k)) []) (init [csD s, gD x, mD h, mD k]) := by
  refine W_of ?_
  have r1 := hm s x h k
  have r2 := ho s
  have hc : checkM s x h k = (decide ((medM s x h k).2 = 0) && (injM x (pbG s) (medM s x h k).1 && surM x (pbG s) (medM s x h k).1)) := rfl
  have hp : (medM s x h k).2 = 0 → pbErr s = 0 := by
    unfold medM
    split
    · rename_i h1; intro h2; exact absurd h2 h1
    · rename_i h1
      intro _
      have h1 := Decidable.not_not.1 h1
      unfold medErr at h1
      split at h1
      · rename_i h2; exact absurd h1 h2
      · rename_i h2; simpa using h2
  have r3 := hi x (pbG s) (medM s x h k).1
  have r4 := hj x (pbG s) (medM s x h k).1
  generalize injM x (pbG s) (medM s x h k).1 = b1 at *
  generalize surM x (pbG s) (medM s x h k).1 = b2 at *
  generalize checkM s x h k = cm at *
  generalize medM s x h k = md at *
  generalize pbErr s = e0 at *
  generalize pbG s = gg at *
  generalize pbN s = ns at *
  generalize pbE s = es at *
  obtain ⟨⟨mn, me⟩, er⟩ := md
  obtain ⟨ggn, gge⟩ := gg
  simp only [csD, gD, mD, mA] at *
  subst hc
  simp (config := { maxSteps := 1000000 }) (disch := first | omega | (simp only [go_sem]; omega)) only [go_sem, ↓reduceIte]
  refine call_by r1 ?_
  simp (config := { maxSteps := 1000000 }) (disch := first | omega | (simp only [go_sem]; omega)) only [go_sem, ↓reduceIte]
  refine bran_ndec (fun c => ?_) (fun c => ?_)
  · simp (config := { maxSteps := 1000000 }) (disch := first | omega | (simp only [go_sem]; omega)) only [go_sem, ↓reduceIte, c]
    try simp
  · subst c
    have hp := hp rfl
    subst hp
    simp (config := { maxSteps := 1000000 }) (disch := first | omega | (simp only [go_sem]; omega)) only [go_sem, ↓reduceIte]
    refine call_by r2 ?_
    simp (config := { maxSteps := 1000000 }) (disch := first | omega | (simp only [go_sem]; omega)) only [go_sem, ↓reduceIte]
    refine call_by r3 ?_
    cases b1
    · simp (config := { maxSteps := 1000000 }) (disch := first | omega | (simp only [go_sem]; omega)) only [go_sem, ↓reduceIte]
      try simp
    · simp (config := { maxSteps := 1000000 }) (disch := first | omega | (simp only [go_sem]; omega)) only [go_sem, ↓reduceIte]
      refine call_by r4 ?_
      simp (config := { maxSteps := 1000000 }) (disch := first | omega | (simp only [go_sem]; omega)) only [go_sem, ↓reduceIte]
      try simp
theorem w_r11_Check (hm : K_r11_Mediate P F) (ho : K_r11_Of P F) (hi : K_r06_Injective P F) (hj : K_r06_Surjective P F) (s : Cs) (x : G) (h k : Mo) :
    W P (c_r11_Check F) (Done [.t 8] [] (.bool (checkM s x h k)) []) (init [csD s, gD x, mD h, mD k]) := by
  refine W_of ?_
  have r1 := hm s x h k
  have r2 := ho s
  have hl : (medM s x h k).1.n.length ≤ 1000000 ∧ (medM s x h k).1.e.length ≤ 1000000 := by
    unfold medM
    split
    · simp [m0]
    · rename_i h1
      have h1 := Decidable.not_not.1 h1
      split
      · unfold medErr at h1
        split at h1
        · rename_i h2; exact absurd h1 h2
        · split at h1
          · rename_i h2; exact absurd h1 h2
          · rename_i h2
            have h2 := Decidable.not_not.1 h2
            obtain ⟨q1, q2, _⟩ := validM_len h2
            simp only [meetL, meetI_len]
            omega
      · simp [m0]
  have hc : checkM s x h k = (decide ((medM s x h k).2 = 0) && (injM x (pbG s) (medM s x h k).1 && surM x (pbG s) (medM s x h k).1)) := rfl
  have r3 := hi x (pbG s) (medM s x h k).1 (by unfold maxL; omega) (by unfold maxL; omega)
  have r4 := hj x (pbG s) (medM s x h k).1
  generalize injM x (pbG s) (medM s x h k).1 = b1 at *
  generalize surM x (pbG s) (medM s x h k).1 = b2 at *
  generalize checkM s x h k = cm at *
  generalize medM s x h k = md at *
  generalize pbErr s = e0 at *
  generalize pbG s = gg at *
  generalize pbP s = pp at *
  generalize pbQ s = qq at *
  obtain ⟨⟨mn, me⟩, er⟩ := md
  obtain ⟨ggn, gge⟩ := gg
  obtain ⟨ppn, ppe⟩ := pp
  obtain ⟨qqn, qqe⟩ := qq
  simp only [csD, gD, mD, mA, gA] at *
  subst hc
  simp (config := { maxSteps := 1000000 }) (disch := first | omega | (simp only [go_sem]; omega)) only [go_sem, ↓reduceIte]
  refine call_by r1 ?_
  simp (config := { maxSteps := 1000000 }) (disch := first | omega | (simp only [go_sem]; omega)) only [go_sem, ↓reduceIte]
  refine bran_ndec (fun c => ?_) (fun c => ?_)
  · simp (config := { maxSteps := 1000000 }) (disch := first | omega | (simp only [go_sem]; omega)) only [go_sem, ↓reduceIte, c]
    try simp
  · subst c
    simp (config := { maxSteps := 1000000 }) (disch := first | omega | (simp only [go_sem]; omega)) only [go_sem, ↓reduceIte]
    refine call_by r2 ?_
    simp (config := { maxSteps := 1000000 }) (disch := first | omega | (simp only [go_sem]; omega)) only [go_sem, ↓reduceIte]
    refine call_by r3 ?_
    cases b1
    · simp (config := { maxSteps := 1000000 }) (disch := first | omega | (simp only [go_sem]; omega)) only [go_sem, ↓reduceIte]
      try simp
    · simp (config := { maxSteps := 1000000 }) (disch := first | omega | (simp only [go_sem]; omega)) only [go_sem, ↓reduceIte]
      refine call_by r4 ?_
      simp (config := { maxSteps := 1000000 }) (disch := first | omega | (simp only [go_sem]; omega)) only [go_sem, ↓reduceIte]
      try simp
theorem w_l11_Cone_small (hg : K_r05_Few P F) (hm : K_r06_Few P F) (x : G) (h k : Mo) (h1 : h.sm) (h2 : k.sm) : W P (c_l11_Cone_small F) (Done [.t 2] [] (.bool (smallC x h k)) []) (init [.agg (gL x ++ (moL h ++ moL k))]) := by
  refine W_of ?_
  have r1 := hg x
  have r2 := hm h 150 h1.1 h1.2
  have r3 := hm k 150 h2.1 h2.2
  have hc : smallC x h k = (few x && (fewM h 150 && fewM k 150)) := rfl
  generalize few x = b1 at *
  generalize fewM h 150 = b2 at *
  generalize fewM k 150 = b3 at *
  generalize smallC x h k = c at *
  subst hc
  simp only [gD, mD] at r1 r2 r3
  simp only [gL, moL, List.cons_append, List.nil_append]
  simp (config := { maxSteps := 1000000 }) (disch := first | omega | (simp only [go_sem]; omega)) only [go_sem, ↓reduceIte]
  refine call_by r1 ?_
  cases b1
  · simp (config := { maxSteps := 1000000 }) (disch := first | omega | (simp only [go_sem]; omega)) only [go_sem, ↓reduceIte]
    try simp
  · simp (config := { maxSteps := 1000000 }) (disch := first | omega | (simp only [go_sem]; omega)) only [go_sem, ↓reduceIte]
    refine call_by r2 ?_
    cases b2
    · simp (config := { maxSteps := 1000000 }) (disch := first | omega | (simp only [go_sem]; omega)) only [go_sem, ↓reduceIte]
      try simp
    · simp (config := { maxSteps := 1000000 }) (disch := first | omega | (simp only [go_sem]; omega)) only [go_sem, ↓reduceIte]
      refine call_by r3 ?_
      simp (config := { maxSteps := 1000000 }) (disch := first | omega | (simp only [go_sem]; omega)) only [go_sem, ↓reduceIte]
      try simp
end
end Go.Am
