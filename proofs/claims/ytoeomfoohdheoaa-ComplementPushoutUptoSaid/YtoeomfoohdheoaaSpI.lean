/- Unions of parts; the law ComplementLeast. -/
import Derived.Test.YtoeomfoohdheoaaSpH
import Derived.Test.YtoeomfoohdheoaaSjQ
namespace Go.Am
open Go
set_option linter.unusedVariables false
set_option linter.unusedSimpArgs false
attribute [local irreducible] W
section
variable (P : Program) (F : String → Nat)
end
section
variable {P : Program} {F : String → Nat} {α : Type}
theorem cxR_zero {x : Cx} (he : cxE x = 0) : (cxR x).2 = 0 ↔ idL x.m.n x.k.n = [] ∧ idL x.m.e x.k.e = [] ∧ cxDan x = [] := by
  unfold cxR
  rw [if_neg (by simp [he])]
  split
  · rename_i h
    constructor
    · intro h'; cases h'
    · rintro ⟨h1, h2, _⟩; rw [h1, h2] at h; simp at h
  · rename_i h
    split
    · rename_i h2
      constructor
      · intro h'; cases h'
      · rintro ⟨_, _, h3⟩; rw [h3] at h2; simp at h2
    · rename_i h2
      exact ⟨fun _ => ⟨List.eq_nil_of_length_eq_zero (by omega), List.eq_nil_of_length_eq_zero (by omega), List.eq_nil_of_length_eq_zero (by omega)⟩, fun _ => rfl⟩
theorem danE_iff {g : G} {gone me : List Int} {k : Nat} : danE g gone me k = true ↔ ¬ (k : Int) ∈ me ∧ ((gt g.e k).f ∈ gone ∨ (gt g.e k).o ∈ gone) := by
  unfold danE
  simp
theorem PK.sm {g : G} {p : Mo} (h : PK g p) : p.sm := by
  have := h.len
  exact ⟨by unfold maxL; omega, by unfold maxL; omega⟩
end
end Go.Am
