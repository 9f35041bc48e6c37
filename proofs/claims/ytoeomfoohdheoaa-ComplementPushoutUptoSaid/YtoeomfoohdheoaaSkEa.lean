/- Places in lists, plain. -/
import Derived.Test.YtoeomfoohdheoaaSjB
namespace Go.Am
open Go
set_option linter.unusedVariables false
set_option linter.unusedSimpArgs false
section
variable {α : Type}
theorem idx_none (p : α → Bool) : ∀ (l : List α) (i : Int), 0 ≤ i → idx p l i = -1 → ∀ x ∈ l, p x = false
  | [], _, _, _, x, hx => by simp at hx
  | a :: l, i, h0, h, x, hx => by
    simp only [idx] at h
    split at h
    · omega
    · rename_i ha
      rcases List.mem_cons.1 hx with rfl | hx
      · simpa using ha
      · exact idx_none p l (i + 1) (by omega) h x hx
theorem idx_some [Inhabited α] (p : α → Bool) : ∀ (l : List α) (i : Int), idx p l i ≠ -1 → ∃ k : Nat, idx p l i = i + k ∧ k < l.length ∧ p (gt l k) = true ∧ ∀ x ∈ l.take k, p x = false
  | [], _, h => absurd rfl h
  | a :: l, i, h => by
    simp only [idx] at h ⊢
    split
    · rename_i ha
      exact ⟨0, by simp, by simp, by simpa [gt] using ha, by simp⟩
    · rename_i ha
      rw [if_neg ha] at h
      obtain ⟨k, h1, h2, h3, h4⟩ := idx_some p l (i + 1) h
      refine ⟨k + 1, by rw [h1]; push_cast; omega, by simpa using h2, ?_, ?_⟩
      · rw [gt_nat (by simpa using h2)]
        rw [gt_nat h2] at h3
        simpa using h3
      · rw [List.take_succ_cons]
        intro x hx
        rcases List.mem_cons.1 hx with rfl | hx
        · simpa using ha
        · exact h4 x hx
end
end Go.Am
