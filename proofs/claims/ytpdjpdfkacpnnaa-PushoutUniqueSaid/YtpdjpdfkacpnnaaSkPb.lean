/- slices.Compact at []int; injective and surjective morphisms. -/
/- Injective and surjective morphisms. -/
import Derived.Test.YtpdjpdfkacpnnaaSkS
import Derived.Test.YtpdjpdfkacpnnaaSkV
import Derived.Test.YtpdjpdfkacpnnaaSkC
namespace Go.Am
open Go
set_option linter.unusedVariables false
set_option linter.unusedSimpArgs false
section
variable (P : Program) (F : String → Nat)
end
section
variable {P : Program} {F : String → Nat} {α : Type}
/-! What is kept of a sorted list. -/
end
end Go.Am
namespace Go.Am
open Go
set_option linter.unusedVariables false
set_option linter.unusedSimpArgs false
section
variable {P : Program} {F : String → Nat} {α : Type}
theorem nodeE_all {bn : List Int} : ∀ {ms as : List Int}, nodeE bn ms as = 0 → ms.length = as.length → ∀ i : Nat, i < ms.length → (0 ≤ gt ms i ∧ gt ms i < bn.length) ∧ gt bn (gt ms i) = gt as i
  | [], _, _, _, i, hi => by simp at hi
  | k :: ms, [], _, hl, _, _ => by simp at hl
  | k :: ms, t :: as, h, hl, i, hi => by
    rw [nodeE] at h
    split at h
    · rename_i h1
      split at h
      · rename_i h2
        cases i with
        | zero => exact ⟨h1, h2⟩
        | succ i =>
          have := nodeE_all h (by simpa using hl) i (by simpa using hi)
          have e1 : gt (k :: ms) ((i + 1 : Nat) : Int) = gt ms i := by simp [gt]
          have e2 : gt (t :: as) ((i + 1 : Nat) : Int) = gt as i := by simp [gt]
          rw [e1, e2]; exact this
      · simp at h
    · simp at h
theorem edgeE_all {be : List E} {mn : List Int} : ∀ {ms : List Int} {as : List E}, edgeE be mn ms as = 0 → ms.length = as.length → ∀ i : Nat, i < ms.length →
    (0 ≤ gt ms i ∧ gt ms i < be.length) ∧ (gt as i).t = (gt be (gt ms i)).t ∧ gt mn (gt as i).f = (gt be (gt ms i)).f ∧ gt mn (gt as i).o = (gt be (gt ms i)).o
  | [], _, _, _, i, hi => by simp at hi
  | k :: ms, [], _, hl, _, _ => by simp at hl
  | k :: ms, x :: as, h, hl, i, hi => by
    rw [edgeE] at h
    split at h
    · rename_i h1
      split at h
      · rename_i h2
        split at h
        · rename_i h3
          cases i with
          | zero => exact ⟨h1, h2, h3⟩
          | succ i =>
            have := edgeE_all h (by simpa using hl) i (by simpa using hi)
            have e1 : gt (k :: ms) ((i + 1 : Nat) : Int) = gt ms i := by simp [gt]
            have e2 : gt (x :: as) ((i + 1 : Nat) : Int) = gt as i := by simp [gt]
            rw [e1, e2]; exact this
        · simp at h
      · simp at h
    · simp at h
theorem mem_gt {α : Type} [Inhabited α] {l : List α} {x : α} (h : x ∈ l) : ∃ i : Nat, i < l.length ∧ gt l i = x := by
  obtain ⟨i, hi, rfl⟩ := List.getElem_of_mem h
  exact ⟨i, hi, gt_nat hi⟩
theorem validM_bd {a b : G} {m : Mo} (h : validM a b m = 0) : (∀ x ∈ m.n, 0 ≤ x ∧ x < b.n.length) ∧ ∀ x ∈ m.e, 0 ≤ x ∧ x < b.e.length := by
  obtain ⟨_, _, h3, h4, h5, h6⟩ := validM_spec h
  refine ⟨fun x hx => ?_, fun x hx => ?_⟩
  · obtain ⟨i, hi, rfl⟩ := mem_gt hx
    exact (nodeE_all h5 h3 i hi).1
  · obtain ⟨i, hi, rfl⟩ := mem_gt hx
    exact (edgeE_all h6 h4 i hi).1
end
end Go.Am
