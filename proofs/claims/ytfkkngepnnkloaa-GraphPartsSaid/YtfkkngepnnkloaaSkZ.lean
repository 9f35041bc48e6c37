/- Morphisms that are right; identities. -/
import Derived.Test.YtfkkngepnnkloaaSkPb
namespace Go.Am
open Go
set_option linter.unusedVariables false
set_option linter.unusedSimpArgs false
section
variable {α : Type}
/-- A graph is right. -/
theorem valid_mk {g : G} (h1 : g.n.length ≤ 40) (h2 : g.e.length ≤ 80) (h3 : ∀ x, x ∈ g.n → okN x = true) (h4 : ∀ x, x ∈ g.e → fitsE g.n.length x = true) : validG g = 0 := by
  unfold validG
  rw [if_neg (by omega), if_pos]
  simp only [Bool.and_eq_true, List.all_eq_true]
  exact ⟨h3, h4⟩
theorem gtI {α : Type} [Inhabited α] {l : List α} {y : Int} (h : 0 ≤ y ∧ y < l.length) : ∃ i : Nat, i < l.length ∧ y = (i : Int) := ⟨y.toNat, by omega, by omega⟩
theorem edge_fits {g : G} (h : validG g = 0) {i : Int} (hi : 0 ≤ i ∧ i < g.e.length) : (0 ≤ (gt g.e i).t ∧ (gt g.e i).t ≤ 99) ∧ (0 ≤ (gt g.e i).f ∧ (gt g.e i).f < g.n.length) ∧ (0 ≤ (gt g.e i).o ∧ (gt g.e i).o < g.n.length) :=
  fits_spec ((valid_spec h).2.2.2 _ (gt_mem hi.1 hi.2))
theorem nums_gt {n i : Nat} (hi : i < n) : gt (nums 0 n) i = i := by
  unfold nums
  rw [gt_nat (by simp; exact hi)]
  simp
theorem nums_mem {n : Nat} {x : Int} : x ∈ nums 0 n ↔ 0 ≤ x ∧ x < n := by
  unfold nums
  simp only [List.mem_map, List.mem_range]
  constructor
  · rintro ⟨k, hk, rfl⟩; omega
  · rintro ⟨h1, h2⟩; exact ⟨x.toNat, by omega, by omega⟩
end
end Go.Am
