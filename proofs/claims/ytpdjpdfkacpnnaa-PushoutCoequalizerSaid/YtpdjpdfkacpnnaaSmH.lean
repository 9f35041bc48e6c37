/- What inverses are; what the search finds. -/
import Derived.Test.YtpdjpdfkacpnnaaSmG
namespace Go.Am
open Go
set_option linter.unusedVariables false
set_option linter.unusedSimpArgs false
section
theorem backL_own {l : List Int} (hn : l.Nodup) (hb : ∀ x ∈ l, 0 ≤ x ∧ x < l.length) {j : Nat} (hj : j < l.length) : gt (backL l l.length) (gt l j) = j := by
  obtain ⟨k, hk, hk2⟩ := gtI (hb _ (gt_mem (l := l) (j := j) (by omega) (by omega)))
  rw [hk2, backL_gt hk, ← hk2, lastI_own hn _ (Nat.le_refl _) j hj]
theorem inv_ok {a b : G} {m : Mo} (hm : MOk a b m) (h1 : injM a b m = true) (h2 : surM a b m = true) : MOk b a ⟨backL m.n m.n.length, backL m.e m.e.length⟩ ∧
    thenM m ⟨backL m.n m.n.length, backL m.e m.e.length⟩ = idM a ∧ thenM ⟨backL m.n m.n.length, backL m.e m.e.length⟩ m = idM b := by
  obtain ⟨⟨n1, n2⟩, e1, e2, b1, b2⟩ := bijM h1 h2
  have ln := hm.ln
  have le := hm.le
  have hN : ∀ k : Nat, k < b.n.length → ∃ j : Nat, j < m.n.length ∧ gt m.n j = k := fun k hk => perm_has n1 b1 k (by omega)
  have hEe : ∀ k : Nat, k < b.e.length → ∃ j : Nat, j < m.e.length ∧ gt m.e j = k := fun k hk => perm_has n2 b2 k (by omega)
  have bn : ∀ j : Nat, j < m.n.length → gt (backL m.n m.n.length) (gt m.n j) = j := fun j hj => backL_own n1 b1 hj
  have be : ∀ j : Nat, j < m.e.length → gt (backL m.e m.e.length) (gt m.e j) = j := fun j hj => backL_own n2 b2 hj
  refine ⟨⟨hm.vb, hm.va, by simp only [backL_len]; omega, by simp only [backL_len]; omega, fun k hk => ?_, fun k hk => ?_⟩, ?_, ?_⟩
  · obtain ⟨j, hj, hj2⟩ := hN k hk
    simp only
    rw [← hj2, bn j hj]
    exact ⟨by omega, ((hm.nd j (by omega)).2).symm⟩
  · obtain ⟨j, hj, hj2⟩ := hEe k hk
    obtain ⟨_, t1, t2, t3⟩ := hm.ed j (by omega)
    obtain ⟨_, f1, f2⟩ := edge_fits hm.va (i := j) (by omega)
    obtain ⟨p, hp, hp2⟩ := gtI f1
    obtain ⟨q, hq, hq2⟩ := gtI f2
    simp only
    rw [← hj2, be j hj]
    refine ⟨by omega, t1.symm, ?_, ?_⟩
    · rw [← t2, hp2, bn p (by omega)]
    · rw [← t3, hq2, bn q (by omega)]
  · have key : ∀ l : List Int, (∀ j : Nat, j < l.length → gt (backL l l.length) (gt l j) = j) → thr l (backL l l.length) = nums 0 l.length := fun l hl =>
      list_ext_gt (by rw [thr_len, nums_len]) fun i hi => by
        rw [thr_len] at hi
        rw [thr_gt hi, hl i hi, nums_gt hi]
    have k1 := key _ bn
    have k2 := key _ be
    simp only [thenM, idM]
    rw [k1, k2, ln, le]
  · have key : ∀ l : List Int, l.Nodup → (∀ x ∈ l, 0 ≤ x ∧ x < l.length) → thr (backL l l.length) l = nums 0 l.length := fun l h1 h2 =>
      list_ext_gt (by rw [thr_len, backL_len, nums_len]) fun i hi => by
        rw [thr_len, backL_len] at hi
        rw [thr_gt (by rw [backL_len]; exact hi), nums_gt hi]
        obtain ⟨j, hj, hj2⟩ := perm_has h1 h2 i hi
        rw [← hj2, backL_own h1 h2 hj]
    have k1 := key _ n1 b1
    have k2 := key _ n2 b2
    simp only [thenM, idM]
    rw [k1, k2, e1, e2]
theorem comM_ok {a b c : G} {m n : Mo} (hm : MOk a b m) (hn : MOk b c n) : comM a b c m n = (thenM m n, 0) := by
  unfold comM
  rw [if_neg (by rw [mok.2 hm]; simp), if_neg (by rw [mok.2 hn]; simp)]
end
end Go.Am
