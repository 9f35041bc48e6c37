/- What is left of a union without one of its graphs. -/
import Derived.Test.YtfkkngepnnkloaaSjR
namespace Go.Am
open Go
set_option linter.unusedVariables false
set_option linter.unusedSimpArgs false
def uG (a b : G) : G := ⟨a.n ++ b.n, a.e ++ b.e.map (shE1 a.n.length)⟩
theorem numsF_mem {f x : Int} {n : Nat} : x ∈ nums f n ↔ f ≤ x ∧ x < f + n := by
  unfold nums
  rw [List.mem_map]
  constructor
  · rintro ⟨k, hk, rfl⟩; have := List.mem_range.1 hk; omega
  · intro h; exact ⟨(x - f).toNat, List.mem_range.2 (by omega), by omega⟩
theorem numsF_asc (f : Int) (n : Nat) : (nums f n).Pairwise (· < ·) := by
  unfold nums
  rw [List.pairwise_map]
  exact List.pairwise_lt_range.imp fun h => by omega
/-- The first ones are removed. -/
theorem left_A (n : Nat) : ∀ j : Nat, leftL (nums 0 n) (n + j) = (List.replicate n (-1) ++ nums 0 j, (j : Int))
  | 0 => by
    have key : ∀ i : Nat, i ≤ n → leftL (nums 0 n) i = (List.replicate i (-1), 0) := fun i => by
      induction i with
      | zero => intro _; rfl
      | succ i ih =>
        intro h
        rw [leftL, ih (by omega), if_pos (nums_mem.2 (by omega))]
        simp [List.replicate_succ']
    rw [Nat.add_zero, key n (Nat.le_refl _)]
    simp [nums]
  | j + 1 => by
    rw [← Nat.add_assoc, leftL, left_A n j, if_neg (fun h => by have := nums_mem.1 h; omega), nums_S]
    simp
/-- The last ones are removed. -/
theorem left_B (n m : Nat) : ∀ j : Nat, j ≤ m → leftL (nums n m) (n + j) = (nums 0 n ++ List.replicate j (-1), (n : Int))
  | 0, _ => by
    have key : ∀ i : Nat, i ≤ n → leftL (nums n m) i = (nums 0 i, (i : Int)) := fun i => by
      induction i with
      | zero => intro _; simp [leftL, nums]
      | succ i ih =>
        intro h
        rw [leftL, ih (by omega), if_neg (fun h => by have := numsF_mem.1 h; omega), nums_S]
        simp
    rw [Nat.add_zero, key n (Nat.le_refl _)]
    simp
  | j + 1, h => by
    rw [← Nat.add_assoc, leftL, left_B n m j (by omega), if_pos (numsF_mem.2 (by push_cast; omega))]
    simp [List.replicate_succ']
theorem rep_gt {n i : Nat} {v : Int} (h : i < n) : gt (List.replicate n v) i = v := by
  simp [gt, List.getD_eq_getElem?_getD, h]
theorem remN_A {an bn mn : List Int} (h1 : ∀ i : Nat, i < an.length → gt mn i < 0) (h2 : ∀ j : Nat, j < bn.length → 0 ≤ gt mn (((an.length + j : Nat)) : Int)) : ∀ j, j ≤ bn.length → remN (an ++ bn) mn (an.length + j) = bn.take j
  | 0, _ => by
    have key : ∀ i : Nat, i ≤ an.length → remN (an ++ bn) mn i = [] := fun i => by
      induction i with
      | zero => intro _; rfl
      | succ i ih => intro h; rw [remN, if_neg (by have := h1 i (by omega); omega), ih (by omega)]
    rw [Nat.add_zero, key _ (Nat.le_refl _)]; simp
  | j + 1, h => by
    rw [← Nat.add_assoc, remN, if_pos (h2 j (by omega)), remN_A h1 h2 j (by omega), take_gt (by omega), show (((an.length + j : Nat)) : Int) = (j : Int) + an.length by push_cast; omega, app_gtR (by omega)]
theorem remN_B {an bn mn : List Int} (h1 : ∀ i : Nat, i < an.length → 0 ≤ gt mn i) (h2 : ∀ j : Nat, j < bn.length → gt mn (((an.length + j : Nat)) : Int) < 0) : ∀ j, j ≤ bn.length → remN (an ++ bn) mn (an.length + j) = an
  | 0, _ => by
    have key : ∀ i : Nat, i ≤ an.length → remN (an ++ bn) mn i = an.take i := fun i => by
      induction i with
      | zero => intro _; rfl
      | succ i ih => intro h; rw [remN, if_pos (h1 i (by omega)), ih (by omega), take_gt (by omega), app_gtL (by omega)]
    rw [Nat.add_zero, key _ (Nat.le_refl _)]; simp
  | j + 1, h => by
    rw [← Nat.add_assoc, remN, if_neg (by have := h2 j (by omega); omega), remN_B h1 h2 j (by omega)]
theorem remEd_A {ea eb : List E} {mn me : List Int} (h1 : ∀ i : Nat, i < ea.length → gt me i < 0) (h2 : ∀ j : Nat, j < eb.length → 0 ≤ gt me (((ea.length + j : Nat)) : Int) ∧ 0 ≤ (gt eb j).f ∧ 0 ≤ (gt eb j).o)
    {es : List E} (hes : ∀ j : Nat, j < eb.length → remE mn (gt (ea ++ es) (((ea.length + j : Nat)) : Int)) = gt eb j) : ∀ j, j ≤ eb.length → remEd (ea ++ es) mn me (ea.length + j) = some (eb.take j)
  | 0, _ => by
    have key : ∀ i : Nat, i ≤ ea.length → remEd (ea ++ es) mn me i = some [] := fun i => by
      induction i with
      | zero => intro _; rfl
      | succ i ih => intro h; rw [remEd, ih (by omega)]; simp only; rw [if_pos (h1 i (by omega))]
    rw [Nat.add_zero, key _ (Nat.le_refl _)]; simp
  | j + 1, h => by
    obtain ⟨q1, q2, q3⟩ := h2 j (by omega)
    rw [← Nat.add_assoc, remEd, remEd_A h1 h2 hes j (by omega)]
    simp only
    rw [if_neg (by omega), hes j (by omega), if_neg (by omega), take_gt (by omega)]
theorem remEd_B {ea es : List E} {m : Nat} {mn me : List Int} (h1 : ∀ i : Nat, i < ea.length → 0 ≤ gt me i ∧ 0 ≤ (gt ea i).f ∧ 0 ≤ (gt ea i).o) (h2 : ∀ j : Nat, j < m → gt me (((ea.length + j : Nat)) : Int) < 0)
    (hea : ∀ i : Nat, i < ea.length → remE mn (gt ea i) = gt ea i) : ∀ j, j ≤ m → remEd (ea ++ es) mn me (ea.length + j) = some ea
  | 0, _ => by
    have key : ∀ i : Nat, i ≤ ea.length → remEd (ea ++ es) mn me i = some (ea.take i) := fun i => by
      induction i with
      | zero => intro _; rfl
      | succ i ih =>
        intro h
        obtain ⟨q1, q2, q3⟩ := h1 i (by omega)
        rw [remEd, ih (by omega)]
        simp only
        rw [if_neg (by omega), app_gtL (by omega), hea i (by omega), if_neg (by omega), take_gt (by omega)]
    rw [Nat.add_zero, key _ (Nat.le_refl _)]; simp
  | j + 1, h => by
    rw [← Nat.add_assoc, remEd, remEd_B h1 h2 hea j (by omega)]
    simp only
    rw [if_pos (h2 j (by omega))]
theorem uG_ok {a b : G} (va : validG a = 0) (vb : validG b = 0) (h1 : a.n.length + b.n.length ≤ 40) (h2 : a.e.length + b.e.length ≤ 80) : validG (uG a b) = 0 := by
  have sa := valid_spec va
  have sb := valid_spec vb
  have ln : ((uG a b).n.length : Int) = a.n.length + b.n.length := by simp [uG]
  refine valid_mk (by simp [uG]; omega) (by simp [uG]; omega) (fun x hx => ?_) fun x hx => ?_
  · rcases List.mem_append.1 hx with hx | hx
    · exact sa.2.2.1 x hx
    · exact sb.2.2.1 x hx
  · rw [ln]
    rcases List.mem_append.1 hx with hx | hx
    · obtain ⟨t, f, o⟩ := fits_spec (sa.2.2.2 x hx)
      exact fits_mk t (by omega) (by omega)
    · obtain ⟨y, hy, rfl⟩ := List.mem_map.1 hx
      obtain ⟨t, f, o⟩ := fits_spec (sb.2.2.2 y hy)
      exact fits_mk t (by simp only [shE1]; omega) (by simp only [shE1]; omega)
section
variable {a b : G} (va : validG a = 0) (vb : validG b = 0) (h1 : a.n.length + b.n.length ≤ 40) (h2 : a.e.length + b.e.length ≤ 80)
include va vb h1 h2
theorem rem_first : (removeG (uG a b) (nums 0 a.n.length) (nums 0 a.e.length)).1 = b ∧ (removeG (uG a b) (nums 0 a.n.length) (nums 0 a.e.length)).2.2 = 0 := by
  have vu := uG_ok va vb h1 h2
  have ln : (uG a b).n.length = a.n.length + b.n.length := by simp [uG]
  have le : (uG a b).e.length = a.e.length + b.e.length := by simp [uG]
  have q1 : ascG (uG a b).n.length none (nums 0 a.n.length) = 0 := ascG_iff.2 ⟨numsF_asc _ _, fun x hx => by have := nums_mem.1 hx; omega⟩
  have q2 : ascG (uG a b).e.length none (nums 0 a.e.length) = 0 := ascG_iff.2 ⟨numsF_asc _ _, fun x hx => by have := nums_mem.1 hx; omega⟩
  have gA : ∀ n i : Nat, i < n → ∀ l : List Int, gt (List.replicate n (-1 : Int) ++ l) i < 0 := fun n i hi l => by rw [app_gtL (by simp; omega), rep_gt hi]; omega
  have gB : ∀ n m j : Nat, j < m → gt (List.replicate n (-1 : Int) ++ nums 0 m) (((n + j : Nat)) : Int) = (j : Int) := fun n m j hj => by
    have := app_gtR (l := List.replicate n (-1 : Int)) (m := nums 0 m) (i := (j : Int)) (by omega)
    rw [List.length_replicate] at this
    rw [show (((n + j : Nat)) : Int) = (j : Int) + n by push_cast; omega, this, nums_gt hj]
  unfold removeG
  rw [if_neg (by simp [vu]), if_neg (by simp [q1]), if_neg (by simp [q2]), ln, le, left_A, left_A]
  simp only
  have hE : remEd (uG a b).e (List.replicate a.n.length (-1) ++ nums 0 b.n.length) (List.replicate a.e.length (-1) ++ nums 0 b.e.length) (a.e.length + b.e.length) = some b.e := by
    have := remEd_A (ea := a.e) (eb := b.e) (es := b.e.map (shE1 a.n.length)) (mn := List.replicate a.n.length (-1) ++ nums 0 b.n.length) (me := List.replicate a.e.length (-1) ++ nums 0 b.e.length)
      (fun i hi => gA _ i hi _) (fun j hj => ⟨by rw [gB _ _ j hj]; omega, by have := edge_fits vb (i := (j : Int)) (by omega); omega⟩) (fun j hj => by
        obtain ⟨_, f, o⟩ := edge_fits vb (i := (j : Int)) (by omega)
        rw [show (((a.e.length + j : Nat)) : Int) = (j : Int) + a.e.length by push_cast; omega, app_gtR (by omega), show gt (b.e.map (shE1 a.n.length)) (j : Int) = shE1 a.n.length (gt b.e j) by rw [gt_nat (by simpa using hj), gt_nat hj]; simp]
        obtain ⟨p, p1, p2⟩ := gtI f
        obtain ⟨q, r1, r2⟩ := gtI o
        simp only [remE, shE1]
        rw [p2, r2, show (p : Int) + a.n.length = (((a.n.length + p : Nat)) : Int) by push_cast; omega, show (q : Int) + a.n.length = (((a.n.length + q : Nat)) : Int) by push_cast; omega, gB _ _ p p1, gB _ _ q r1, ← p2, ← r2]) b.e.length (Nat.le_refl _)
    rw [List.take_length] at this
    exact this
  have hN : remN (uG a b).n (List.replicate a.n.length (-1) ++ nums 0 b.n.length) (a.n.length + b.n.length) = b.n := by
    have := remN_A (an := a.n) (bn := b.n) (mn := List.replicate a.n.length (-1) ++ nums 0 b.n.length) (fun i hi => gA _ i hi _) (fun j hj => by rw [gB _ _ j hj]; omega) b.n.length (Nat.le_refl _)
    rw [List.take_length] at this
    exact this
  rw [hE]
  simp only
  rw [hN]
  exact ⟨rfl, trivial⟩
theorem rem_last : (removeG (uG a b) (nums a.n.length b.n.length) (nums a.e.length b.e.length)).1 = a ∧ (removeG (uG a b) (nums a.n.length b.n.length) (nums a.e.length b.e.length)).2.2 = 0 := by
  have vu := uG_ok va vb h1 h2
  have ln : (uG a b).n.length = a.n.length + b.n.length := by simp [uG]
  have le : (uG a b).e.length = a.e.length + b.e.length := by simp [uG]
  have q1 : ascG (uG a b).n.length none (nums a.n.length b.n.length) = 0 := ascG_iff.2 ⟨numsF_asc _ _, fun x hx => by have := numsF_mem.1 hx; omega⟩
  have q2 : ascG (uG a b).e.length none (nums a.e.length b.e.length) = 0 := ascG_iff.2 ⟨numsF_asc _ _, fun x hx => by have := numsF_mem.1 hx; omega⟩
  have gA : ∀ n i : Nat, i < n → ∀ l : List Int, gt (nums 0 n ++ l) i = i := fun n i hi l => by rw [app_gtL (by rw [nums_len]; omega), nums_gt hi]
  have gB : ∀ n m j : Nat, j < m → gt (nums 0 n ++ List.replicate m (-1 : Int)) (((n + j : Nat)) : Int) < 0 := fun n m j hj => by
    have := app_gtR (l := nums 0 n) (m := List.replicate m (-1 : Int)) (i := (j : Int)) (by omega)
    rw [nums_len] at this
    rw [show (((n + j : Nat)) : Int) = (j : Int) + n by push_cast; omega, this, rep_gt hj]
    omega
  unfold removeG
  rw [if_neg (by simp [vu]), if_neg (by simp [q1]), if_neg (by simp [q2]), ln, le, left_B _ _ _ (Nat.le_refl _), left_B _ _ _ (Nat.le_refl _)]
  simp only
  have hE : remEd (uG a b).e (nums 0 a.n.length ++ List.replicate b.n.length (-1)) (nums 0 a.e.length ++ List.replicate b.e.length (-1)) (a.e.length + b.e.length) = some a.e :=
    remEd_B (ea := a.e) (es := b.e.map (shE1 a.n.length)) (m := b.e.length) (fun i hi => ⟨by rw [gA _ i hi]; omega, by have := edge_fits va (i := (i : Int)) (by omega); omega⟩) (fun j hj => gB _ _ j hj) (fun i hi => by
        obtain ⟨_, f, o⟩ := edge_fits va (i := (i : Int)) (by omega)
        obtain ⟨p, p1, p2⟩ := gtI f
        obtain ⟨q, r1, r2⟩ := gtI o
        simp only [remE]
        rw [p2, r2, gA _ p p1, gA _ q r1, ← p2, ← r2]) b.e.length (Nat.le_refl _)
  have hN : remN (uG a b).n (nums 0 a.n.length ++ List.replicate b.n.length (-1)) (a.n.length + b.n.length) = a.n :=
    remN_B (an := a.n) (bn := b.n) (fun i hi => by rw [gA _ i hi]; omega) (fun j hj => gB _ _ j hj) b.n.length (Nat.le_refl _)
  rw [hE]
  simp only
  rw [hN]
  exact ⟨rfl, trivial⟩
end
end Go.Am
