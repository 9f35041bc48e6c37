/- Morphisms that are right; identities. -/
import Derived.Test.YtoeomfoohdheoaaSkPb
namespace Go.Am
open Go
set_option linter.unusedVariables false
set_option linter.unusedSimpArgs false
section
variable {α : Type}
theorem list_ext_gt [Inhabited α] {a b : List α} (hl : a.length = b.length) (h : ∀ i : Nat, i < a.length → gt a i = gt b i) : a = b := by
  refine List.ext_getElem hl fun i h1 h2 => ?_
  have := h i h1
  rwa [gt_nat h1, gt_nat h2] at this
theorem thr_gt {l b : List Int} {i : Nat} (h : i < l.length) : gt (thr l b) i = gt b (gt l i) := by
  rw [gt_nat (by rw [thr_len]; exact h)]
  simp only [thr, List.getElem_map]
  rw [gt_nat h]
theorem gt_cons {α : Type} [Inhabited α] (a : α) (l : List α) (i : Nat) : gt (a :: l) ((i + 1 : Nat) : Int) = gt l i := by simp [gt]
theorem gt_cons0 {α : Type} [Inhabited α] (a : α) (l : List α) : gt (a :: l) ((0 : Nat) : Int) = a := by simp [gt]
theorem nodeE_mk {bn : List Int} : ∀ {ms as : List Int}, ms.length = as.length → (∀ i : Nat, i < ms.length → (0 ≤ gt ms i ∧ gt ms i < bn.length) ∧ gt bn (gt ms i) = gt as i) → nodeE bn ms as = 0
  | [], as, _, _ => rfl
  | k :: ms, [], hl, _ => by simp at hl
  | k :: ms, t :: as, hl, h => by
    have h0 := h 0 (by simp)
    rw [gt_cons0, gt_cons0] at h0
    rw [nodeE, if_pos h0.1, if_pos h0.2]
    exact nodeE_mk (by simpa using hl) fun i hi => by have := h (i + 1) (by simpa using hi); rwa [gt_cons, gt_cons] at this
theorem edgeE_mk {be : List E} {mn : List Int} : ∀ {ms : List Int} {as : List E}, ms.length = as.length → (∀ i : Nat, i < ms.length →
    (0 ≤ gt ms i ∧ gt ms i < be.length) ∧ (gt as i).t = (gt be (gt ms i)).t ∧ gt mn (gt as i).f = (gt be (gt ms i)).f ∧ gt mn (gt as i).o = (gt be (gt ms i)).o) → edgeE be mn ms as = 0
  | [], as, _, _ => by cases as <;> rfl
  | k :: ms, [], hl, _ => by simp at hl
  | k :: ms, x :: as, hl, h => by
    have h0 := h 0 (by simp)
    rw [gt_cons0, gt_cons0] at h0
    rw [edgeE, if_pos h0.1, if_pos h0.2.1, if_pos h0.2.2]
    exact edgeE_mk (by simpa using hl) fun i hi => by have := h (i + 1) (by simpa using hi); rwa [gt_cons, gt_cons] at this
/-- A morphism is right. -/
structure MOk (a b : G) (m : Mo) : Prop where
  va : validG a = 0
  vb : validG b = 0
  ln : m.n.length = a.n.length
  le : m.e.length = a.e.length
  nd : ∀ i : Nat, i < a.n.length → (0 ≤ gt m.n i ∧ gt m.n i < b.n.length) ∧ gt b.n (gt m.n i) = gt a.n i
  ed : ∀ i : Nat, i < a.e.length → (0 ≤ gt m.e i ∧ gt m.e i < b.e.length) ∧ (gt a.e i).t = (gt b.e (gt m.e i)).t ∧ gt m.n (gt a.e i).f = (gt b.e (gt m.e i)).f ∧ gt m.n (gt a.e i).o = (gt b.e (gt m.e i)).o
theorem mok {a b : G} {m : Mo} : validM a b m = 0 ↔ MOk a b m := by
  constructor
  · intro h
    obtain ⟨h1, h2, h3, h4, h5, h6⟩ := validM_spec h
    exact ⟨h1, h2, h3, h4, fun i hi => nodeE_all h5 h3 i (by omega), fun i hi => edgeE_all h6 h4 i (by omega)⟩
  · intro h
    unfold validM
    rw [if_neg (by simp [h.va]), if_neg (by simp [h.vb]), if_neg (by have := h.ln; have := h.le; omega), if_neg (by
      rw [nodeE_mk h.ln fun i hi => h.nd i (by have := h.ln; omega)]; simp)]
    exact edgeE_mk h.le fun i hi => h.ed i (by have := h.le; omega)
/-- A graph is right. -/
theorem valid_mk {g : G} (h1 : g.n.length ≤ 40) (h2 : g.e.length ≤ 80) (h3 : ∀ x, x ∈ g.n → okN x = true) (h4 : ∀ x, x ∈ g.e → fitsE g.n.length x = true) : validG g = 0 := by
  unfold validG
  rw [if_neg (by omega), if_pos]
  simp only [Bool.and_eq_true, List.all_eq_true]
  exact ⟨h3, h4⟩
theorem gt_inj {α : Type} [Inhabited α] {l : List α} (hn : l.Nodup) {i j : Nat} (hi : i < l.length) (hj : j < l.length) (h : gt l i = gt l j) : i = j := by
  rw [gt_nat hi, gt_nat hj] at h
  exact (List.getElem_inj hn).1 h
theorem gt_map {α β : Type} [Inhabited α] [Inhabited β] {l : List α} {f : α → β} {i : Nat} (h : i < l.length) : gt (l.map f) i = f (gt l i) := by
  rw [gt_nat (by simpa using h), gt_nat h]; simp
theorem gtI {α : Type} [Inhabited α] {l : List α} {y : Int} (h : 0 ≤ y ∧ y < l.length) : ∃ i : Nat, i < l.length ∧ y = (i : Int) := ⟨y.toNat, by omega, by omega⟩
theorem edge_fits {g : G} (h : validG g = 0) {i : Int} (hi : 0 ≤ i ∧ i < g.e.length) : (0 ≤ (gt g.e i).t ∧ (gt g.e i).t ≤ 99) ∧ (0 ≤ (gt g.e i).f ∧ (gt g.e i).f < g.n.length) ∧ (0 ≤ (gt g.e i).o ∧ (gt g.e i).o < g.n.length) :=
  fits_spec ((valid_spec h).2.2.2 _ (gt_mem hi.1 hi.2))
theorem nums_gt {n i : Nat} (hi : i < n) : gt (nums 0 n) i = i := by
  unfold nums
  rw [gt_nat (by simp; exact hi)]
  simp
theorem nums_mem {n : Nat} {x : Int} : x ∈ nums 0 n ↔ 0 ≤ x ∧ x < n := by
  unfold nums
  simp only [List.mem_map, List.mem_range]
  constructor
  · rintro ⟨k, hk, rfl⟩; omega
  · rintro ⟨h1, h2⟩; exact ⟨x.toNat, by omega, by omega⟩
theorem nums_nodup (n : Nat) : (nums 0 n).Nodup := by
  unfold nums List.Nodup
  rw [List.pairwise_map]
  exact (List.nodup_range (n := n)).imp fun h => by omega
def idM (g : G) : Mo := ⟨nums 0 g.n.length, nums 0 g.e.length⟩
theorem idM_ok {g : G} (h : validG g = 0) : MOk g g (idM g) := by
  refine ⟨h, h, by simp [idM, nums_len], by simp [idM, nums_len], fun i hi => ?_, fun i hi => ?_⟩
  · simp only [idM]
    rw [nums_gt hi]
    exact ⟨by omega, rfl⟩
  · simp only [idM]
    rw [nums_gt hi]
    obtain ⟨_, h1, h2⟩ := edge_fits h (i := i) (by omega)
    obtain ⟨j, hj, hj2⟩ := gtI h1
    obtain ⟨k, hk, hk2⟩ := gtI h2
    refine ⟨by omega, rfl, ?_, ?_⟩
    · rw [hj2, nums_gt hj]
    · rw [hk2, nums_gt hk]
end
end Go.Am
