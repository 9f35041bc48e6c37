/- What Reorder does. -/
import Derived.Test.YtfkkngepnnkloaaSjN
namespace Go.Am
open Go
set_option linter.unusedVariables false
set_option linter.unusedSimpArgs false
theorem perm_len {p : List Int} {n : Nat} (h : p.Perm (nums 0 n)) : p.length = n := by rw [h.length_eq, nums_len]
theorem perm_inj {p : List Int} {n : Nat} (h : p.Perm (nums 0 n)) {i j : Nat} (hi : i < n) (hj : j < n) (e : gt p (i : Int) = gt p (j : Int)) : i = j := by
  have hl := perm_len h
  have hnd : p.Nodup := h.symm.nodup_iff.1 (nums_nodup n)
  rw [gt_nat (by omega), gt_nat (by omega)] at e
  have := List.nodup_iff_pairwise_ne.1 hnd
  rw [List.pairwise_iff_getElem] at this
  rcases Nat.lt_trichotomy i j with h | h | h
  · exact absurd e (this i j (by omega) (by omega) h)
  · exact h
  · exact absurd e.symm (this j i (by omega) (by omega) h)
theorem gt_set' {α : Type} [Inhabited α] {l : List α} {i : Nat} {v : α} (j : Nat) : gt (l.set i v) (j : Int) = if j = i ∧ i < l.length then v else gt l (j : Int) := by
  simp only [gt, Int.toNat_natCast, List.getD_eq_getElem?_getD, List.getElem?_set]
  by_cases h : j = i
  · subst h
    by_cases h2 : j < l.length <;> simp [h2]
  · rw [if_neg (Ne.symm h), if_neg (fun e => h e.1)]
theorem place_at {α : Type} [Inhabited α] {p : List Int} {l : List α} (h : p.Perm (nums 0 l.length)) : ∀ k, k ≤ l.length → ∀ i : Nat, i < k → gt (placeK p l k) (gt p (i : Int)) = gt l (i : Int)
  | 0, _, i, hi => by omega
  | k + 1, hk, i, hi => by
    have hpi := perm_in h (j := i) (by omega) (by omega)
    have hpk := perm_in h (j := k) (by omega) (by omega)
    have hln := placeK_len p l k
    have e0 : gt p (i : Int) = (((gt p (i : Int)).toNat : Nat) : Int) := (Int.toNat_of_nonneg hpi.1).symm
    simp only [placeK]
    rw [e0, gt_set']
    by_cases hik : i = k
    · subst hik
      rw [if_pos ⟨rfl, by omega⟩]
    · have hne : (gt p (i : Int)).toNat ≠ (gt p (k : Int)).toNat := fun e => hik (perm_inj h (by omega) (by omega) (by omega))
      rw [if_neg (fun e => hne e.1), ← e0]
      exact place_at h k (by omega) i (by omega)
theorem gt_extn {α : Type} [Inhabited α] {a b : List α} (hl : a.length = b.length) (h : ∀ i : Nat, i < a.length → gt a (i : Int) = gt b (i : Int)) : a = b := by
  refine List.ext_getElem hl fun i h1 h2 => ?_
  have := h i h1
  rw [gt_nat h1, gt_nat h2] at this
  exact this
theorem gt_map {α β : Type} [Inhabited α] [Inhabited β] {f : α → β} {l : List α} {i : Nat} (h : i < l.length) : gt (l.map f) (i : Int) = f (gt l (i : Int)) := by
  rw [gt_nat (by simpa using h), gt_nat h]; simp
theorem gt_nums {n i : Nat} (h : i < n) (f : Int) : gt (nums f n) (i : Int) = f + i := by
  rw [gt_nat (by rw [nums_len]; exact h)]; simp [nums]
theorem place_perm {α : Type} [Inhabited α] {p : List Int} {l : List α} (h : p.Perm (nums 0 l.length)) : (placeK p l l.length).Perm l := by
  have hpl := perm_len h
  have hln := placeK_len p l l.length
  have e1 : l = p.map (gt (placeK p l l.length)) := gt_extn (by simp [hpl]) fun i hi => by
    rw [gt_map (by omega)]
    exact (place_at h _ (Nat.le_refl _) i hi).symm
  have e2 : (nums 0 l.length).map (gt (placeK p l l.length)) = placeK p l l.length := gt_extn (by simp [nums_len, hln]) fun i hi => by
    have hi' : i < l.length := by simpa [nums_len] using hi
    rw [gt_map (by rw [nums_len]; exact hi'), gt_nums hi', Int.zero_add]
  have := (h.map (gt (placeK p l l.length))).symm
  rw [e2, ← e1] at this
  exact this
def invP (p : List Int) : List Int := placeK p (nums 0 p.length) p.length
theorem invP_perm {p : List Int} {n : Nat} (h : p.Perm (nums 0 n)) : (invP p).Perm (nums 0 n) := by
  have hl := perm_len h
  have := place_perm (p := p) (l := nums 0 n) (by rw [nums_len]; exact h)
  rw [nums_len] at this
  unfold invP
  rw [hl]
  exact this
theorem invP_at {p : List Int} {n : Nat} (h : p.Perm (nums 0 n)) {i : Nat} (hi : i < n) : gt (invP p) (gt p (i : Int)) = i := by
  have hl := perm_len h
  have := place_at (p := p) (l := nums 0 n) (by rw [nums_len]; exact h) n (by rw [nums_len]; exact Nat.le_refl _) i hi
  rw [gt_nums hi] at this
  unfold invP
  rw [hl, this]
  omega
theorem place_back {α : Type} [Inhabited α] {p : List Int} {l : List α} (h : p.Perm (nums 0 l.length)) (i : Nat) (hi : i < l.length) : gt (placeK (invP p) (placeK p l l.length) l.length) (i : Int) = gt l (i : Int) := by
  have hpi := perm_in h (j := i) (by omega) (by omega)
  have hq := invP_perm h
  have hln := placeK_len p l l.length
  have a := place_at (p := invP p) (l := placeK p l l.length) (by rw [hln]; exact hq) l.length (by rw [hln]; exact Nat.le_refl _) (gt p (i : Int)).toNat (by omega)
  rw [Int.toNat_of_nonneg hpi.1, invP_at h hi] at a
  rw [a]
  exact place_at h _ (Nat.le_refl _) i hi
theorem reG_back {g : G} {m : Mo} (hv : validG g = 0) (p1 : m.n.Perm (nums 0 g.n.length)) (p2 : m.e.Perm (nums 0 g.e.length)) : reG (reG g m) ⟨invP m.n, invP m.e⟩ = g := by
  obtain ⟨v1, v2, v3, v4⟩ := valid_spec hv
  obtain ⟨gn, ge⟩ := g
  obtain ⟨mn, me⟩ := m
  simp only at v1 v2 v3 v4 p1 p2
  have l1 := placeK_len mn gn gn.length
  have l2 := placeK_len me (ge.map (remE mn)) ge.length
  have ml : (ge.map (remE mn)).length = ge.length := by simp
  simp only [reG, l1, l2, ml, G.mk.injEq]
  refine ⟨gt_extn (by rw [placeK_len, l1]) fun i hi => ?_, gt_extn (by rw [placeK_len]; simp [l2]) fun i hi => ?_⟩
  · rw [placeK_len, l1] at hi
    exact place_back p1 i hi
  · rw [placeK_len, List.length_map, l2, ml] at hi
    have hpi := perm_in p2 (j := i) (by omega) (by omega)
    have hq := invP_perm p2
    have a := place_at (p := invP me) (l := (placeK me (ge.map (remE mn)) ge.length).map (remE (invP mn))) (by rw [List.length_map, l2, ml]; exact hq) ge.length (by rw [List.length_map, l2, ml]; exact Nat.le_refl _) (gt me (i : Int)).toNat (by omega)
    rw [gt_map (by rw [l2, ml]; omega), Int.toNat_of_nonneg hpi.1, invP_at p2 hi] at a
    rw [a]
    have b := place_at (p := me) (l := ge.map (remE mn)) (by rw [ml]; exact p2) ge.length (by rw [ml]; exact Nat.le_refl _) i hi
    rw [b, gt_map hi]
    have hf := fits_spec (v4 _ (gt_mem (j := i) (by omega) (by omega)))
    have i1 := invP_at p1 (i := (gt ge (i : Int)).f.toNat) (by omega)
    have i2 := invP_at p1 (i := (gt ge (i : Int)).o.toNat) (by omega)
    rw [gt_toNat] at i1 i2
    simp only [remE, i1, i2]
    rw [Int.toNat_of_nonneg hf.2.1.1, Int.toNat_of_nonneg hf.2.2.1]
theorem idxs_count {α : Type} [Inhabited α] (f : α → Bool) (l : List α) : ∀ k, k ≤ l.length → (idxs (fun i => f (gt l (i : Int))) k).length = (l.take k).countP f
  | 0, _ => by simp [idxs]
  | k + 1, hk => by
    have ih := idxs_count f l k (by omega)
    rw [take_gt (by omega), List.countP_append, ← ih]
    simp only [idxs]
    split <;> rename_i h <;> simp [h]
theorem idxs_count' {α : Type} [Inhabited α] (f : α → Bool) (l : List α) : (idxs (fun i => f (gt l (i : Int))) l.length).length = l.countP f := by
  rw [idxs_count f l _ (Nat.le_refl _), List.take_length]
theorem fits_mk {n : Int} {x : E} (h1 : 0 ≤ x.t ∧ x.t ≤ 99) (h2 : 0 ≤ x.f ∧ x.f < n) (h3 : 0 ≤ x.o ∧ x.o < n) : fitsE n x = true := by
  simp only [fitsE, Bool.and_eq_true, decide_eq_true_eq]
  omega
theorem reG_valid {g : G} {m : Mo} (hv : validG g = 0) (p1 : m.n.Perm (nums 0 g.n.length)) (p2 : m.e.Perm (nums 0 g.e.length)) : validG (reG g m) = 0 := by
  obtain ⟨v1, v2, v3, v4⟩ := valid_spec hv
  have l1 := placeK_len m.n g.n g.n.length
  have l2 := placeK_len m.e (g.e.map (remE m.n)) g.e.length
  have ml : (g.e.map (remE m.n)).length = g.e.length := by simp
  have q1 := place_perm (p := m.n) (l := g.n) p1
  have q2 := place_perm (p := m.e) (l := g.e.map (remE m.n)) (by rw [ml]; exact p2)
  rw [ml] at q2
  have l1' : (reG g m).n.length = g.n.length := l1
  have l2' : (reG g m).e.length = g.e.length := by rw [← ml]; exact l2
  unfold validG
  rw [if_neg (by omega), if_pos]
  simp only [Bool.and_eq_true, List.all_eq_true, l1']
  refine ⟨fun x hx => v3 x (q1.mem_iff.1 hx), fun x hx => ?_⟩
  have := q2.mem_iff.1 hx
  simp only [List.mem_map] at this
  obtain ⟨y, hy, rfl⟩ := this
  have hf := fits_spec (v4 y hy)
  have h1 := perm_in p1 hf.2.1.1 hf.2.1.2
  have h2 := perm_in p1 hf.2.2.1 hf.2.2.2
  exact fits_mk hf.1 ⟨h1.1, h1.2⟩ ⟨h2.1, h2.2⟩
theorem inc_len {g : G} {m : Mo} (hv : validG g = 0) (p1 : m.n.Perm (nums 0 g.n.length)) (p2 : m.e.Perm (nums 0 g.e.length)) {i : Nat} (hi : i < g.n.length) :
    ∃ a b c d, incG g i = (a, b, 0) ∧ incG (reG g m) (gt m.n i) = (c, d, 0) ∧ a.length = c.length ∧ b.length = d.length ∧ a.length ≤ g.e.length ∧ b.length ≤ g.e.length := by
  obtain ⟨v1, v2, v3, v4⟩ := valid_spec hv
  have hw := reG_valid hv p1 p2
  have l1 := placeK_len m.n g.n g.n.length
  have ml : (g.e.map (remE m.n)).length = g.e.length := by simp
  have q2 := place_perm (p := m.e) (l := g.e.map (remE m.n)) (by rw [ml]; exact p2)
  rw [ml] at q2
  have hpi := perm_in p1 (j := i) (by omega) (by omega)
  have hl1 : (reG g m).n.length = g.n.length := l1
  have inj : ∀ v : Int, 0 ≤ v → v < g.n.length → (gt m.n v = gt m.n (i : Int) ↔ v = i) := fun v h0 h1 => by
    constructor
    · intro e
      rw [← Int.toNat_of_nonneg h0] at e
      have := perm_inj p1 (by omega) hi e
      omega
    · rintro rfl; rfl
  have cnt : ∀ (s : E → Int), (∀ y, s (remE m.n y) = gt m.n (s y)) → (∀ y ∈ g.e, 0 ≤ s y ∧ s y < g.n.length) → g.e.countP (fun x => decide (s x = (i : Int))) = (reG g m).e.countP (fun x => decide (s x = gt m.n (i : Int))) := fun s hs hr => by
    have : (reG g m).e.countP (fun x => decide (s x = gt m.n (i : Int))) = (g.e.map (remE m.n)).countP (fun x => decide (s x = gt m.n (i : Int))) := q2.countP_eq _
    rw [this, List.countP_map]
    refine List.countP_congr fun y hy => ?_
    have := inj (s y) (hr y hy).1 (hr y hy).2
    simp [hs, this]
  have c1 := cnt E.o (fun _ => rfl) fun y hy => (fits_spec (v4 y hy)).2.2
  have c2 := cnt E.f (fun _ => rfl) fun y hy => (fits_spec (v4 y hy)).2.1
  refine ⟨idxs (fun j => decide ((gt g.e j).o = (i : Int))) g.e.length, idxs (fun j => decide ((gt g.e j).f = (i : Int))) g.e.length, idxs (fun j => decide ((gt (reG g m).e j).o = gt m.n (i : Int))) (reG g m).e.length,
    idxs (fun j => decide ((gt (reG g m).e j).f = gt m.n (i : Int))) (reG g m).e.length, ?_, ?_, ?_, ?_, idxs_len _ _, idxs_len _ _⟩
  · unfold incG
    rw [if_neg (by simpa using hv), if_neg (by omega)]
  · unfold incG
    rw [if_neg (by simpa using hw), if_neg (by rw [hl1]; omega)]
  · rw [idxs_count' (fun x : E => decide (x.o = (i : Int))), idxs_count' (fun x : E => decide (x.o = gt m.n (i : Int)))]
    exact c1
  · rw [idxs_count' (fun x : E => decide (x.f = (i : Int))), idxs_count' (fun x : E => decide (x.f = gt m.n (i : Int)))]
    exact c2
end Go.Am
