/- Partitions: what pairs generate, and the classes. -/
/- Quotients of graphs, and what is glued: plain facts. -/
import Derived.Test.YtoeomfoohdheoaaSnPa
import Derived.Test.YtoeomfoohdheoaaSmF
namespace Go.Am
open Go
set_option linter.unusedVariables false
set_option linter.unusedSimpArgs false
/-- Elements that point to lesser ones, and where that ends. -/
structure Fo (p r : List Int) : Prop where
  l : p.length = r.length
  b : ∀ i : Nat, i < p.length → 0 ≤ gt p i ∧ gt p i ≤ i
  s : ∀ i : Nat, i < p.length → gt r (gt p i) = gt r i
  t : ∀ i : Nat, i < p.length → gt p i = i → gt r i = i
  c : ∀ i : Nat, i < p.length → (0 ≤ gt r i ∧ gt r i ≤ i) ∧ gt p (gt r i) = gt r i
/-- A list of least elements. -/
def Idem (p : List Int) : Prop := ∀ i : Nat, i < p.length → (0 ≤ gt p i ∧ gt p i ≤ i) ∧ gt p (gt p i) = gt p i
/-- The elements that are least. -/
def qN {α : Type} [Inhabited α] (l : List α) (p : List Int) : Nat → List α
  | 0 => []
  | i + 1 => if gt p i = i then qN l p i ++ [gt l i] else qN l p i
section
theorem natI {x : Int} (h : 0 ≤ x) : ∃ k : Nat, x = (k : Int) := ⟨x.toNat, by omega⟩
theorem Fo.idem {p r : List Int} (h : Fo p r) : Idem r := fun i hi => by
  obtain ⟨h1, h3⟩ := h.c i (by have := h.l; omega)
  refine ⟨h1, ?_⟩
  obtain ⟨k, hk⟩ := natI h1.1
  rw [hk] at h1 h3 ⊢
  exact h.t k (by have := h.l; omega) h3
theorem Fo.flat {p r : List Int} (h : Fo p r) {i : Nat} (hi : i < p.length) : Fo (p.set i (gt r i)) r := by
  obtain ⟨⟨c1, c2⟩, c3⟩ := h.c i hi
  have hid := (h.idem i (by have := h.l; omega)).2
  have hp : ∀ k : Nat, k < p.length → gt (p.set i (gt r i)) k = if i = k then gt r i else gt p k := fun k hk => gt_setH hk
  refine ⟨by simp [h.l], fun k hk => ?_, fun k hk => ?_, fun k hk => ?_, fun k hk => ?_⟩ <;> rw [List.length_set] at hk
  · rw [hp k hk]
    split
    · omega
    · exact h.b k hk
  · rw [hp k hk]
    split
    · rename_i e; subst e; exact hid
    · exact h.s k hk
  · rw [hp k hk]
    split
    · rename_i e; subst e; exact id
    · exact h.t k hk
  · obtain ⟨⟨d1, d2⟩, d3⟩ := h.c k hk
    refine ⟨⟨d1, d2⟩, ?_⟩
    have he := (h.idem k (by have := h.l; omega)).2
    obtain ⟨m, hm⟩ := natI d1
    rw [hm] at d2 d3 he ⊢
    rw [hp m (by omega)]
    split
    · rename_i e; subst e; exact he
    · exact d3
/-- The classes' numbers. -/
structure QS (p : List Int) (n : Nat) (s : List Int × Nat) : Prop where
  l : s.1.length = n
  c : s.2 ≤ n
  b : ∀ i : Nat, i < n → 0 ≤ gt s.1 i ∧ gt s.1 i < s.2
  r : ∀ i : Nat, i < n → gt s.1 (gt p i) = gt s.1 i
  j : ∀ i k : Nat, i < n → k < n → gt p i = i → gt p k = k → gt s.1 i = gt s.1 k → i = k
  s : ∀ k : Nat, k < s.2 → ∃ i : Nat, i < n ∧ gt p i = i ∧ gt s.1 i = k
theorem quo_QS {p : List Int} (hp : Idem p) : ∀ n : Nat, n ≤ p.length → QS p n (quo p n)
  | 0, _ => ⟨rfl, Nat.le_refl _, fun i hi => by omega, fun i hi => by omega, fun i k hi => by omega, fun k hk => by simp [quo] at hk⟩
  | n + 1, hn => by
    obtain ⟨h1, h2, h3, h4, h5, h6⟩ := quo_QS hp n (by omega)
    obtain ⟨⟨p1, p2⟩, p3⟩ := hp n (by omega)
    rw [quo]
    generalize quo p n = s at *
    obtain ⟨q, c⟩ := s
    simp only at h1 h2 h3 h4 h5 h6 ⊢
    split
    · rename_i e
      have hq : ∀ i : Nat, i < n → gt (q ++ [(c : Int)]) i = gt q i := fun i hi => gt_appS (by omega)
      have hn : gt (q ++ [(c : Int)]) n = c := gt_lastS h1.symm
      refine ⟨by simp [h1], by simp only; omega, fun i hi => ?_, fun i hi => ?_, fun i k hi hk ei ek he => ?_, fun k hk => ?_⟩ <;> simp only at *
      · by_cases x : i = n
        · subst x; rw [hn]; omega
        · rw [hq i (by omega)]; have := h3 i (by omega); omega
      · by_cases x : i = n
        · subst x; rw [e]
        · obtain ⟨⟨a1, a2⟩, a3⟩ := hp i (by omega)
          have ih := h4 i (by omega)
          obtain ⟨m, hm⟩ := natI a1
          rw [hm] at a2 ih ⊢
          rw [hq m (by omega), hq i (by omega), ih]
      · by_cases x : i = n
        · by_cases y : k = n
          · omega
          · subst x; rw [hn, hq k (by omega)] at he
            have := h3 k (by omega); omega
        · by_cases y : k = n
          · subst y; rw [hn, hq i (by omega)] at he
            have := h3 i (by omega); omega
          · rw [hq i (by omega), hq k (by omega)] at he
            exact h5 i k (by omega) (by omega) ei ek he
      · by_cases x : k = c
        · subst x; exact ⟨n, by omega, e, hn⟩
        · obtain ⟨i, i1, i2, i3⟩ := h6 k (by omega)
          exact ⟨i, by omega, i2, by rw [hq i i1, i3]⟩
    · rename_i e
      obtain ⟨m, hm⟩ := natI p1
      rw [hm] at p2 p3 e ⊢
      have hq : ∀ i : Nat, i < n → gt (q ++ [gt q m]) i = gt q i := fun i hi => gt_appS (by omega)
      have hn : gt (q ++ [gt q m]) n = gt q m := gt_lastS h1.symm
      refine ⟨by simp [h1], by simp only; omega, fun i hi => ?_, fun i hi => ?_, fun i k hi hk ei ek he => ?_, fun k hk => ?_⟩ <;> simp only at *
      · by_cases x : i = n
        · subst x; rw [hn]; exact h3 m (by omega)
        · rw [hq i (by omega)]; exact h3 i (by omega)
      · by_cases x : i = n
        · subst x; rw [hm, hn, hq m (by omega)]
        · obtain ⟨⟨a1, a2⟩, a3⟩ := hp i (by omega)
          have ih := h4 i (by omega)
          obtain ⟨m', hm'⟩ := natI a1
          rw [hm'] at a2 ih ⊢
          rw [hq m' (by omega), hq i (by omega), ih]
      · have x : i ≠ n := fun x => by subst x; omega
        have y : k ≠ n := fun x => by subst x; omega
        rw [hq i (by omega), hq k (by omega)] at he
        exact h5 i k (by omega) (by omega) ei ek he
      · obtain ⟨i, i1, i2, i3⟩ := h6 k hk
        exact ⟨i, by omega, i2, by rw [hq i i1, i3]⟩
theorem qN_len {α : Type} [Inhabited α] (l : List α) (p : List Int) : ∀ n : Nat, (qN l p n).length = (quo p n).2
  | 0 => rfl
  | n + 1 => by
    rw [qN, quo]
    split
    · rw [List.length_append, qN_len l p n]; rfl
    · exact qN_len l p n
theorem qN_gt {α : Type} [Inhabited α] (l : List α) {p : List Int} (hp : Idem p) : ∀ n : Nat, n ≤ p.length → ∀ i : Nat, i < n → gt p i = i → gt (qN l p n) (gt (quo p n).1 i) = gt l i
  | 0, _, i, hi, _ => by omega
  | n + 1, hn, i, hi, e => by
    have hs := quo_QS hp n (by omega)
    have hl := qN_len l p n
    rw [qN, quo]
    by_cases c : gt p n = n
    · rw [if_pos c, if_pos c]
      simp only
      by_cases x : i = n
      · subst x
        rw [gt_lastS hs.l.symm, ← hl, gt_lastS rfl]
      · rw [gt_appS (by have := hs.l; omega)]
        obtain ⟨b1, b2⟩ := hs.b i (by omega)
        have ih := qN_gt l hp n (by omega) i (by omega) e
        obtain ⟨m, hm⟩ := natI b1
        rw [hm] at b2 ih ⊢
        rw [gt_appS (by omega), ih]
    · rw [if_neg c, if_neg c]
      simp only
      have x : i ≠ n := fun x => by subst x; exact c e
      rw [gt_appS (by have := hs.l; omega)]
      exact qN_gt l hp n (by omega) i (by omega) e
theorem qN_all {α : Type} [Inhabited α] {l : List α} {p : List Int} (hp : Idem p) {n : Nat} (hn : n ≤ p.length) (hl : ∀ i : Nat, i < n → gt l (gt p i) = gt l i) {i : Nat} (hi : i < n) : gt (qN l p n) (gt (quo p n).1 i) = gt l i := by
  have hs := quo_QS hp n hn
  obtain ⟨⟨a1, a2⟩, a3⟩ := hp i (by omega)
  have h1 := hs.r i hi
  have h2 := hl i hi
  obtain ⟨k, hk⟩ := natI a1
  rw [hk] at a2 a3 h1 h2
  rw [← h1, qN_gt l hp n hn k (by omega) a3, h2]
theorem qN_mem {α : Type} [Inhabited α] {l : List α} {p : List Int} : ∀ {n : Nat}, n ≤ l.length → ∀ x ∈ qN l p n, x ∈ l
  | 0, _, x, hx => by simp [qN] at hx
  | n + 1, hn, x, hx => by
    rw [qN] at hx
    split at hx
    · rcases List.mem_append.1 hx with hx | hx
      · exact qN_mem (by omega) x hx
      · rw [List.mem_singleton] at hx
        rw [hx]; exact gt_mem (by omega) (by omega)
    · exact qN_mem (by omega) x hx
end
end Go.Am
namespace Go.Am
open Go
set_option linter.unusedVariables false
set_option linter.unusedSimpArgs false
def reE (q : List Int) (es : List E) : List E := es.map fun x => ⟨x.t, gt q x.f, gt q x.o⟩
def quoG (g : G) (p r : List Int) : G := ⟨qN g.n p p.length, qN (reE (quo p p.length).1 g.e) r r.length⟩
def quoM (p r : List Int) : Mo := ⟨(quo p p.length).1, (quo r r.length).1⟩
/-- Partitions by which a graph can be divided. -/
structure Cong (g : G) (p r : List Int) : Prop where
  pl : p.length = g.n.length
  rl : r.length = g.e.length
  ph : Idem p
  rh : Idem r
  pt : ∀ i : Nat, i < p.length → gt g.n (gt p i) = gt g.n i
  rt : ∀ i : Nat, i < r.length → gt (reE (quo p p.length).1 g.e) (gt r i) = gt (reE (quo p p.length).1 g.e) i
section
theorem reE_gt {q : List Int} {es : List E} {i : Nat} (h : i < es.length) : gt (reE q es) i = ⟨(gt es i).t, gt q (gt es i).f, gt q (gt es i).o⟩ := by
  unfold reE
  rw [gt_map h]
theorem Cong.node {g : G} {p r : List Int} (h : Cong g p r) {i : Nat} (hi : i < g.n.length) : (0 ≤ gt (quoM p r).n i ∧ gt (quoM p r).n i < (quoG g p r).n.length) ∧ gt (quoG g p r).n (gt (quoM p r).n i) = gt g.n i := by
  have hs := quo_QS h.ph _ (Nat.le_refl _)
  have hpl := h.pl
  refine ⟨?_, ?_⟩
  · simp only [quoM, quoG, qN_len]
    exact hs.b i (by omega)
  · exact qN_all h.ph (Nat.le_refl _) h.pt (by omega)
theorem Cong.edge {g : G} {p r : List Int} (h : Cong g p r) {i : Nat} (hi : i < g.e.length) : (0 ≤ gt (quoM p r).e i ∧ gt (quoM p r).e i < (quoG g p r).e.length) ∧ gt (quoG g p r).e (gt (quoM p r).e i) = ⟨(gt g.e i).t, gt (quoM p r).n (gt g.e i).f, gt (quoM p r).n (gt g.e i).o⟩ := by
  have hs := quo_QS h.rh _ (Nat.le_refl _)
  have hrl := h.rl
  refine ⟨?_, ?_⟩
  · simp only [quoM, quoG, qN_len]
    exact hs.b i (by omega)
  · have := qN_all h.rh (Nat.le_refl _) h.rt (show i < r.length by omega)
    simp only [quoM, quoG]
    rw [this, reE_gt hi]
theorem Cong.surE {g : G} {p r : List Int} (h : Cong g p r) {k : Nat} (hk : k < (quoG g p r).e.length) : ∃ i : Nat, i < g.e.length ∧ gt r i = i ∧ gt (quoM p r).e i = k := by
  have hs := quo_QS h.rh _ (Nat.le_refl _)
  simp only [quoG, qN_len] at hk
  obtain ⟨i, h1, h2, h3⟩ := hs.s k hk
  exact ⟨i, by rw [← h.rl]; exact h1, h2, h3⟩
theorem Cong.ok {g : G} {p r : List Int} (hv : validG g = 0) (h : Cong g p r) : MOk g (quoG g p r) (quoM p r) := by
  have vs := valid_spec hv
  have h1 := quo_QS h.ph _ (Nat.le_refl _)
  have h2 := quo_QS h.rh _ (Nat.le_refl _)
  have hpl := h.pl
  have hrl := h.rl
  refine ⟨hv, valid_mk ?_ ?_ (fun y hy => ?_) (fun y hy => ?_), ?_, ?_, fun i hi => h.node hi, fun i hi => ?_⟩
  · simp only [quoG, qN_len]; have := h1.c; omega
  · simp only [quoG, qN_len]; have := h2.c; omega
  · exact vs.2.2.1 y (qN_mem (by omega) y hy)
  · obtain ⟨k, hk, hk2⟩ := mem_gt hy
    obtain ⟨i, hi, _, hi2⟩ := h.surE hk
    have he := (h.edge hi).2
    rw [hi2, hk2] at he
    rw [he]
    obtain ⟨t1, t2, t3⟩ := edge_fits hv (i := i) (by omega)
    obtain ⟨a, ha, ha2⟩ := gtI t2
    obtain ⟨b, hb, hb2⟩ := gtI t3
    rw [ha2, hb2]
    exact fits_mk t1 (h.node ha).1 (h.node hb).1
  · simp only [quoM]; rw [h1.l, hpl]
  · simp only [quoM]; rw [h2.l, hrl]
  · obtain ⟨e1, e2⟩ := h.edge hi
    refine ⟨e1, ?_⟩
    rw [e2]
    exact ⟨rfl, rfl, rfl⟩
section
variable {a g : G} {f h : Mo}
end
end
end Go.Am
