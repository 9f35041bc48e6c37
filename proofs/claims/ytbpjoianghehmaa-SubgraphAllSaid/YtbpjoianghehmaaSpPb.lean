/- Partitions: what pairs generate, and the classes. -/
/- Quotients of graphs, and what is glued: plain facts. -/
/- Parts of graphs: whether they are right; membership. -/
/- Complements: what is deleted, dangles, is identified. -/
/- Closing of parts; Dangling, Identified, Of and Check of complements. -/
/- Repair of parts: the program's and the reference's functions. -/
/- slices.Concat; disjoint unions. -/
/- Disjoint unions and pushouts: plain facts. -/
/- Unions of parts; the law ComplementLeast. -/
/- Pushouts: what is injective, exchanged, in another order; plain facts. -/
/- Places in lists, plain. -/
/- Unions, intersections, images and boundaries of parts, plain. -/
/- Parts: deletion of numbers, intersections, images and preimages: the walks. -/
import Derived.Test.YtbpjoianghehmaaSpPa
namespace Go.Am
open Go
set_option linter.unusedVariables false
set_option linter.unusedSimpArgs false
/-- The partition after some pairs. -/
def genI (n : Nat) (l : List Pr) : Nat → List Int
  | 0 => nums 0 n
  | i + 1 => mergeL (genI n l i) (gt l i).a (gt l i).b
def genL (n : Nat) (l : List Pr) : List Int := genI n l l.length
def PrIn (n : Nat) (l : List Pr) : Prop := ∀ i : Nat, i < l.length → (0 ≤ (gt l i).a ∧ (gt l i).a < n) ∧ (0 ≤ (gt l i).b ∧ (gt l i).b < n)
/-- Elements that point to lesser ones, and where that ends. -/
structure Fo (p r : List Int) : Prop where
  l : p.length = r.length
  b : ∀ i : Nat, i < p.length → 0 ≤ gt p i ∧ gt p i ≤ i
  s : ∀ i : Nat, i < p.length → gt r (gt p i) = gt r i
  t : ∀ i : Nat, i < p.length → gt p i = i → gt r i = i
  c : ∀ i : Nat, i < p.length → (0 ≤ gt r i ∧ gt r i ≤ i) ∧ gt p (gt r i) = gt r i
/-- A list of least elements. -/
def Idem (p : List Int) : Prop := ∀ i : Nat, i < p.length → (0 ≤ gt p i ∧ gt p i ≤ i) ∧ gt p (gt p i) = gt p i
/-- The elements that are least. -/
def qN {α : Type} [Inhabited α] (l : List α) (p : List Int) : Nat → List α
  | 0 => []
  | i + 1 => if gt p i = i then qN l p i ++ [gt l i] else qN l p i
section
theorem natI {x : Int} (h : 0 ≤ x) : ∃ k : Nat, x = (k : Int) := ⟨x.toNat, by omega⟩
theorem mergeL_gt {p : List Int} {a b : Int} {i : Nat} (hi : i < p.length) : gt (mergeL p a b) i = if gt p i = max (gt p a) (gt p b) then min (gt p a) (gt p b) else gt p i := by
  unfold mergeL
  rw [gt_nat (by simpa using hi), gt_nat hi]
  simp
theorem Fo.idem {p r : List Int} (h : Fo p r) : Idem r := fun i hi => by
  obtain ⟨h1, h3⟩ := h.c i (by have := h.l; omega)
  refine ⟨h1, ?_⟩
  obtain ⟨k, hk⟩ := natI h1.1
  rw [hk] at h1 h3 ⊢
  exact h.t k (by have := h.l; omega) h3
theorem nums_Fo (n : Nat) : Fo (nums 0 n) (nums 0 n) := by
  refine ⟨rfl, fun i hi => ?_, fun i hi => ?_, fun i hi _ => ?_, fun i hi => ?_⟩ <;> rw [nums_len] at hi
  · rw [nums_gt hi]; omega
  · rw [nums_gt hi]; exact nums_gt hi
  · exact nums_gt hi
  · rw [nums_gt hi]; exact ⟨by omega, nums_gt hi⟩
theorem Fo.unite {p r : List Int} (h : Fo p r) {a b : Nat} (ha : a < p.length) (hb : b < p.length) :
    Fo (p.set (max (gt r a) (gt r b)).toNat (min (gt r a) (gt r b))) (mergeL r a b) := by
  have hl := h.l
  obtain ⟨⟨a1, a2⟩, a3⟩ := h.c a ha
  obtain ⟨⟨b1, b2⟩, b3⟩ := h.c b hb
  have ia := (h.idem a (by omega)).2
  have ib := (h.idem b (by omega)).2
  have hg : ∀ i : Nat, i < p.length → gt (mergeL r a b) i = if gt r i = max (gt r a) (gt r b) then min (gt r a) (gt r b) else gt r i := fun i hi => mergeL_gt (by omega)
  have hm : (mergeL r a b).length = p.length := by rw [merge_len, hl]
  have l1 : gt r (min (gt r a) (gt r b)) = min (gt r a) (gt r b) ∧ gt p (min (gt r a) (gt r b)) = min (gt r a) (gt r b) := by
    by_cases c : gt r a ≤ gt r b
    · rw [Int.min_eq_left c]; exact ⟨ia, a3⟩
    · rw [Int.min_eq_right (by omega)]; exact ⟨ib, b3⟩
  have h1 : gt r (max (gt r a) (gt r b)) = max (gt r a) (gt r b) ∧ gt p (max (gt r a) (gt r b)) = max (gt r a) (gt r b) := by
    by_cases c : gt r a ≤ gt r b
    · rw [Int.max_eq_right c]; exact ⟨ib, b3⟩
    · rw [Int.max_eq_left (by omega)]; exact ⟨ia, a3⟩
  obtain ⟨lo, hlo⟩ := natI (x := min (gt r a) (gt r b)) (by omega)
  obtain ⟨hi, hhi⟩ := natI (x := max (gt r a) (gt r b)) (by omega)
  have hle : lo ≤ hi := by omega
  have hlt : hi < p.length := by omega
  rw [hlo] at l1
  rw [hhi] at h1
  rw [hlo, hhi, Int.toNat_natCast]
  simp only [hlo, hhi] at hg
  generalize mergeL r a b = r' at *
  have hp : ∀ i : Nat, i < p.length → gt (p.set hi (lo : Int)) i = if hi = i then (lo : Int) else gt p i := fun i hi' => gt_setH hi'
  refine ⟨by simp [hm], fun i hi' => ?_, fun i hi' => ?_, fun i hi' => ?_, fun i hi' => ?_⟩ <;> rw [List.length_set] at hi'
  · rw [hp i hi']
    split
    · omega
    · exact h.b i hi'
  · rw [hp i hi']
    split
    · rename_i e; subst e
      rw [hg lo (by omega), hg hi hlt, l1.1, h1.1, if_pos rfl]
      split <;> rfl
    · have hb' := h.b i hi'
      have hs := h.s i hi'
      obtain ⟨k, hk⟩ := natI hb'.1
      rw [hk] at hs hb' ⊢
      rw [hg k (by omega), hg i hi', hs]
  · rw [hp i hi', hg i hi']
    split
    · rename_i e; subst e
      intro e
      rw [h1.1, if_pos rfl]; exact e
    · rename_i e
      intro e2
      rw [h.t i hi' e2, if_neg (by omega)]
  · obtain ⟨⟨c1, c2⟩, c3⟩ := h.c i hi'
    rw [hg i hi']
    split
    · refine ⟨by omega, ?_⟩
      rw [hp lo (by omega), l1.2]
      split <;> rfl
    · rename_i e
      refine ⟨⟨c1, c2⟩, ?_⟩
      obtain ⟨k, hk⟩ := natI c1
      rw [hk] at c2 c3 e ⊢
      rw [hp k (by omega), if_neg (by omega)]
      exact c3
theorem Fo.flat {p r : List Int} (h : Fo p r) {i : Nat} (hi : i < p.length) : Fo (p.set i (gt r i)) r := by
  obtain ⟨⟨c1, c2⟩, c3⟩ := h.c i hi
  have hid := (h.idem i (by have := h.l; omega)).2
  have hp : ∀ k : Nat, k < p.length → gt (p.set i (gt r i)) k = if i = k then gt r i else gt p k := fun k hk => gt_setH hk
  refine ⟨by simp [h.l], fun k hk => ?_, fun k hk => ?_, fun k hk => ?_, fun k hk => ?_⟩ <;> rw [List.length_set] at hk
  · rw [hp k hk]
    split
    · omega
    · exact h.b k hk
  · rw [hp k hk]
    split
    · rename_i e; subst e; exact hid
    · exact h.s k hk
  · rw [hp k hk]
    split
    · rename_i e; subst e; exact id
    · exact h.t k hk
  · obtain ⟨⟨d1, d2⟩, d3⟩ := h.c k hk
    refine ⟨⟨d1, d2⟩, ?_⟩
    have he := (h.idem k (by have := h.l; omega)).2
    obtain ⟨m, hm⟩ := natI d1
    rw [hm] at d2 d3 he ⊢
    rw [hp m (by omega)]
    split
    · rename_i e; subst e; exact he
    · exact d3
theorem gen_Fo {n : Nat} {l : List Pr} (hl : PrIn n l) : ∀ i : Nat, i ≤ l.length → ∃ p, Fo p (genI n l i) ∧ p.length = n
  | 0, _ => ⟨_, nums_Fo n, nums_len 0 n⟩
  | i + 1, hi => by
    obtain ⟨p, h1, h2⟩ := gen_Fo hl i (by omega)
    obtain ⟨⟨a1, a2⟩, b1, b2⟩ := hl i (by omega)
    obtain ⟨a, ha⟩ := natI a1
    obtain ⟨b, hb⟩ := natI b1
    rw [genI, ha, hb]
    exact ⟨_, h1.unite (a := a) (b := b) (by omega) (by omega), by rw [List.length_set, h2]⟩
theorem gen_len {n : Nat} {l : List Pr} : ∀ i : Nat, (genI n l i).length = n
  | 0 => nums_len 0 n
  | i + 1 => by rw [genI, merge_len, gen_len i]
theorem gen_idem {n : Nat} {l : List Pr} (hl : PrIn n l) {i : Nat} (hi : i ≤ l.length) : Idem (genI n l i) :=
  let ⟨_, h, _⟩ := gen_Fo hl i hi; h.idem
theorem merge_same {p : List Int} {a b : Int} {x y : Nat} (hx : x < p.length) (hy : y < p.length) (h : gt p x = gt p y) : gt (mergeL p a b) x = gt (mergeL p a b) y := by
  rw [mergeL_gt hx, mergeL_gt hy, h]
theorem merge_ab {p : List Int} {a b : Nat} (ha : a < p.length) (hb : b < p.length) : gt (mergeL p a b) a = gt (mergeL p a b) b := by
  rw [mergeL_gt ha, mergeL_gt hb]
  by_cases c : gt p a ≤ gt p b
  · rw [Int.max_eq_right c, Int.min_eq_left c, if_pos rfl]
    split <;> rfl
  · rw [Int.max_eq_left (by omega), Int.min_eq_right (by omega), if_pos rfl]
    split <;> rfl
theorem gen_pair {n : Nat} {l : List Pr} (hl : PrIn n l) : ∀ i : Nat, i ≤ l.length → ∀ k : Nat, k < i → gt (genI n l i) (gt l k).a = gt (genI n l i) (gt l k).b
  | 0, _, k, hk => by omega
  | i + 1, hi, k, hk => by
    have gl := gen_len (n := n) (l := l) i
    obtain ⟨⟨a1, a2⟩, b1, b2⟩ := hl k (by omega)
    rw [genI]
    by_cases c : k = i
    · subst c
      obtain ⟨a, ha⟩ := natI a1
      obtain ⟨b, hb⟩ := natI b1
      rw [ha, hb]
      exact merge_ab (by omega) (by omega)
    · have ih := gen_pair hl i (by omega) k (by omega)
      obtain ⟨a, ha⟩ := natI a1
      obtain ⟨b, hb⟩ := natI b1
      rw [ha, hb] at ih ⊢
      exact merge_same (by omega) (by omega) ih
theorem gen_fun {β : Type} {φ : Int → β} {n : Nat} {l : List Pr} (hl : PrIn n l) (hf : ∀ i : Nat, i < l.length → φ (gt l i).a = φ (gt l i).b) : ∀ i : Nat, i ≤ l.length → ∀ k : Nat, k < n → φ (gt (genI n l i) k) = φ k
  | 0, _, k, hk => by rw [genI, nums_gt hk]
  | i + 1, hi, k, hk => by
    have gl := gen_len (n := n) (l := l) i
    obtain ⟨⟨a1, a2⟩, b1, b2⟩ := hl i (by omega)
    have ih := gen_fun hl hf i (by omega)
    have he := hf i (by omega)
    obtain ⟨a, ha⟩ := natI a1
    obtain ⟨b, hb⟩ := natI b1
    rw [genI, ha, hb, mergeL_gt (by omega)]
    rw [ha, hb] at he
    have ea := ih a (by omega)
    have eb := ih b (by omega)
    have ek := ih k hk
    by_cases c : gt (genI n l i) a ≤ gt (genI n l i) b
    · rw [Int.max_eq_right c, Int.min_eq_left c]
      split
      · rename_i e
        rw [ea, he, ← eb, ← e, ek]
      · exact ek
    · rw [Int.max_eq_left (by omega), Int.min_eq_right (by omega)]
      split
      · rename_i e
        rw [eb, ← he, ← ea, ← e, ek]
      · exact ek
/-- The classes' numbers. -/
structure QS (p : List Int) (n : Nat) (s : List Int × Nat) : Prop where
  l : s.1.length = n
  c : s.2 ≤ n
  b : ∀ i : Nat, i < n → 0 ≤ gt s.1 i ∧ gt s.1 i < s.2
  r : ∀ i : Nat, i < n → gt s.1 (gt p i) = gt s.1 i
  j : ∀ i k : Nat, i < n → k < n → gt p i = i → gt p k = k → gt s.1 i = gt s.1 k → i = k
  s : ∀ k : Nat, k < s.2 → ∃ i : Nat, i < n ∧ gt p i = i ∧ gt s.1 i = k
theorem quo_QS {p : List Int} (hp : Idem p) : ∀ n : Nat, n ≤ p.length → QS p n (quo p n)
  | 0, _ => ⟨rfl, Nat.le_refl _, fun i hi => by omega, fun i hi => by omega, fun i k hi => by omega, fun k hk => by simp [quo] at hk⟩
  | n + 1, hn => by
    obtain ⟨h1, h2, h3, h4, h5, h6⟩ := quo_QS hp n (by omega)
    obtain ⟨⟨p1, p2⟩, p3⟩ := hp n (by omega)
    rw [quo]
    generalize quo p n = s at *
    obtain ⟨q, c⟩ := s
    simp only at h1 h2 h3 h4 h5 h6 ⊢
    split
    · rename_i e
      have hq : ∀ i : Nat, i < n → gt (q ++ [(c : Int)]) i = gt q i := fun i hi => gt_appS (by omega)
      have hn : gt (q ++ [(c : Int)]) n = c := gt_lastS h1.symm
      refine ⟨by simp [h1], by simp only; omega, fun i hi => ?_, fun i hi => ?_, fun i k hi hk ei ek he => ?_, fun k hk => ?_⟩ <;> simp only at *
      · by_cases x : i = n
        · subst x; rw [hn]; omega
        · rw [hq i (by omega)]; have := h3 i (by omega); omega
      · by_cases x : i = n
        · subst x; rw [e]
        · obtain ⟨⟨a1, a2⟩, a3⟩ := hp i (by omega)
          have ih := h4 i (by omega)
          obtain ⟨m, hm⟩ := natI a1
          rw [hm] at a2 ih ⊢
          rw [hq m (by omega), hq i (by omega), ih]
      · by_cases x : i = n
        · by_cases y : k = n
          · omega
          · subst x; rw [hn, hq k (by omega)] at he
            have := h3 k (by omega); omega
        · by_cases y : k = n
          · subst y; rw [hn, hq i (by omega)] at he
            have := h3 i (by omega); omega
          · rw [hq i (by omega), hq k (by omega)] at he
            exact h5 i k (by omega) (by omega) ei ek he
      · by_cases x : k = c
        · subst x; exact ⟨n, by omega, e, hn⟩
        · obtain ⟨i, i1, i2, i3⟩ := h6 k (by omega)
          exact ⟨i, by omega, i2, by rw [hq i i1, i3]⟩
    · rename_i e
      obtain ⟨m, hm⟩ := natI p1
      rw [hm] at p2 p3 e ⊢
      have hq : ∀ i : Nat, i < n → gt (q ++ [gt q m]) i = gt q i := fun i hi => gt_appS (by omega)
      have hn : gt (q ++ [gt q m]) n = gt q m := gt_lastS h1.symm
      refine ⟨by simp [h1], by simp only; omega, fun i hi => ?_, fun i hi => ?_, fun i k hi hk ei ek he => ?_, fun k hk => ?_⟩ <;> simp only at *
      · by_cases x : i = n
        · subst x; rw [hn]; exact h3 m (by omega)
        · rw [hq i (by omega)]; exact h3 i (by omega)
      · by_cases x : i = n
        · subst x; rw [hm, hn, hq m (by omega)]
        · obtain ⟨⟨a1, a2⟩, a3⟩ := hp i (by omega)
          have ih := h4 i (by omega)
          obtain ⟨m', hm'⟩ := natI a1
          rw [hm'] at a2 ih ⊢
          rw [hq m' (by omega), hq i (by omega), ih]
      · have x : i ≠ n := fun x => by subst x; omega
        have y : k ≠ n := fun x => by subst x; omega
        rw [hq i (by omega), hq k (by omega)] at he
        exact h5 i k (by omega) (by omega) ei ek he
      · obtain ⟨i, i1, i2, i3⟩ := h6 k hk
        exact ⟨i, by omega, i2, by rw [hq i i1, i3]⟩
theorem QS.iff {p : List Int} {n : Nat} {s : List Int × Nat} (hp : Idem p) (hn : n ≤ p.length) (h : QS p n s) {i k : Nat} (hi : i < n) (hk : k < n) : gt s.1 i = gt s.1 k ↔ gt p i = gt p k := by
  obtain ⟨⟨a1, a2⟩, a3⟩ := hp i (by omega)
  obtain ⟨⟨b1, b2⟩, b3⟩ := hp k (by omega)
  have hi' := h.r i hi
  have hk' := h.r k hk
  obtain ⟨x, hx⟩ := natI a1
  obtain ⟨y, hy⟩ := natI b1
  rw [hx] at a2 a3 hi' ⊢
  rw [hy] at b2 b3 hk' ⊢
  constructor
  · intro e
    have := h.j x y (by omega) (by omega) a3 b3 (by rw [hi', hk', e])
    rw [this]
  · intro e
    rw [← hi', ← hk', e]
theorem qN_len {α : Type} [Inhabited α] (l : List α) (p : List Int) : ∀ n : Nat, (qN l p n).length = (quo p n).2
  | 0 => rfl
  | n + 1 => by
    rw [qN, quo]
    split
    · rw [List.length_append, qN_len l p n]; rfl
    · exact qN_len l p n
theorem qN_gt {α : Type} [Inhabited α] (l : List α) {p : List Int} (hp : Idem p) : ∀ n : Nat, n ≤ p.length → ∀ i : Nat, i < n → gt p i = i → gt (qN l p n) (gt (quo p n).1 i) = gt l i
  | 0, _, i, hi, _ => by omega
  | n + 1, hn, i, hi, e => by
    have hs := quo_QS hp n (by omega)
    have hl := qN_len l p n
    rw [qN, quo]
    by_cases c : gt p n = n
    · rw [if_pos c, if_pos c]
      simp only
      by_cases x : i = n
      · subst x
        rw [gt_lastS hs.l.symm, ← hl, gt_lastS rfl]
      · rw [gt_appS (by have := hs.l; omega)]
        obtain ⟨b1, b2⟩ := hs.b i (by omega)
        have ih := qN_gt l hp n (by omega) i (by omega) e
        obtain ⟨m, hm⟩ := natI b1
        rw [hm] at b2 ih ⊢
        rw [gt_appS (by omega), ih]
    · rw [if_neg c, if_neg c]
      simp only
      have x : i ≠ n := fun x => by subst x; exact c e
      rw [gt_appS (by have := hs.l; omega)]
      exact qN_gt l hp n (by omega) i (by omega) e
theorem qN_all {α : Type} [Inhabited α] {l : List α} {p : List Int} (hp : Idem p) {n : Nat} (hn : n ≤ p.length) (hl : ∀ i : Nat, i < n → gt l (gt p i) = gt l i) {i : Nat} (hi : i < n) : gt (qN l p n) (gt (quo p n).1 i) = gt l i := by
  have hs := quo_QS hp n hn
  obtain ⟨⟨a1, a2⟩, a3⟩ := hp i (by omega)
  have h1 := hs.r i hi
  have h2 := hl i hi
  obtain ⟨k, hk⟩ := natI a1
  rw [hk] at a2 a3 h1 h2
  rw [← h1, qN_gt l hp n hn k (by omega) a3, h2]
theorem qN_mem {α : Type} [Inhabited α] {l : List α} {p : List Int} : ∀ {n : Nat}, n ≤ l.length → ∀ x ∈ qN l p n, x ∈ l
  | 0, _, x, hx => by simp [qN] at hx
  | n + 1, hn, x, hx => by
    rw [qN] at hx
    split at hx
    · rcases List.mem_append.1 hx with hx | hx
      · exact qN_mem (by omega) x hx
      · rw [List.mem_singleton] at hx
        rw [hx]; exact gt_mem (by omega) (by omega)
    · exact qN_mem (by omega) x hx
end
end Go.Am
namespace Go.Am
open Go
set_option linter.unusedVariables false
set_option linter.unusedSimpArgs false
def reE (q : List Int) (es : List E) : List E := es.map fun x => ⟨x.t, gt q x.f, gt q x.o⟩
def quoG (g : G) (p r : List Int) : G := ⟨qN g.n p p.length, qN (reE (quo p p.length).1 g.e) r r.length⟩
def quoM (p r : List Int) : Mo := ⟨(quo p p.length).1, (quo r r.length).1⟩
/-- Partitions by which a graph can be divided. -/
structure Cong (g : G) (p r : List Int) : Prop where
  pl : p.length = g.n.length
  rl : r.length = g.e.length
  ph : Idem p
  rh : Idem r
  pt : ∀ i : Nat, i < p.length → gt g.n (gt p i) = gt g.n i
  rt : ∀ i : Nat, i < r.length → gt (reE (quo p p.length).1 g.e) (gt r i) = gt (reE (quo p p.length).1 g.e) i
def prL (f h : List Int) (n : Nat) : List Pr := (List.range n).map fun i : Nat => ⟨gt f i, gt h i⟩
def gluN (g : G) (f h : Mo) : List Int := genL g.n.length (prL f.n h.n f.n.length)
def gluE (g : G) (f h : Mo) : List Int := genL g.e.length (prL f.e h.e f.e.length)
def gluG (g : G) (f h : Mo) : G := quoG g (gluN g f h) (gluE g f h)
def gluM (g : G) (f h : Mo) : Mo := quoM (gluN g f h) (gluE g f h)
section
theorem reE_gt {q : List Int} {es : List E} {i : Nat} (h : i < es.length) : gt (reE q es) i = ⟨(gt es i).t, gt q (gt es i).f, gt q (gt es i).o⟩ := by
  unfold reE
  rw [gt_map h]
theorem prL_len (f h : List Int) (n : Nat) : (prL f h n).length = n := by simp [prL]
theorem prL_gt {f h : List Int} {n i : Nat} (hi : i < n) : gt (prL f h n) i = ⟨gt f i, gt h i⟩ := by
  unfold prL
  rw [gt_nat (by simp; exact hi)]
  simp
theorem Cong.node {g : G} {p r : List Int} (h : Cong g p r) {i : Nat} (hi : i < g.n.length) : (0 ≤ gt (quoM p r).n i ∧ gt (quoM p r).n i < (quoG g p r).n.length) ∧ gt (quoG g p r).n (gt (quoM p r).n i) = gt g.n i := by
  have hs := quo_QS h.ph _ (Nat.le_refl _)
  have hpl := h.pl
  refine ⟨?_, ?_⟩
  · simp only [quoM, quoG, qN_len]
    exact hs.b i (by omega)
  · exact qN_all h.ph (Nat.le_refl _) h.pt (by omega)
theorem Cong.edge {g : G} {p r : List Int} (h : Cong g p r) {i : Nat} (hi : i < g.e.length) : (0 ≤ gt (quoM p r).e i ∧ gt (quoM p r).e i < (quoG g p r).e.length) ∧ gt (quoG g p r).e (gt (quoM p r).e i) = ⟨(gt g.e i).t, gt (quoM p r).n (gt g.e i).f, gt (quoM p r).n (gt g.e i).o⟩ := by
  have hs := quo_QS h.rh _ (Nat.le_refl _)
  have hrl := h.rl
  refine ⟨?_, ?_⟩
  · simp only [quoM, quoG, qN_len]
    exact hs.b i (by omega)
  · have := qN_all h.rh (Nat.le_refl _) h.rt (show i < r.length by omega)
    simp only [quoM, quoG]
    rw [this, reE_gt hi]
theorem Cong.surN {g : G} {p r : List Int} (h : Cong g p r) {k : Nat} (hk : k < (quoG g p r).n.length) : ∃ i : Nat, i < g.n.length ∧ gt p i = i ∧ gt (quoM p r).n i = k := by
  have hs := quo_QS h.ph _ (Nat.le_refl _)
  simp only [quoG, qN_len] at hk
  obtain ⟨i, h1, h2, h3⟩ := hs.s k hk
  exact ⟨i, by rw [← h.pl]; exact h1, h2, h3⟩
theorem Cong.surE {g : G} {p r : List Int} (h : Cong g p r) {k : Nat} (hk : k < (quoG g p r).e.length) : ∃ i : Nat, i < g.e.length ∧ gt r i = i ∧ gt (quoM p r).e i = k := by
  have hs := quo_QS h.rh _ (Nat.le_refl _)
  simp only [quoG, qN_len] at hk
  obtain ⟨i, h1, h2, h3⟩ := hs.s k hk
  exact ⟨i, by rw [← h.rl]; exact h1, h2, h3⟩
theorem Cong.ok {g : G} {p r : List Int} (hv : validG g = 0) (h : Cong g p r) : MOk g (quoG g p r) (quoM p r) := by
  have vs := valid_spec hv
  have h1 := quo_QS h.ph _ (Nat.le_refl _)
  have h2 := quo_QS h.rh _ (Nat.le_refl _)
  have hpl := h.pl
  have hrl := h.rl
  refine ⟨hv, valid_mk ?_ ?_ (fun y hy => ?_) (fun y hy => ?_), ?_, ?_, fun i hi => h.node hi, fun i hi => ?_⟩
  · simp only [quoG, qN_len]; have := h1.c; omega
  · simp only [quoG, qN_len]; have := h2.c; omega
  · exact vs.2.2.1 y (qN_mem (by omega) y hy)
  · obtain ⟨k, hk, hk2⟩ := mem_gt hy
    obtain ⟨i, hi, _, hi2⟩ := h.surE hk
    have he := (h.edge hi).2
    rw [hi2, hk2] at he
    rw [he]
    obtain ⟨t1, t2, t3⟩ := edge_fits hv (i := i) (by omega)
    obtain ⟨a, ha, ha2⟩ := gtI t2
    obtain ⟨b, hb, hb2⟩ := gtI t3
    rw [ha2, hb2]
    exact fits_mk t1 (h.node ha).1 (h.node hb).1
  · simp only [quoM]; rw [h1.l, hpl]
  · simp only [quoM]; rw [h2.l, hrl]
  · obtain ⟨e1, e2⟩ := h.edge hi
    refine ⟨e1, ?_⟩
    rw [e2]
    exact ⟨rfl, rfl, rfl⟩
theorem Cong.iffN {g : G} {p r : List Int} (h : Cong g p r) {i k : Nat} (hi : i < g.n.length) (hk : k < g.n.length) : gt (quoM p r).n i = gt (quoM p r).n k ↔ gt p i = gt p k :=
  (quo_QS h.ph _ (Nat.le_refl _)).iff h.ph (Nat.le_refl _) (by rw [h.pl]; exact hi) (by rw [h.pl]; exact hk)
theorem Cong.iffE {g : G} {p r : List Int} (h : Cong g p r) {i k : Nat} (hi : i < g.e.length) (hk : k < g.e.length) : gt (quoM p r).e i = gt (quoM p r).e k ↔ gt r i = gt r k :=
  (quo_QS h.rh _ (Nat.le_refl _)).iff h.rh (Nat.le_refl _) (by rw [h.rl]; exact hi) (by rw [h.rl]; exact hk)
theorem prL_in {f h : List Int} {m : Nat} (hl : h.length = f.length) (h1 : ∀ x ∈ f, 0 ≤ x ∧ x < m) (h2 : ∀ x ∈ h, 0 ≤ x ∧ x < m) : PrIn m (prL f h f.length) := fun i hi => by
  rw [prL_len] at hi
  rw [prL_gt hi]
  exact ⟨h1 _ (gt_mem (by omega) (by omega)), h2 _ (gt_mem (by omega) (by omega))⟩
section
variable {a g : G} {f h : Mo}
theorem glu_prN (hf : MOk a g f) (hh : MOk a g h) : PrIn g.n.length (prL f.n h.n f.n.length) := by
  have bf := (validM_bd (mok.2 hf)).1
  have bh := (validM_bd (mok.2 hh)).1
  exact prL_in (by rw [hf.ln, hh.ln]) bf bh
theorem glu_prE (hf : MOk a g f) (hh : MOk a g h) : PrIn g.e.length (prL f.e h.e f.e.length) := by
  have bf := (validM_bd (mok.2 hf)).2
  have bh := (validM_bd (mok.2 hh)).2
  exact prL_in (by rw [hf.le, hh.le]) bf bh
theorem gluN_len : (gluN g f h).length = g.n.length := gen_len _
theorem gluE_len : (gluE g f h).length = g.e.length := gen_len _
/-- What is the same for glued nodes is the same in each class. -/
theorem gluN_fun {β : Type} {φ : Int → β} (hf : MOk a g f) (hh : MOk a g h) (e : ∀ i : Nat, i < a.n.length → φ (gt f.n i) = φ (gt h.n i)) {k : Nat} (hk : k < g.n.length) : φ (gt (gluN g f h) k) = φ k := by
  refine gen_fun (glu_prN hf hh) (fun i hi => ?_) _ (Nat.le_refl _) k hk
  rw [prL_len] at hi
  rw [prL_gt hi]
  exact e i (by rw [← hf.ln]; exact hi)
theorem gluE_fun {β : Type} {φ : Int → β} (hf : MOk a g f) (hh : MOk a g h) (e : ∀ i : Nat, i < a.e.length → φ (gt f.e i) = φ (gt h.e i)) {k : Nat} (hk : k < g.e.length) : φ (gt (gluE g f h) k) = φ k := by
  refine gen_fun (glu_prE hf hh) (fun i hi => ?_) _ (Nat.le_refl _) k hk
  rw [prL_len] at hi
  rw [prL_gt hi]
  exact e i (by rw [← hf.le]; exact hi)
theorem gluN_pair (hf : MOk a g f) (hh : MOk a g h) {i : Nat} (hi : i < a.n.length) : gt (gluN g f h) (gt f.n i) = gt (gluN g f h) (gt h.n i) := by
  have ln := hf.ln
  have := gen_pair (glu_prN hf hh) _ (Nat.le_refl _) i (by rw [prL_len]; omega)
  rw [prL_gt (by omega)] at this
  exact this
theorem gluE_pair (hf : MOk a g f) (hh : MOk a g h) {i : Nat} (hi : i < a.e.length) : gt (gluE g f h) (gt f.e i) = gt (gluE g f h) (gt h.e i) := by
  have ln := hf.le
  have := gen_pair (glu_prE hf hh) _ (Nat.le_refl _) i (by rw [prL_len]; omega)
  rw [prL_gt (by omega)] at this
  exact this
theorem glu_cong (hf : MOk a g f) (hh : MOk a g h) : Cong g (gluN g f h) (gluE g f h) := by
  have ip : Idem (gluN g f h) := gen_idem (glu_prN hf hh) (Nat.le_refl _)
  have ir : Idem (gluE g f h) := gen_idem (glu_prE hf hh) (Nat.le_refl _)
  refine ⟨gluN_len, gluE_len, ip, ir, fun i hi => ?_, fun i hi => ?_⟩
  · rw [gluN_len] at hi
    exact gluN_fun (φ := gt g.n) hf hh (fun i hi => by rw [(hf.nd i hi).2, (hh.nd i hi).2]) hi
  · rw [gluE_len] at hi
    refine gluE_fun (φ := gt (reE (quo (gluN g f h) (gluN g f h).length).1 g.e)) hf hh (fun i hi => ?_) hi
    obtain ⟨f1, f2, f3, f4⟩ := hf.ed i hi
    obtain ⟨h1, h2, h3, h4⟩ := hh.ed i hi
    obtain ⟨x, hx, hx2⟩ := gtI f1
    obtain ⟨y, hy, hy2⟩ := gtI h1
    rw [hx2] at f2 f3 f4
    rw [hy2] at h2 h3 h4
    rw [hx2, hy2, reE_gt hx, reE_gt hy, ← f2, ← f3, ← f4, ← h2, ← h3, ← h4]
    have hs := quo_QS ip _ (Nat.le_refl _)
    obtain ⟨_, t2, t3⟩ := edge_fits hf.va (i := i) (by omega)
    have ends : ∀ v : Int, 0 ≤ v ∧ v < a.n.length → gt (quo (gluN g f h) (gluN g f h).length).1 (gt f.n v) = gt (quo (gluN g f h) (gluN g f h).length).1 (gt h.n v) := fun v hv => by
      obtain ⟨j, hj, hj2⟩ := gtI hv
      subst hj2
      have hp := gluN_pair hf hh hj
      obtain ⟨u, hu, hu2⟩ := gtI (hf.nd j hj).1
      obtain ⟨w, hw, hw2⟩ := gtI (hh.nd j hj).1
      rw [hu2, hw2] at hp ⊢
      exact (hs.iff ip (Nat.le_refl _) (by rw [gluN_len]; exact hu) (by rw [gluN_len]; exact hw)).2 hp
    rw [ends _ t2, ends _ t3]
theorem glu_ok (hf : MOk a g f) (hh : MOk a g h) : MOk g (gluG g f h) (gluM g f h) := (glu_cong hf hh).ok hf.vb
theorem mo_ext {x y : Mo} (h1 : x.n = y.n) (h2 : x.e = y.e) : x = y := by cases x; cases y; simp only at h1 h2; rw [h1, h2]
theorem thr_ext {l b m c : List Int} (hl : l.length = m.length) (h : ∀ i : Nat, i < l.length → gt b (gt l i) = gt c (gt m i)) : thr l b = thr m c :=
  list_ext_gt (by rw [thr_len, thr_len, hl]) fun i hi => by rw [thr_len] at hi; rw [thr_gt hi, thr_gt (by omega), h i hi]
theorem glu_eq (hf : MOk a g f) (hh : MOk a g h) : thenM f (gluM g f h) = thenM h (gluM g f h) := by
  have hc := glu_cong hf hh
  refine mo_ext (thr_ext (by rw [hf.ln, hh.ln]) fun i hi => ?_) (thr_ext (by rw [hf.le, hh.le]) fun i hi => ?_)
  · rw [hf.ln] at hi
    have hp := gluN_pair hf hh hi
    obtain ⟨u, hu, hu2⟩ := gtI (hf.nd i hi).1
    obtain ⟨w, hw, hw2⟩ := gtI (hh.nd i hi).1
    rw [hu2, hw2] at hp ⊢
    exact (hc.iffN hu hw).2 hp
  · rw [hf.le] at hi
    have hp := gluE_pair hf hh hi
    obtain ⟨u, hu, hu2⟩ := gtI (hf.ed i hi).1
    obtain ⟨w, hw, hw2⟩ := gtI (hh.ed i hi).1
    rw [hu2, hw2] at hp ⊢
    exact (hc.iffE hu hw).2 hp
theorem thenM_n {m n x y : Mo} (h : thenM m n = thenM x y) {i : Nat} (h1 : i < m.n.length) (h2 : i < x.n.length) : gt n.n (gt m.n i) = gt y.n (gt x.n i) := by
  have := congrArg (fun z : Mo => gt z.n i) h
  simp only [thenM] at this
  rwa [thr_gt h1, thr_gt h2] at this
theorem thenM_e {m n x y : Mo} (h : thenM m n = thenM x y) {i : Nat} (h1 : i < m.e.length) (h2 : i < x.e.length) : gt n.e (gt m.e i) = gt y.e (gt x.e i) := by
  have := congrArg (fun z : Mo => gt z.e i) h
  simp only [thenM] at this
  rwa [thr_gt h1, thr_gt h2] at this
theorem glu_surN (hf : MOk a g f) (hh : MOk a g h) {k : Nat} (hk : k < (gluG g f h).n.length) : ∃ i : Nat, i < g.n.length ∧ gt (gluM g f h).n i = k :=
  let ⟨i, h1, _, h3⟩ := (glu_cong hf hh).surN hk; ⟨i, h1, h3⟩
theorem glu_surE (hf : MOk a g f) (hh : MOk a g h) {k : Nat} (hk : k < (gluG g f h).e.length) : ∃ i : Nat, i < g.e.length ∧ gt (gluM g f h).e i = k :=
  let ⟨i, h1, _, h3⟩ := (glu_cong hf hh).surE hk; ⟨i, h1, h3⟩
/-- Two morphisms from what is glued are the same if they are so from the graph. -/
theorem glu_one {x : G} {u v : Mo} (hf : MOk a g f) (hh : MOk a g h) (hu : MOk (gluG g f h) x u) (hv : MOk (gluG g f h) x v) (e : thenM (gluM g f h) u = thenM (gluM g f h) v) : u = v := by
  have hq := glu_ok hf hh
  have l1 := hq.ln
  have l2 := hq.le
  refine mo_ext (list_ext_gt (by rw [hu.ln, hv.ln]) fun k hk => ?_) (list_ext_gt (by rw [hu.le, hv.le]) fun k hk => ?_)
  · rw [hu.ln] at hk
    obtain ⟨i, hi, hi2⟩ := glu_surN hf hh hk
    have := thenM_n e (i := i) (by omega) (by omega)
    rwa [hi2] at this
  · rw [hu.le] at hk
    obtain ⟨i, hi, hi2⟩ := glu_surE hf hh hk
    have := thenM_e e (i := i) (by omega) (by omega)
    rwa [hi2] at this
end
end
end Go.Am
namespace Go.Am
open Go
set_option linter.unusedVariables false
set_option linter.unusedSimpArgs false
attribute [local irreducible] W
/- cmp.isNaN.I -/
def c_cmp_isNaN_I_r0 (F : String → Nat) : List LI := [⟨some 2, .mov (.k (.bool false)), none⟩]
def c_cmp_isNaN_I_r1 (F : String → Nat) : List LI := [⟨some 3, .mov (.t 0), none⟩,
  ⟨some 4, .mov (.t 0), none⟩,
  ⟨some 5, .bin .neq (.t 3) (.t 4), none⟩,
  ⟨some 2, .mov (.t 5), none⟩]
def c_cmp_isNaN_I (F : String → Nat) : LC := (.seq (.reg (c_cmp_isNaN_I_r0 F) [0]) (.seq (.reg (c_cmp_isNaN_I_r1 F) [2]) .ret))
def h_cmp_isNaN_I : Hints := ⟨[], fun _ => [], tab [(0, [0]), (1, [2])], tab []⟩

/- cmp.Less.I -/
def c_cmp_Less_I_r0 (F : String → Nat) : List LI := [⟨some 4, .mov (.k (.bool false)), none⟩]
def c_cmp_Less_I_r1 (F : String → Nat) : List LI := [⟨some 5, .mov (.t 0), none⟩,
  ⟨some 6, .call (F "cmp.isNaN.I") [.t 5] [], none⟩,
  ⟨some 7, .mov (.t 6), none⟩,
  ⟨some 8, .mov (.t 1), some (7, true)⟩,
  ⟨some 9, .call (F "cmp.isNaN.I") [.t 8] [], some (7, true)⟩,
  ⟨some 10, .not (.t 9), some (7, true)⟩,
  ⟨some 11, .pick (.t 7) (.t 10) (.k (.bool false)), none⟩,
  ⟨some 12, .mov (.t 11), none⟩,
  ⟨some 13, .mov (.t 0), some (12, false)⟩,
  ⟨some 14, .mov (.t 1), some (12, false)⟩,
  ⟨some 15, .bin .lss (.t 13) (.t 14), some (12, false)⟩,
  ⟨some 16, .pick (.t 12) (.k (.bool true)) (.t 15), none⟩,
  ⟨some 4, .mov (.t 16), none⟩]
def c_cmp_Less_I (F : String → Nat) : LC := (.seq (.reg (c_cmp_Less_I_r0 F) [0, 1]) (.seq (.reg (c_cmp_Less_I_r1 F) [4]) .ret))
def h_cmp_Less_I : Hints := ⟨[], fun _ => [], tab [(0, [0, 1]), (1, [4])], tab []⟩

/- slices.isNaN.I -/
def c_slices_isNaN_I_r0 (F : String → Nat) : List LI := [⟨some 2, .mov (.k (.bool false)), none⟩]
def c_slices_isNaN_I_r1 (F : String → Nat) : List LI := [⟨some 3, .mov (.t 0), none⟩,
  ⟨some 4, .mov (.t 0), none⟩,
  ⟨some 5, .bin .neq (.t 3) (.t 4), none⟩,
  ⟨some 2, .mov (.t 5), none⟩]
def c_slices_isNaN_I (F : String → Nat) : LC := (.seq (.reg (c_slices_isNaN_I_r0 F) [0]) (.seq (.reg (c_slices_isNaN_I_r1 F) [2]) .ret))
def h_slices_isNaN_I : Hints := ⟨[], fun _ => [], tab [(0, [0]), (1, [2])], tab []⟩

/- slices.BinarySearch.I -/
def c_slices_BinarySearch_I_r0 (F : String → Nat) : List LI := [⟨some 4, .mov (.k (.int .i64 (0))), none⟩,
  ⟨some 5, .mov (.k (.bool false)), none⟩]
def c_slices_BinarySearch_I_r1 (F : String → Nat) : List LI := [⟨some 10, .mov (.t 0), none⟩,
  ⟨some 11, .len (.t 10), none⟩,
  ⟨some 6, .mov (.t 11), none⟩]
def c_slices_BinarySearch_I_r2 (F : String → Nat) : List LI := [⟨some 12, .mov (.t 6), none⟩,
  ⟨some 7, .mov (.k (.int .i64 (0))), none⟩,
  ⟨some 8, .mov (.t 12), none⟩]
def c_slices_BinarySearch_I_r3 (F : String → Nat) : List LI := [⟨some 13, .mov (.t 7), none⟩,
  ⟨some 14, .mov (.t 8), none⟩,
  ⟨some 15, .bin .lss (.t 13) (.t 14), none⟩]
def c_slices_BinarySearch_I_r4 (F : String → Nat) : List LI := [⟨some 16, .mov (.t 7), none⟩,
  ⟨some 17, .mov (.t 8), none⟩,
  ⟨some 18, .bin .add (.t 16) (.t 17), none⟩,
  ⟨some 19, .conv .u64 (.t 18), none⟩,
  ⟨some 20, .bin .shr (.t 19) (.k (.int .u64 (1))), none⟩,
  ⟨some 21, .conv .i64 (.t 20), none⟩,
  ⟨some 9, .mov (.t 21), none⟩]
def c_slices_BinarySearch_I_r5 (F : String → Nat) : List LI := [⟨some 22, .mov (.t 0), none⟩,
  ⟨some 23, .mov (.t 9), none⟩,
  ⟨some 24, .iad 1 (.t 22) (.t 23), none⟩,
  ⟨some 25, .load false 1 (.t 24), none⟩,
  ⟨some 26, .mov (.t 1), none⟩,
  ⟨some 27, .call (F "cmp.Less.I") [.t 25, .t 26] [], none⟩]
def c_slices_BinarySearch_I_r6 (F : String → Nat) : List LI := [⟨some 28, .mov (.t 9), none⟩,
  ⟨some 29, .bin .add (.t 28) (.k (.int .i64 (1))), none⟩,
  ⟨some 7, .mov (.t 29), none⟩]
def c_slices_BinarySearch_I_r7 (F : String → Nat) : List LI := [⟨some 30, .mov (.t 9), none⟩,
  ⟨some 8, .mov (.t 30), none⟩]
def c_slices_BinarySearch_I_b8 (F : String → Nat) : LC := (.seq (.seq (.reg (c_slices_BinarySearch_I_r3 F) [0, 1, 6, 7, 8, 15]) (.cond (.t 15) .skip (.exit 0))) (.block 1 (.seq (.reg (c_slices_BinarySearch_I_r4 F) [0, 1, 6, 7, 8, 9]) (.seq (.reg (c_slices_BinarySearch_I_r5 F) [0, 1, 6, 7, 8, 9, 27]) (.cond (.t 27) (.reg (c_slices_BinarySearch_I_r6 F) [0, 1, 6, 7, 8]) (.reg (c_slices_BinarySearch_I_r7 F) [0, 1, 6, 7, 8]))))))
def c_slices_BinarySearch_I_r9 (F : String → Nat) : List LI := [⟨some 31, .mov (.t 7), none⟩,
  ⟨some 32, .mov (.t 7), none⟩,
  ⟨some 33, .mov (.t 6), none⟩,
  ⟨some 34, .bin .lss (.t 32) (.t 33), none⟩,
  ⟨some 35, .mov (.t 34), none⟩,
  ⟨some 36, .mov (.t 0), some (35, true)⟩,
  ⟨some 37, .mov (.t 7), some (35, true)⟩,
  ⟨some 38, .iad 1 (.t 36) (.t 37), some (35, true)⟩,
  ⟨some 39, .load false 1 (.t 38), some (35, true)⟩,
  ⟨some 40, .mov (.t 1), some (35, true)⟩,
  ⟨some 41, .bin .eql (.t 39) (.t 40), some (35, true)⟩,
  ⟨some 42, .mov (.t 41), some (35, true)⟩,
  ⟨some 43, .mov (.t 0), some (42, false)⟩,
  ⟨some 44, .mov (.t 7), some (42, false)⟩,
  ⟨some 45, .iad 1 (.t 43) (.t 44), some (42, false)⟩,
  ⟨some 46, .load false 1 (.t 45), some (42, false)⟩,
  ⟨some 47, .call (F "slices.isNaN.I") [.t 46] [], some (42, false)⟩,
  ⟨some 48, .mov (.t 47), some (42, false)⟩,
  ⟨some 49, .mov (.t 1), some (48, true)⟩,
  ⟨some 50, .call (F "slices.isNaN.I") [.t 49] [], some (48, true)⟩,
  ⟨some 51, .pick (.t 48) (.t 50) (.k (.bool false)), some (42, false)⟩,
  ⟨some 52, .pick (.t 42) (.k (.bool true)) (.t 51), some (35, true)⟩,
  ⟨some 53, .pick (.t 35) (.t 52) (.k (.bool false)), none⟩,
  ⟨some 4, .mov (.t 31), none⟩,
  ⟨some 5, .mov (.t 53), none⟩]
def c_slices_BinarySearch_I (F : String → Nat) : LC := (.seq (.reg (c_slices_BinarySearch_I_r0 F) [0, 1]) (.seq (.reg (c_slices_BinarySearch_I_r1 F) [0, 1, 6]) (.seq (.reg (c_slices_BinarySearch_I_r2 F) [0, 1, 6, 7, 8]) (.seq (.block 0 (.loop [0, 1, 6, 7, 8] (c_slices_BinarySearch_I_b8 F))) (.seq (.reg (c_slices_BinarySearch_I_r9 F) [4, 5]) .ret)))))
def h_slices_BinarySearch_I : Hints := ⟨[], fun _ => [], tab [(0, [0, 1]), (1, [0, 1, 6]), (2, [0, 1, 6, 7, 8]), (3, [0, 1, 6, 7, 8, 15]), (4, [0, 1, 6, 7, 8, 9]), (5, [0, 1, 6, 7, 8, 9, 27]), (6, [0, 1, 6, 7, 8]), (7, [0, 1, 6, 7, 8]), (8, [4, 5])], tab [(3, [0, 1, 6, 7, 8])]⟩

/- subgraph.list -/
def c_subgraph_list_r0 (F : String → Nat) : List LI := [⟨some 4, .mov (.k (.int .i64 (0))), none⟩]
def c_subgraph_list_r1 (F : String → Nat) : List LI := [⟨some 7, .mov (.t 0), none⟩,
  ⟨some 8, .len (.t 7), none⟩,
  ⟨some 9, .mov (.k (.int .i64 (0))), none⟩]
def c_subgraph_list_r2 (F : String → Nat) : List LI := [⟨some 10, .bin .lss (.t 9) (.t 8), none⟩]
def c_subgraph_list_r3 (F : String → Nat) : List LI := [⟨some 11, .mov (.t 9), none⟩,
  ⟨some 12, .iad 1 (.t 7) (.t 9), none⟩,
  ⟨some 13, .load false 1 (.t 12), none⟩,
  ⟨some 5, .mov (.t 11), none⟩,
  ⟨some 6, .mov (.t 13), none⟩]
def c_subgraph_list_r4 (F : String → Nat) : List LI := [⟨some 14, .mov (.t 6), none⟩,
  ⟨some 15, .bin .lss (.t 14) (.k (.int .i64 (0))), none⟩,
  ⟨some 16, .mov (.t 15), none⟩,
  ⟨some 17, .mov (.t 6), some (16, false)⟩,
  ⟨some 18, .mov (.t 1), some (16, false)⟩,
  ⟨some 19, .bin .geq (.t 17) (.t 18), some (16, false)⟩,
  ⟨some 20, .pick (.t 16) (.k (.bool true)) (.t 19), none⟩]
def c_subgraph_list_r5 (F : String → Nat) : List LI := [⟨some 4, .mov (.k (.int .i64 (6))), none⟩]
def c_subgraph_list_r6 (F : String → Nat) : List LI := [⟨some 21, .mov (.t 5), none⟩,
  ⟨some 22, .bin .gtr (.t 21) (.k (.int .i64 (0))), none⟩,
  ⟨some 23, .mov (.t 22), none⟩,
  ⟨some 24, .mov (.t 6), some (23, true)⟩,
  ⟨some 25, .mov (.t 0), some (23, true)⟩,
  ⟨some 26, .mov (.t 5), some (23, true)⟩,
  ⟨some 27, .bin .sub (.t 26) (.k (.int .i64 (1))), some (23, true)⟩,
  ⟨some 28, .iad 1 (.t 25) (.t 27), some (23, true)⟩,
  ⟨some 29, .load false 1 (.t 28), some (23, true)⟩,
  ⟨some 30, .bin .leq (.t 24) (.t 29), some (23, true)⟩,
  ⟨some 31, .pick (.t 23) (.t 30) (.k (.bool false)), none⟩]
def c_subgraph_list_r7 (F : String → Nat) : List LI := [⟨some 4, .mov (.k (.int .i64 (12))), none⟩]
def c_subgraph_list_r8 (F : String → Nat) : List LI := [⟨some 32, .bin .add (.t 9) (.k (.int .i64 (1))), none⟩,
  ⟨some 9, .mov (.t 32), none⟩]
def c_subgraph_list_b9 (F : String → Nat) : LC := (.seq (.reg (c_subgraph_list_r2 F) [0, 1, 7, 8, 9, 10]) (.seq (.cond (.t 10) .skip (.exit 0)) (.seq (.block 1 (.seq (.reg (c_subgraph_list_r3 F) [0, 1, 5, 6, 7, 8, 9]) (.seq (.seq (.reg (c_subgraph_list_r4 F) [0, 1, 5, 6, 7, 8, 9, 20]) (.cond (.t 20) (.seq (.reg (c_subgraph_list_r5 F) [4]) .ret) .skip)) (.seq (.reg (c_subgraph_list_r6 F) [0, 1, 7, 8, 9, 31]) (.cond (.t 31) (.seq (.reg (c_subgraph_list_r7 F) [4]) .ret) .skip))))) (.reg (c_subgraph_list_r8 F) [0, 1, 7, 8, 9]))))
def c_subgraph_list_r10 (F : String → Nat) : List LI := [⟨some 4, .mov (.k (.int .i64 (0))), none⟩]
def c_subgraph_list (F : String → Nat) : LC := (.seq (.reg (c_subgraph_list_r0 F) [0, 1]) (.seq (.seq (.reg (c_subgraph_list_r1 F) [0, 1, 7, 8, 9]) (.block 0 (.loop [0, 1, 7, 8, 9] (c_subgraph_list_b9 F)))) (.seq (.reg (c_subgraph_list_r10 F) [4]) .ret)))
def h_subgraph_list : Hints := ⟨[], fun _ => [], tab [(0, [0, 1]), (1, [0, 1, 7, 8, 9]), (2, [0, 1, 7, 8, 9, 10]), (3, [0, 1, 5, 6, 7, 8, 9]), (4, [0, 1, 5, 6, 7, 8, 9, 20]), (5, [4]), (6, [0, 1, 7, 8, 9, 31]), (7, [4]), (8, [0, 1, 7, 8, 9]), (9, [4])], tab [(2, [0, 1, 7, 8, 9])]⟩

/- subgraph.has -/
def c_subgraph_has_r0 (F : String → Nat) : List LI := [⟨some 4, .mov (.k (.bool false)), none⟩]
def c_subgraph_has_r1 (F : String → Nat) : List LI := [⟨some 8, .mov (.t 0), none⟩,
  ⟨some 9, .mov (.t 1), none⟩,
  ⟨some 10, .call (F "slices.BinarySearch.I") [.t 8, .t 9] [], none⟩,
  ⟨some 7, .mov (.t 10), none⟩,
  ⟨some 11, .ext (.t 7) 0, none⟩,
  ⟨some 12, .ext (.t 7) 1, none⟩,
  ⟨some 5, .mov (.t 11), none⟩,
  ⟨some 6, .mov (.t 12), none⟩]
def c_subgraph_has_r2 (F : String → Nat) : List LI := [⟨some 13, .mov (.t 6), none⟩,
  ⟨some 4, .mov (.t 13), none⟩]
def c_subgraph_has (F : String → Nat) : LC := (.seq (.reg (c_subgraph_has_r0 F) [0, 1]) (.seq (.reg (c_subgraph_has_r1 F) [6]) (.seq (.reg (c_subgraph_has_r2 F) [4]) .ret)))
def h_subgraph_has : Hints := ⟨[], fun _ => [], tab [(0, [0, 1]), (1, [6]), (2, [4])], tab []⟩

/- subgraph.part -/
def c_subgraph_part_r0 (F : String → Nat) : List LI := [⟨some 2, .bx (.t 0), none⟩,
  ⟨some 3, .bx (.t 1), none⟩,
  ⟨some 4, .mov (.k (.int .i64 (0))), none⟩]
def c_subgraph_part_r1 (F : String → Nat) : List LI := [⟨some 9, .fad 0 (.t 3), none⟩,
  ⟨some 10, .load false 1 (.t 9), none⟩,
  ⟨some 11, .fad 0 (.t 2), none⟩,
  ⟨some 12, .load false 1 (.t 11), none⟩,
  ⟨some 13, .len (.t 12), none⟩,
  ⟨some 14, .call (F "subgraph.list") [.t 10, .t 13] [], none⟩,
  ⟨some 5, .mov (.t 14), none⟩]
def c_subgraph_part_r2 (F : String → Nat) : List LI := [⟨some 15, .mov (.t 5), none⟩,
  ⟨some 16, .bin .neq (.t 15) (.k (.int .i64 (0))), none⟩]
def c_subgraph_part_r3 (F : String → Nat) : List LI := [⟨some 17, .mov (.t 5), none⟩,
  ⟨some 4, .mov (.t 17), none⟩]
def c_subgraph_part_r4 (F : String → Nat) : List LI := [⟨some 18, .fad 1 (.t 3), none⟩,
  ⟨some 19, .load false 1 (.t 18), none⟩,
  ⟨some 20, .fad 1 (.t 2), none⟩,
  ⟨some 21, .load false 1 (.t 20), none⟩,
  ⟨some 22, .len (.t 21), none⟩,
  ⟨some 23, .call (F "subgraph.list") [.t 19, .t 22] [], none⟩,
  ⟨some 6, .mov (.t 23), none⟩]
def c_subgraph_part_r5 (F : String → Nat) : List LI := [⟨some 24, .mov (.t 6), none⟩,
  ⟨some 25, .bin .neq (.t 24) (.k (.int .i64 (0))), none⟩]
def c_subgraph_part_r6 (F : String → Nat) : List LI := [⟨some 26, .mov (.t 6), none⟩,
  ⟨some 4, .mov (.t 26), none⟩]
def c_subgraph_part_r7 (F : String → Nat) : List LI := [⟨some 27, .fad 1 (.t 3), none⟩,
  ⟨some 28, .load false 1 (.t 27), none⟩,
  ⟨some 29, .len (.t 28), none⟩,
  ⟨some 30, .mov (.k (.int .i64 (0))), none⟩]
def c_subgraph_part_r8 (F : String → Nat) : List LI := [⟨some 31, .bin .lss (.t 30) (.t 29), none⟩]
def c_subgraph_part_r9 (F : String → Nat) : List LI := [⟨some 32, .iad 1 (.t 28) (.t 30), none⟩,
  ⟨some 33, .load false 1 (.t 32), none⟩,
  ⟨some 8, .mov (.t 33), none⟩]
def c_subgraph_part_r10 (F : String → Nat) : List LI := [⟨some 34, .fad 0 (.t 3), none⟩,
  ⟨some 35, .load false 1 (.t 34), none⟩,
  ⟨some 36, .fad 1 (.t 2), none⟩,
  ⟨some 37, .load false 1 (.t 36), none⟩,
  ⟨some 38, .mov (.t 8), none⟩,
  ⟨some 39, .iad 3 (.t 37) (.t 38), none⟩,
  ⟨some 40, .fad 1 (.t 39), none⟩,
  ⟨some 41, .load false 1 (.t 40), none⟩,
  ⟨some 42, .call (F "subgraph.has") [.t 35, .t 41] [], none⟩,
  ⟨some 43, .not (.t 42), none⟩,
  ⟨some 44, .mov (.t 43), none⟩,
  ⟨some 45, .fad 0 (.t 3), some (44, false)⟩,
  ⟨some 46, .load false 1 (.t 45), some (44, false)⟩,
  ⟨some 47, .fad 1 (.t 2), some (44, false)⟩,
  ⟨some 48, .load false 1 (.t 47), some (44, false)⟩,
  ⟨some 49, .mov (.t 8), some (44, false)⟩,
  ⟨some 50, .iad 3 (.t 48) (.t 49), some (44, false)⟩,
  ⟨some 51, .fad 2 (.t 50), some (44, false)⟩,
  ⟨some 52, .load false 1 (.t 51), some (44, false)⟩,
  ⟨some 53, .call (F "subgraph.has") [.t 46, .t 52] [], some (44, false)⟩,
  ⟨some 54, .not (.t 53), some (44, false)⟩,
  ⟨some 55, .pick (.t 44) (.k (.bool true)) (.t 54), none⟩]
def c_subgraph_part_r11 (F : String → Nat) : List LI := [⟨some 4, .mov (.k (.int .i64 (14))), none⟩]
def c_subgraph_part_r12 (F : String → Nat) : List LI := [⟨some 56, .bin .add (.t 30) (.k (.int .i64 (1))), none⟩,
  ⟨some 30, .mov (.t 56), none⟩]
def c_subgraph_part_b13 (F : String → Nat) : LC := (.seq (.reg (c_subgraph_part_r8 F) [2, 3, 28, 29, 30, 31]) (.seq (.cond (.t 31) .skip (.exit 0)) (.seq (.block 1 (.seq (.reg (c_subgraph_part_r9 F) [2, 3, 8, 28, 29, 30]) (.seq (.dreg [] (c_subgraph_part_r10 F) [2, 3, 28, 29, 30, 55]) (.cond (.t 55) (.seq (.reg (c_subgraph_part_r11 F) [4]) .ret) .skip)))) (.reg (c_subgraph_part_r12 F) [2, 3, 28, 29, 30]))))
def c_subgraph_part_r14 (F : String → Nat) : List LI := [⟨some 4, .mov (.k (.int .i64 (0))), none⟩]
def c_subgraph_part (F : String → Nat) : LC := (.seq (.reg (c_subgraph_part_r0 F) [2, 3]) (.seq (.seq (.reg (c_subgraph_part_r1 F) [2, 3, 5]) (.seq (.reg (c_subgraph_part_r2 F) [2, 3, 5, 16]) (.cond (.t 16) (.seq (.reg (c_subgraph_part_r3 F) [4]) .ret) .skip))) (.seq (.seq (.reg (c_subgraph_part_r4 F) [2, 3, 6]) (.seq (.reg (c_subgraph_part_r5 F) [2, 3, 6, 25]) (.cond (.t 25) (.seq (.reg (c_subgraph_part_r6 F) [4]) .ret) .skip))) (.seq (.seq (.reg (c_subgraph_part_r7 F) [2, 3, 28, 29, 30]) (.block 0 (.loop [2, 3, 28, 29, 30] (c_subgraph_part_b13 F)))) (.seq (.reg (c_subgraph_part_r14 F) [4]) .ret)))))
def h_subgraph_part : Hints := ⟨[], fun _ => [], tab [(0, [2, 3]), (1, [2, 3, 5]), (2, [2, 3, 5, 16]), (3, [4]), (4, [2, 3, 6]), (5, [2, 3, 6, 25]), (6, [4]), (7, [2, 3, 28, 29, 30]), (8, [2, 3, 28, 29, 30, 31]), (9, [2, 3, 8, 28, 29, 30]), (10, [2, 3, 28, 29, 30, 55]), (11, [4]), (12, [2, 3, 28, 29, 30]), (13, [4])], tab [(8, [2, 3, 28, 29, 30])]⟩

/- subgraph.Valid -/
def c_subgraph_Valid_r0 (F : String → Nat) : List LI := [⟨some 2, .bx (.t 0), none⟩,
  ⟨some 3, .bx (.t 1), none⟩,
  ⟨some 4, .mov (.k (.int .i64 (0))), none⟩]
def c_subgraph_Valid_r1 (F : String → Nat) : List LI := [⟨some 6, .load true 2 (.t 2), none⟩,
  ⟨some 7, .call (F "graph.Valid") [.t 6] [], none⟩,
  ⟨some 5, .mov (.t 7), none⟩]
def c_subgraph_Valid_r2 (F : String → Nat) : List LI := [⟨some 8, .mov (.t 5), none⟩,
  ⟨some 9, .bin .neq (.t 8) (.k (.int .i64 (0))), none⟩]
def c_subgraph_Valid_r3 (F : String → Nat) : List LI := [⟨some 10, .mov (.t 5), none⟩,
  ⟨some 4, .mov (.t 10), none⟩]
def c_subgraph_Valid_r4 (F : String → Nat) : List LI := [⟨some 11, .load true 2 (.t 2), none⟩,
  ⟨some 12, .load true 2 (.t 3), none⟩,
  ⟨some 13, .call (F "subgraph.part") [.t 11, .t 12] [], none⟩,
  ⟨some 4, .mov (.t 13), none⟩]
def c_subgraph_Valid (F : String → Nat) : LC := (.seq (.reg (c_subgraph_Valid_r0 F) [2, 3]) (.seq (.seq (.reg (c_subgraph_Valid_r1 F) [2, 3, 5]) (.seq (.reg (c_subgraph_Valid_r2 F) [2, 3, 5, 9]) (.cond (.t 9) (.seq (.reg (c_subgraph_Valid_r3 F) [4]) .ret) .skip))) (.seq (.reg (c_subgraph_Valid_r4 F) [4]) .ret)))
def h_subgraph_Valid : Hints := ⟨[], fun _ => [], tab [(0, [2, 3]), (1, [2, 3, 5]), (2, [2, 3, 5, 9]), (3, [4]), (4, [4])], tab []⟩

/- r07.Same -/
def c_r07_Same_r0 (F : String → Nat) : List LI := [⟨some 2, .bx (.t 0), none⟩,
  ⟨some 3, .bx (.t 1), none⟩,
  ⟨some 4, .mov (.k (.bool false)), none⟩]
def c_r07_Same_r1 (F : String → Nat) : List LI := [⟨some 5, .fad 0 (.t 2), none⟩,
  ⟨some 6, .load false 1 (.t 5), none⟩,
  ⟨some 7, .fad 0 (.t 3), none⟩,
  ⟨some 8, .load false 1 (.t 7), none⟩,
  ⟨some 9, .call (F "r05.SameInts") [.t 6, .t 8] [], none⟩,
  ⟨some 10, .mov (.t 9), none⟩,
  ⟨some 11, .fad 1 (.t 2), some (10, true)⟩,
  ⟨some 12, .load false 1 (.t 11), some (10, true)⟩,
  ⟨some 13, .fad 1 (.t 3), some (10, true)⟩,
  ⟨some 14, .load false 1 (.t 13), some (10, true)⟩,
  ⟨some 15, .call (F "r05.SameInts") [.t 12, .t 14] [], some (10, true)⟩,
  ⟨some 16, .pick (.t 10) (.t 15) (.k (.bool false)), none⟩,
  ⟨some 4, .mov (.t 16), none⟩]
def c_r07_Same (F : String → Nat) : LC := (.seq (.reg (c_r07_Same_r0 F) [2, 3]) (.seq (.reg (c_r07_Same_r1 F) [4]) .ret))
def h_r07_Same : Hints := ⟨[], fun _ => [], tab [(0, [2, 3]), (1, [4])], tab []⟩

attribute [go_sem] c_cmp_isNaN_I_r0 c_cmp_isNaN_I_r1 c_cmp_isNaN_I c_cmp_Less_I_r0 c_cmp_Less_I_r1 c_cmp_Less_I c_slices_isNaN_I_r0 c_slices_isNaN_I_r1 c_slices_isNaN_I c_slices_BinarySearch_I_r0 c_slices_BinarySearch_I_r1 c_slices_BinarySearch_I_r2 c_slices_BinarySearch_I_r3 c_slices_BinarySearch_I_r4 c_slices_BinarySearch_I_r5 c_slices_BinarySearch_I_r6 c_slices_BinarySearch_I_r7 c_slices_BinarySearch_I_r9 c_slices_BinarySearch_I c_subgraph_list_r0 c_subgraph_list_r1 c_subgraph_list_r2 c_subgraph_list_r3 c_subgraph_list_r4 c_subgraph_list_r5 c_subgraph_list_r6 c_subgraph_list_r7 c_subgraph_list_r8 c_subgraph_list_r10 c_subgraph_list c_subgraph_has_r0 c_subgraph_has_r1 c_subgraph_has_r2 c_subgraph_has c_subgraph_part_r0 c_subgraph_part_r1 c_subgraph_part_r2 c_subgraph_part_r3 c_subgraph_part_r4 c_subgraph_part_r5 c_subgraph_part_r6 c_subgraph_part_r7 c_subgraph_part_r8 c_subgraph_part_r9 c_subgraph_part_r10 c_subgraph_part_r11 c_subgraph_part_r12 c_subgraph_part_r14 c_subgraph_part c_subgraph_Valid_r0 c_subgraph_Valid_r1 c_subgraph_Valid_r2 c_subgraph_Valid_r3 c_subgraph_Valid_r4 c_subgraph_Valid c_r07_Same_r0 c_r07_Same_r1 c_r07_Same
def cntB (l : List Int) (x : Int) : Nat := (l.filter fun y => decide (y < x)).length
section
variable (P : Program) (F : String → Nat)
def K_cmp_isNaN_I : Prop := ∀ x : Int, FC P (F "cmp.isNaN.I") [.int .i64 x] (.bool false) []
def K_slices_isNaN_I : Prop := ∀ x : Int, FC P (F "slices.isNaN.I") [.int .i64 x] (.bool false) []
def K_cmp_Less_I : Prop := ∀ x y : Int, FC P (F "cmp.Less.I") [.int .i64 x, .int .i64 y] (.bool (decide (x < y))) []
def K_slices_BinarySearch_I : Prop := ∀ (l : List Int) (x : Int), l.Pairwise (· < ·) → l.length ≤ 1000000 → FC P (F "slices.BinarySearch.I") [.lst 1 (ints l), .int .i64 x] (.tup [.int .i64 (cntB l x), .bool (decide (x ∈ l))]) []
def K_subgraph_has : Prop := ∀ (l : List Int) (x : Int), l.Pairwise (· < ·) → l.length ≤ 1000000 → FC P (F "subgraph.has") [.lst 1 (ints l), .int .i64 x] (.bool (decide (x ∈ l))) []
def K_subgraph_list : Prop := ∀ (l : List Int) (n : Int), l.length ≤ maxL → 0 ≤ n → n ≤ 1000000 → FC P (F "subgraph.list") [.lst 1 (ints l), .int .i64 n] (.int .i64 (ascG n none l)) []
def K_subgraph_part : Prop := ∀ (g : G) (p : Mo), validG g = 0 → p.n.length ≤ maxL → p.e.length ≤ maxL → FC P (F "subgraph.part") [gD g, mD p] (.int .i64 (rightP g p)) []
def K_subgraph_Valid : Prop := ∀ (g : G) (p : Mo), p.n.length ≤ maxL → p.e.length ≤ maxL → FC P (F "subgraph.Valid") [gD g, mD p] (.int .i64 (validP g p)) []
def K_r07_Same : Prop := ∀ a b : Mo, a.n.length ≤ maxL → a.e.length ≤ maxL → FC P (F "r07.Same") [mD a, mD b] (.bool (decide (a = b))) []
end
section
variable {P : Program} {F : String → Nat} {α : Type}
theorem w_r07_Same (hs : K_r05_SameInts P F) (a b : Mo) (h1 : a.n.length ≤ maxL) (h2 : a.e.length ≤ maxL) : W P (c_r07_Same F) (Done [.t 4] [] (.bool (decide (a = b))) []) (init [mD a, mD b]) := by
  refine W_of ?_
  obtain ⟨an, ae⟩ := a
  obtain ⟨bn, be⟩ := b
  simp only at h1 h2
  simp (config := { maxSteps := 1000000 }) (disch := first | omega | (simp only [go_sem]; omega)) only [go_sem, ↓reduceIte, mD]
  refine call_by (hs _ _ h1) ?_
  simp (config := { maxSteps := 1000000 }) (disch := first | omega | (simp only [go_sem]; omega)) only [go_sem, ↓reduceIte]
  refine bran_dec (fun c => ?_) (fun c => ?_)
  · subst c
    simp (config := { maxSteps := 1000000 }) (disch := first | omega | (simp only [go_sem]; omega)) only [go_sem, ↓reduceIte]
    refine call_by (hs _ _ h2) ?_
    simp (config := { maxSteps := 1000000 }) (disch := first | omega | (simp only [go_sem]; omega)) only [go_sem, ↓reduceIte]
    simp
  · simp (config := { maxSteps := 1000000 }) (disch := first | omega | (simp only [go_sem]; omega)) only [go_sem, ↓reduceIte, c]
    simp [c]
theorem pair_gt {l : List Int} (h : l.Pairwise (· < ·)) {i j : Nat} (hij : i < j) (hj : j < l.length) : gt l i < gt l j := by
  rw [gt_nat (by omega), gt_nat hj]
  exact List.pairwise_iff_getElem.1 h i j (by omega) hj hij
theorem cntB_eq {l : List Int} {x : Int} (hp : l.Pairwise (· < ·)) {i : Nat} (hi : i ≤ l.length) (h1 : ∀ k : Nat, k < i → gt l k < x) (h2 : ∀ k : Nat, i ≤ k → k < l.length → x ≤ gt l k) : cntB l x = i ∧ (x ∈ l ↔ i < l.length ∧ gt l i = x) := by
  constructor
  · unfold cntB
    conv => lhs; rw [← List.take_append_drop i l]
    rw [List.filter_append, List.length_append]
    have e1 : (l.take i).filter (fun y => decide (y < x)) = l.take i := List.filter_eq_self.2 fun y hy => by
      obtain ⟨k, hk, rfl⟩ := List.mem_take_iff_getElem.1 hy
      have := h1 k (by omega)
      rw [gt_nat (by omega)] at this
      simpa using this
    have e2 : (l.drop i).filter (fun y => decide (y < x)) = [] := List.filter_eq_nil_iff.2 fun y hy => by
      obtain ⟨k, hk, rfl⟩ := List.mem_drop_iff_getElem.1 hy
      have := h2 (i + k) (by omega) (by omega)
      rw [gt_nat (by omega)] at this
      simpa using this
    rw [e1, e2]; simp; omega
  · constructor
    · intro hx
      obtain ⟨k, hk, hk2⟩ := mem_gt hx
      by_cases c : k < i
      · have := h1 k c; omega
      · by_cases d : k = i
        · subst d; exact ⟨hk, hk2⟩
        · have := pair_gt hp (i := i) (j := k) (by omega) hk
          have := h2 i (by omega) (by omega)
          omega
    · rintro ⟨h, e⟩
      rw [← e]; exact gt_mem (by omega) (by omega)
theorem w_cmp_isNaN_I (x : Int) : W P (c_cmp_isNaN_I F) (Done [.t 2] [] (.bool false) []) (init [.int .i64 x]) := by
  refine W_of ?_
  simp (config := { maxSteps := 1000000 }) (disch := first | omega | (simp only [go_sem]; omega)) only [go_sem, ↓reduceIte]
  try simp
theorem w_slices_isNaN_I (x : Int) : W P (c_slices_isNaN_I F) (Done [.t 2] [] (.bool false) []) (init [.int .i64 x]) := by
  refine W_of ?_
  simp (config := { maxSteps := 1000000 }) (disch := first | omega | (simp only [go_sem]; omega)) only [go_sem, ↓reduceIte]
  try simp
theorem w_cmp_Less_I (hn : K_cmp_isNaN_I P F) (x y : Int) : W P (c_cmp_Less_I F) (Done [.t 4] [] (.bool (decide (x < y))) []) (init [.int .i64 x, .int .i64 y]) := by
  refine W_of ?_
  simp (config := { maxSteps := 1000000 }) (disch := first | omega | (simp only [go_sem]; omega)) only [go_sem, ↓reduceIte]
  refine call_by (hn x) ?_
  simp (config := { maxSteps := 1000000 }) (disch := first | omega | (simp only [go_sem]; omega)) only [go_sem, ↓reduceIte]
theorem w_slices_BinarySearch_I (hc : K_cmp_Less_I P F) (hn : K_slices_isNaN_I P F) (l : List Int) (x : Int) (hp : l.Pairwise (· < ·)) (hl : l.length ≤ 1000000) : W P (c_slices_BinarySearch_I F) (Done [.t 4, .t 5] [] (.tup [.int .i64 (cntB l x), .bool (decide (x ∈ l))]) []) (init [.lst 1 (ints l), .int .i64 x]) := by
  refine W_of ?_
  simp (config := { maxSteps := 1000000 }) (disch := first | omega | (simp only [go_sem]; omega)) only [go_sem, ↓reduceIte]
  refine W_loop (fun s : Nat × Nat => ⟨[(0, .lst 1 (ints l)), (1, .int .i64 x), (6, .int .i64 l.length), (7, .int .i64 s.1), (8, .int .i64 s.2)], [], 0⟩) (fun s => (s.1 ≤ s.2 ∧ s.2 ≤ l.length) ∧ (∀ k : Nat, k < s.1 → gt l k < x) ∧ ∀ k : Nat, s.2 ≤ k → k < l.length → x ≤ gt l k) (fun s => s.2 - s.1) (0, l.length) ?_ ?_ ?_
  · simp (config := { maxSteps := 1000000 }) (disch := first | omega | (simp only [go_sem]; omega)) only [go_sem, ↓reduceIte]
    rfl
  · exact ⟨by simp, fun k hk => by simp only at hk; omega, fun k h1 h2 => by simp only at h1; omega⟩
  · rintro ⟨i, j⟩ ⟨⟨i1, i2⟩, i3, i4⟩
    simp only at i1 i2 i3 i4
    by_cases c : i < j
    · have g1 : decide ((i : Int) < j) = true := decide_eq_true (by omega)
      have hh : ((i : Int) + j).fdiv (2 ^ min (1 : Int).toNat 64) = (((i + j) / 2 : Nat) : Int) := by
        rw [Int.fdiv_eq_ediv_of_nonneg _ (by decide)]
        simp
      have w1 : IntKind.u64.wrap ((i : Int) + j) = (i : Int) + j := by
        unfold IntKind.wrap
        simp [IntKind.bits, IntKind.signed]
        omega
      have r := hc (gt l (((i + j) / 2 : Nat) : Int)) x
      have z1 : ¬ ((1 : Int) < 0) := by omega
      have lt : (i + j) / 2 < j := by omega
      have le : i ≤ (i + j) / 2 := by omega
      rw [show (1 : Int).toNat = 1 from rfl] at hh
      generalize (i + j) / 2 = h at *
      by_cases d : gt l h < x
      · rw [decide_eq_true d] at r
        simp (config := { maxSteps := 1000000 }) (disch := first | omega | (simp only [go_sem]; omega)) only [go_sem, ↓reduceIte, c_slices_BinarySearch_I_b8, g1, w1, z1, hh]
        refine call_by r ?_
        simp (config := { maxSteps := 1000000 }) (disch := first | omega | (simp only [go_sem]; omega)) only [go_sem, ↓reduceIte]
        refine ⟨(h + 1, j), by simp, ⟨⟨by simp only; omega, i2⟩, fun k hk => ?_, i4⟩, by simp only; omega⟩
        simp only at hk
        by_cases e : k = h
        · subst e; exact d
        · have := pair_gt hp (i := k) (j := h) (by omega) (by omega)
          omega
      · rw [decide_eq_false d] at r
        simp (config := { maxSteps := 1000000 }) (disch := first | omega | (simp only [go_sem]; omega)) only [go_sem, ↓reduceIte, c_slices_BinarySearch_I_b8, g1, w1, z1, hh]
        refine call_by r ?_
        simp (config := { maxSteps := 1000000 }) (disch := first | omega | (simp only [go_sem]; omega)) only [go_sem, ↓reduceIte]
        refine ⟨(i, h), by simp, ⟨⟨by simp only; omega, by simp only; omega⟩, i3, fun k h1 h2 => ?_⟩, by simp only; omega⟩
        simp only at h1
        by_cases e : k = h
        · subst e; omega
        · have := pair_gt hp (i := h) (j := k) (by omega) (by omega)
          omega
    · have g1 : decide ((i : Int) < j) = false := decide_eq_false (by omega)
      obtain rfl : i = j := by omega
      obtain ⟨e1, e2⟩ := cntB_eq hp i2 i3 i4
      rw [e1]
      by_cases c2 : i < l.length
      · have g2 : decide ((i : Int) < l.length) = true := decide_eq_true (by omega)
        by_cases c3 : gt l i = x
        · have g3 : decide (gt l i = x) = true := decide_eq_true c3
          have hx : x ∈ l := e2.2 ⟨c2, c3⟩
          rw [decide_eq_true hx]
          simp (config := { maxSteps := 1000000 }) (disch := first | omega | (simp only [go_sem]; omega)) only [go_sem, ↓reduceIte, c_slices_BinarySearch_I_b8, g1, g2, g3]
        · have g3 : decide (gt l i = x) = false := decide_eq_false c3
          have hx : ¬ x ∈ l := fun h => c3 (e2.1 h).2
          rw [decide_eq_false hx]
          simp (config := { maxSteps := 1000000 }) (disch := first | omega | (simp only [go_sem]; omega)) only [go_sem, ↓reduceIte, c_slices_BinarySearch_I_b8, g1, g2, g3]
          refine call_by (hn _) ?_
          simp (config := { maxSteps := 1000000 }) (disch := first | omega | (simp only [go_sem]; omega)) only [go_sem, ↓reduceIte]
      · have g2 : decide ((i : Int) < l.length) = false := decide_eq_false (by omega)
        have hx : ¬ x ∈ l := fun h => c2 (e2.1 h).1
        rw [decide_eq_false hx]
        simp (config := { maxSteps := 1000000 }) (disch := first | omega | (simp only [go_sem]; omega)) only [go_sem, ↓reduceIte, c_slices_BinarySearch_I_b8, g1, g2]
theorem w_subgraph_has (hb : K_slices_BinarySearch_I P F) (l : List Int) (x : Int) (hp : l.Pairwise (· < ·)) (hl : l.length ≤ 1000000) : W P (c_subgraph_has F) (Done [.t 4] [] (.bool (decide (x ∈ l))) []) (init [.lst 1 (ints l), .int .i64 x]) := by
  refine W_of ?_
  have r := hb l x hp hl
  simp (config := { maxSteps := 1000000 }) (disch := first | omega | (simp only [go_sem]; omega)) only [go_sem, ↓reduceIte]
  refine call_by r ?_
  simp (config := { maxSteps := 1000000 }) (disch := first | omega | (simp only [go_sem]; omega)) only [go_sem, ↓reduceIte]
theorem w_subgraph_list (l : List Int) (n : Int) (hl : l.length ≤ maxL) (h0 : 0 ≤ n) (h1 : n ≤ 1000000) : W P (c_subgraph_list F) (Done [.t 4] [] (.int .i64 (ascG n none l)) []) (init [.lst 1 (ints l), .int .i64 n]) := by
  refine W_of ?_
  unfold maxL at hl
  simp (config := { maxSteps := 1000000 }) (disch := first | omega | (simp only [go_sem]; omega)) only [go_sem, ↓reduceIte]
  refine W_loop (fun i : Nat => ⟨[(0, .lst 1 (ints l)), (1, .int .i64 n), (7, .lst 1 (ints l)), (8, .int .i64 l.length), (9, .int .i64 i)], [], 0⟩) (fun i => i ≤ l.length ∧ ascG n none l = ascG n (prevO l i) (l.drop i)) (fun i => l.length - i) 0 ?_ ?_ ?_
  · simp (config := { maxSteps := 1000000 }) (disch := first | omega | (simp only [go_sem]; omega)) only [go_sem, ↓reduceIte]
    rfl
  · simp [prevO]
  · intro i hi
    simp (config := { maxSteps := 1000000 }) (disch := first | omega | (simp only [go_sem]; omega)) only [go_sem, ↓reduceIte, c_subgraph_list_b9]
    refine bran_dec (fun a => ?_) (fun a => ?_)
    · have hs := asc_step n l i (by omega)
      simp (config := { maxSteps := 1000000 }) (disch := first | omega | (simp only [go_sem]; omega)) only [go_sem, ↓reduceIte]
      refine bran_dec (fun b => ?_) (fun b => ?_)
      · simp (config := { maxSteps := 1000000 }) (disch := first | omega | (simp only [go_sem]; omega)) only [go_sem, ↓reduceIte, b]
        rw [hi.2, hs, if_neg (by omega)]
      · simp (config := { maxSteps := 1000000 }) (disch := first | omega | (simp only [go_sem]; omega)) only [go_sem, ↓reduceIte, b]
        refine bran_dec (fun b2 => ?_) (fun b2 => ?_)
        · simp (config := { maxSteps := 1000000 }) (disch := first | omega | (simp only [go_sem]; omega)) only [go_sem, ↓reduceIte]
          rw [hi.2, hs, if_neg (by omega)]
        · rw [if_pos (by omega)] at hs
          simp (config := { maxSteps := 1000000 }) (disch := first | omega | (simp only [go_sem]; omega)) only [go_sem, ↓reduceIte]
          refine bran_dec (fun c => ?_) (fun c => ?_)
          · simp (config := { maxSteps := 1000000 }) (disch := first | omega | (simp only [go_sem]; omega)) only [go_sem, ↓reduceIte, c]
            refine bran_dec (fun d => ?_) (fun d => ?_)
            · simp (config := { maxSteps := 1000000 }) (disch := first | omega | (simp only [go_sem]; omega)) only [go_sem, ↓reduceIte]
              rw [hi.2, hs, if_pos ⟨by omega, d⟩]
            · simp (config := { maxSteps := 1000000 }) (disch := first | omega | (simp only [go_sem]; omega)) only [go_sem, ↓reduceIte]
              exact ⟨i + 1, by simp, ⟨by omega, by rw [hi.2, hs, if_neg (fun e => d e.2)]⟩, by omega⟩
          · simp (config := { maxSteps := 1000000 }) (disch := first | omega | (simp only [go_sem]; omega)) only [go_sem, ↓reduceIte, c]
            exact ⟨i + 1, by simp, ⟨by omega, by rw [hi.2, hs, if_neg (fun e => by omega)]⟩, by omega⟩
    · simp (config := { maxSteps := 1000000 }) (disch := first | omega | (simp only [go_sem]; omega)) only [go_sem, ↓reduceIte]
      rw [hi.2, List.drop_of_length_le (by omega)]
      rfl
theorem w_subgraph_part (hl : K_subgraph_list P F) (hh : K_subgraph_has P F) (g : G) (p : Mo) (hv : validG g = 0) (h1 : p.n.length ≤ maxL) (h2 : p.e.length ≤ maxL) : W P (c_subgraph_part F) (Done [.t 4] [] (.int .i64 (rightP g p)) []) (init [gD g, mD p]) := by
  refine W_of ?_
  have vs := valid_spec hv
  have r1 := hl p.n g.n.length h1 (by omega) (by omega)
  have r2 := hl p.e g.e.length h2 (by omega) (by omega)
  have hR : rightP g p = if ascG g.n.length none p.n ≠ 0 then ascG g.n.length none p.n else if ascG g.e.length none p.e ≠ 0 then ascG g.e.length none p.e else if dangP g p = true then 14 else 0 := rfl
  rw [hR]
  by_cases c1 : ascG g.n.length none p.n = 0
  case neg =>
    rw [if_pos c1]
    generalize ascG g.n.length none p.n = v at *
    simp only [gD, mD] at *
    simp (config := { maxSteps := 1000000 }) (disch := first | omega | (simp only [go_sem]; omega)) only [go_sem, ↓reduceIte]
    refine call_by r1 ?_
    simp (config := { maxSteps := 1000000 }) (disch := first | omega | (simp only [go_sem]; omega)) only [go_sem, ↓reduceIte, c1]
  rw [if_neg (by simp [c1])]
  by_cases c2 : ascG g.e.length none p.e = 0
  case neg =>
    rw [if_pos c2]
    rw [c1] at r1
    generalize ascG g.e.length none p.e = v at *
    simp only [gD, mD] at *
    simp (config := { maxSteps := 1000000 }) (disch := first | omega | (simp only [go_sem]; omega)) only [go_sem, ↓reduceIte]
    refine call_by r1 ?_
    simp (config := { maxSteps := 1000000 }) (disch := first | omega | (simp only [go_sem]; omega)) only [go_sem, ↓reduceIte]
    refine call_by r2 ?_
    simp (config := { maxSteps := 1000000 }) (disch := first | omega | (simp only [go_sem]; omega)) only [go_sem, ↓reduceIte, c2]
  rw [if_neg (by simp [c2])]
  have a1 := ascG_iff.1 c1
  have a2 := ascG_iff.1 c2
  have q1 := asc_len a1
  have q2 := asc_len a2
  rw [c1] at r1
  rw [c2] at r2
  have hD : dangP g p = p.e.any fun x => !(decide ((gt g.e x).f ∈ p.n) && decide ((gt g.e x).o ∈ p.n)) := rfl
  have hx := fun x => hh p.n x a1.p (by omega)
  clear hR c1 c2
  obtain ⟨gn, ge⟩ := g
  obtain ⟨pn, pe⟩ := p
  simp only [gD, mD] at *
  simp (config := { maxSteps := 1000000 }) (disch := first | omega | (simp only [go_sem]; omega)) only [go_sem, ↓reduceIte]
  refine call_by r1 ?_
  simp (config := { maxSteps := 1000000 }) (disch := first | omega | (simp only [go_sem]; omega)) only [go_sem, ↓reduceIte]
  refine call_by r2 ?_
  simp (config := { maxSteps := 1000000 }) (disch := first | omega | (simp only [go_sem]; omega)) only [go_sem, ↓reduceIte]
  refine W_loop (fun i : Nat => ⟨[(2, .pt 0 0), (3, .pt 1 0), (28, .lst 1 (ints pe)), (29, .int .i64 pe.length), (30, .int .i64 i)], [(0, .box [.lst 1 (ints gn), .lst 3 (eds ge)]), (1, .box [.lst 1 (ints pn), .lst 1 (ints pe)])], 2⟩) (fun i => i ≤ pe.length ∧ ∀ k : Nat, k < i → (gt ge (gt pe k)).f ∈ pn ∧ (gt ge (gt pe k)).o ∈ pn) (fun i => pe.length - i) 0 ?_ ?_ ?_
  · simp (config := { maxSteps := 1000000 }) (disch := first | omega | (simp only [go_sem]; omega)) only [go_sem, ↓reduceIte]
    rfl
  · exact ⟨by omega, fun k hk => by omega⟩
  · rintro i ⟨hi, hk⟩
    by_cases c : i < pe.length
    · have g1 : decide ((i : Int) < pe.length) = true := decide_eq_true (by omega)
      have hb := a2.b _ (gt_mem (l := pe) (j := i) (by omega) (by omega))
      have x1 := hx (gt ge (gt pe i)).f
      have x2 := hx (gt ge (gt pe i)).o
      by_cases d1 : (gt ge (gt pe i)).f ∈ pn
      · rw [decide_eq_true d1] at x1
        by_cases d2 : (gt ge (gt pe i)).o ∈ pn
        · rw [decide_eq_true d2] at x2
          simp (config := { maxSteps := 1000000 }) (disch := first | omega | (simp only [go_sem]; omega)) only [go_sem, ↓reduceIte, c_subgraph_part_b13, g1]
          refine call_by x1 ?_
          simp (config := { maxSteps := 1000000 }) (disch := first | omega | (simp only [go_sem]; omega)) only [go_sem, ↓reduceIte]
          refine call_by x2 ?_
          simp (config := { maxSteps := 1000000 }) (disch := first | omega | (simp only [go_sem]; omega)) only [go_sem, ↓reduceIte]
          refine ⟨i + 1, by simp, ⟨by omega, fun k h => ?_⟩, by omega⟩
          by_cases e : k = i
          · subst e; exact ⟨d1, d2⟩
          · exact hk k (by omega)
        · rw [decide_eq_false d2] at x2
          have hdt : dangP ⟨gn, ge⟩ ⟨pn, pe⟩ = true := by
            rw [hD, List.any_eq_true]
            exact ⟨_, gt_mem (l := pe) (j := i) (by omega) (by omega), by simp [d2]⟩
          rw [hdt]
          simp (config := { maxSteps := 1000000 }) (disch := first | omega | (simp only [go_sem]; omega)) only [go_sem, ↓reduceIte, c_subgraph_part_b13, g1]
          refine call_by x1 ?_
          simp (config := { maxSteps := 1000000 }) (disch := first | omega | (simp only [go_sem]; omega)) only [go_sem, ↓reduceIte]
          refine call_by x2 ?_
          simp (config := { maxSteps := 1000000 }) (disch := first | omega | (simp only [go_sem]; omega)) only [go_sem, ↓reduceIte]
          try rfl
      · rw [decide_eq_false d1] at x1
        have hdt : dangP ⟨gn, ge⟩ ⟨pn, pe⟩ = true := by
          rw [hD, List.any_eq_true]
          exact ⟨_, gt_mem (l := pe) (j := i) (by omega) (by omega), by simp [d1]⟩
        rw [hdt]
        simp (config := { maxSteps := 1000000 }) (disch := first | omega | (simp only [go_sem]; omega)) only [go_sem, ↓reduceIte, c_subgraph_part_b13, g1]
        refine call_by x1 ?_
        simp (config := { maxSteps := 1000000 }) (disch := first | omega | (simp only [go_sem]; omega)) only [go_sem, ↓reduceIte]
        try rfl
    · have g1 : decide ((i : Int) < pe.length) = false := decide_eq_false (by omega)
      obtain rfl : i = pe.length := by omega
      have hdt : dangP ⟨gn, ge⟩ ⟨pn, pe⟩ = false := by
        rw [hD, List.any_eq_false]
        intro x hx
        obtain ⟨k, k1, k2⟩ := mem_gt hx
        have := hk k k1
        rw [k2] at this
        simp [this]
      rw [hdt]
      simp (config := { maxSteps := 1000000 }) (disch := first | omega | (simp only [go_sem]; omega)) only [go_sem, ↓reduceIte, c_subgraph_part_b13, g1]
      try rfl
theorem w_subgraph_Valid (hv : K_graph_Valid P F) (hp : K_subgraph_part P F) (g : G) (p : Mo) (h1 : p.n.length ≤ maxL) (h2 : p.e.length ≤ maxL) : W P (c_subgraph_Valid F) (Done [.t 4] [] (.int .i64 (validP g p)) []) (init [gD g, mD p]) := by
  refine W_of ?_
  have r1 := hv g
  have hR : validP g p = if validG g ≠ 0 then validG g else rightP g p := rfl
  rw [hR]
  by_cases c : validG g = 0
  · have r2 := hp g p c h1 h2
    rw [if_neg (by simp [c])]
    rw [c] at r1
    generalize rightP g p = v at *
    simp only [gD, mD] at *
    simp (config := { maxSteps := 1000000 }) (disch := first | omega | (simp only [go_sem]; omega)) only [go_sem, ↓reduceIte]
    refine call_by r1 ?_
    simp (config := { maxSteps := 1000000 }) (disch := first | omega | (simp only [go_sem]; omega)) only [go_sem, ↓reduceIte]
    refine call_by r2 ?_
    simp (config := { maxSteps := 1000000 }) (disch := first | omega | (simp only [go_sem]; omega)) only [go_sem, ↓reduceIte]
  · rw [if_pos c]
    generalize validG g = v at *
    simp only [gD, mD] at *
    simp (config := { maxSteps := 1000000 }) (disch := first | omega | (simp only [go_sem]; omega)) only [go_sem, ↓reduceIte]
    refine call_by r1 ?_
    simp (config := { maxSteps := 1000000 }) (disch := first | omega | (simp only [go_sem]; omega)) only [go_sem, ↓reduceIte, c]
end
end Go.Am
namespace Go.Am
open Go
set_option linter.unusedVariables false
set_option linter.unusedSimpArgs false
attribute [local irreducible] W

/-- A case: a graph with a part, and a morphism from it. -/
structure Cx where
  l : G
  g : G
  k : Mo
  m : Mo
  deriving DecidableEq, Inhabited
section
variable (P : Program) (F : String → Nat)
def Cx.sm (x : Cx) : Prop := x.k.n.length ≤ maxL ∧ x.k.e.length ≤ maxL
end
section
variable {P : Program} {F : String → Nat} {α : Type}
end
end Go.Am
namespace Go.Am
open Go
set_option linter.unusedVariables false
set_option linter.unusedSimpArgs false
attribute [local irreducible] W
def markL (b : List Bool) : List Int := sel (fun k : Nat => gt b k) b.length
def inB (n : Nat) (x : Int) : Bool := decide (0 ≤ x ∧ x < n)
def closeR (g : G) (ns es : List Int) : Mo × Int := if validG g ≠ 0 then (m0, validG g) else if ns.all (inB g.n.length) && es.all (inB g.e.length) then (closeP g ns es, 0) else (m0, 6)
section
variable (P : Program) (F : String → Nat)
end
section
variable {P : Program} {F : String → Nat} {α : Type}
theorem markL_x {b : List Bool} {x : Int} : x ∈ markL b ↔ ∃ k : Nat, k < b.length ∧ gt b k = true ∧ x = k := sel_mem
theorem inB_all {n : Nat} {l : List Int} : l.all (inB n) = true ↔ ∀ i : Nat, i < l.length → 0 ≤ gt l i ∧ gt l i < n := by
  rw [List.all_eq_true]
  simp only [inB, decide_eq_true_eq]
  exact ⟨fun h i hi => h _ (gt_mem (by omega) (by omega)), fun h x hx => by obtain ⟨i, hi, rfl⟩ := mem_gt hx; exact h i hi⟩
end
end Go.Am
namespace Go.Am
open Go
set_option linter.unusedVariables false
set_option linter.unusedSimpArgs false
attribute [local irreducible] W

theorem ints_two (l : List Int) (a b : Int) : ints l ++ [.int .i64 a, .int .i64 b] = ints (l ++ [a, b]) := by simp [ints]
attribute [go_sem] ints_two
section
variable (P : Program) (F : String → Nat)
end
section
variable {P : Program} {F : String → Nat} {α : Type}
end
end Go.Am
namespace Go.Am
open Go
set_option linter.unusedVariables false
set_option linter.unusedSimpArgs false
def shE1 (n : Int) (x : E) : E := ⟨x.t, x.f + n, x.o + n⟩
section
variable (P : Program) (F : String → Nat)
end
section
variable {P : Program} {F : String → Nat} {α : Type}
theorem FC.nl {P : Program} {f a b : Nat} {args : List D} {r : D} {outs : List (Nat × D)} (h : FC P f (.nl a :: args) r outs) : FC P f (.nl b :: args) r outs := by
  unfold FC at *
  simp only [DRs, DR] at *
  exact h
end
end Go.Am
namespace Go.Am
open Go
set_option linter.unusedVariables false
set_option linter.unusedSimpArgs false
def unG (a b : G) : G := ⟨a.n ++ b.n, a.e ++ b.e.map (shE1 a.n.length)⟩
def inR (a b : G) : Mo := ⟨nums a.n.length b.n.length, nums a.e.length b.e.length⟩
def Big (b c : G) : Prop := 40 < b.n.length + c.n.length ∨ 80 < b.e.length + c.e.length
instance (b c : G) : Decidable (Big b c) := inferInstanceAs (Decidable (_ ∨ _))
/-- A span. -/
structure Sp where
  a : G
  b : G
  c : G
  f : Mo
  g : Mo
  deriving DecidableEq, Inhabited
def poF (s : Sp) : Mo := thenM s.f (idM s.b)
def poH (s : Sp) : Mo := thenM s.g (inR s.b s.c)
def poG (s : Sp) : G := gluG (unG s.b s.c) (poF s) (poH s)
def poQ (s : Sp) : Mo := gluM (unG s.b s.c) (poF s) (poH s)
def poP (s : Sp) : Mo := thenM (idM s.b) (poQ s)
def poK (s : Sp) : Mo := thenM (inR s.b s.c) (poQ s)
section
theorem nums_gtF {f : Int} {n i : Nat} (hi : i < n) : gt (nums f n) i = f + i := by
  unfold nums
  rw [gt_nat (by simp; exact hi)]
  simp
theorem gt_appL {α : Type} [Inhabited α] {l m : List α} {i : Nat} (h : i < l.length) : gt (l ++ m) i = gt l i := by
  rw [gt_nat (by simp; omega), gt_nat h, List.getElem_append_left h]
theorem gt_appR {α : Type} [Inhabited α] {l m : List α} {i : Nat} (h : i < m.length) : gt (l ++ m) ((l.length : Int) + i) = gt m i := by
  rw [show (l.length : Int) + i = ((l.length + i : Nat) : Int) by omega, gt_nat (by simp; omega), gt_nat h, List.getElem_append_right (by omega)]
  simp
theorem thr_assoc {l b c : List Int} (h : ∀ i : Nat, i < l.length → 0 ≤ gt l i ∧ gt l i < b.length) : thr (thr l b) c = thr l (thr b c) :=
  list_ext_gt (by simp only [thr_len]) fun i hi => by
    rw [thr_len, thr_len] at hi
    obtain ⟨k, hk, hk2⟩ := gtI (h i hi)
    rw [thr_gt (by rw [thr_len]; exact hi), thr_gt hi, thr_gt hi, hk2, thr_gt hk]
theorem then_assoc {a b c : G} {m n o : Mo} (hm : MOk a b m) (hn : MOk b c n) : thenM (thenM m n) o = thenM m (thenM n o) := by
  have l1 := hn.ln
  have l2 := hn.le
  refine mo_ext (thr_assoc fun i hi => ?_) (thr_assoc fun i hi => ?_)
  · rw [l1]; exact (hm.nd i (by rw [← hm.ln]; exact hi)).1
  · rw [l2]; exact (hm.ed i (by rw [← hm.le]; exact hi)).1
theorem then_okP {a b c : G} {m n : Mo} (hm : MOk a b m) (hn : MOk b c n) : MOk a c (thenM m n) := by
  have l1 := hm.ln
  have l2 := hm.le
  refine ⟨hm.va, hn.vb, by simp only [thenM, thr_len]; exact l1, by simp only [thenM, thr_len]; exact l2, fun i hi => ?_, fun i hi => ?_⟩
  · obtain ⟨h1, h2⟩ := hm.nd i hi
    obtain ⟨k, hk, hk2⟩ := gtI h1
    simp only [thenM]
    rw [thr_gt (by omega), hk2]
    rw [hk2] at h2
    obtain ⟨h3, h4⟩ := hn.nd k hk
    exact ⟨h3, by rw [h4, h2]⟩
  · obtain ⟨h1, h2, h3, h4⟩ := hm.ed i hi
    obtain ⟨k, hk, hk2⟩ := gtI h1
    obtain ⟨_, f1, f2⟩ := edge_fits hm.va (i := i) (by omega)
    obtain ⟨p, hp, hp2⟩ := gtI f1
    obtain ⟨q, hq, hq2⟩ := gtI f2
    simp only [thenM]
    rw [thr_gt (by omega), hk2]
    rw [hk2] at h2 h3 h4
    obtain ⟨g1, g2, g3, g4⟩ := hn.ed k hk
    refine ⟨g1, by rw [h2, g2], ?_, ?_⟩
    · rw [hp2, thr_gt (by omega), ← g3, ← h3, hp2]
    · rw [hq2, thr_gt (by omega), ← g4, ← h4, hq2]
theorem un_len (b c : G) : (unG b c).n.length = b.n.length + c.n.length ∧ (unG b c).e.length = b.e.length + c.e.length := by simp [unG]
theorem un_ok {b c : G} (vb : validG b = 0) (vc : validG c = 0) (hs : ¬ Big b c) : validG (unG b c) = 0 := by
  have v1 := valid_spec vb
  have v2 := valid_spec vc
  have hl := un_len b c
  unfold Big at hs
  refine valid_mk (by omega) (by omega) (fun x hx => ?_) (fun x hx => ?_)
  · rcases List.mem_append.1 hx with hx | hx
    · exact v1.2.2.1 x hx
    · exact v2.2.2.1 x hx
  · rw [hl.1]
    rcases List.mem_append.1 hx with hx | hx
    · have := fits_spec (v1.2.2.2 x hx)
      exact fits_mk this.1 (by omega) (by omega)
    · obtain ⟨y, hy, rfl⟩ := List.mem_map.1 hx
      have := fits_spec (v2.2.2.2 y hy)
      exact fits_mk this.1 (by simp only [shE1]; omega) (by simp only [shE1]; omega)
theorem inL_ok {b c : G} (vb : validG b = 0) (vc : validG c = 0) (hs : ¬ Big b c) : MOk b (unG b c) (idM b) := by
  have hl := un_len b c
  have hi := idM_ok vb
  refine ⟨vb, un_ok vb vc hs, hi.ln, hi.le, fun i h => ?_, fun i h => ?_⟩
  · simp only [idM, unG]
    rw [nums_gt h, gt_appL h]
    exact ⟨by simp; omega, rfl⟩
  · obtain ⟨h1, h2, h3, h4⟩ := hi.ed i h
    simp only [idM, unG] at *
    rw [nums_gt h] at h2 h3 h4 ⊢
    rw [gt_appL h]
    exact ⟨by simp; omega, h2, h3, h4⟩
theorem inR_ok {b c : G} (vb : validG b = 0) (vc : validG c = 0) (hs : ¬ Big b c) : MOk c (unG b c) (inR b c) := by
  have hl := un_len b c
  refine ⟨vc, un_ok vb vc hs, by simp [inR, nums_len], by simp [inR, nums_len], fun i h => ?_, fun i h => ?_⟩
  · simp only [inR, unG]
    rw [nums_gtF h, gt_appR h]
    exact ⟨by simp; omega, rfl⟩
  · obtain ⟨_, t2, t3⟩ := edge_fits vc (i := i) (by omega)
    obtain ⟨p, hp, hp2⟩ := gtI t2
    obtain ⟨q, hq, hq2⟩ := gtI t3
    simp only [inR, unG]
    rw [nums_gtF h, gt_appR (by simpa using h), gt_map h]
    refine ⟨by simp; omega, rfl, ?_, ?_⟩
    · simp only [shE1]
      rw [hp2, nums_gtF hp]; omega
    · simp only [shE1]
      rw [hq2, nums_gtF hq]; omega
theorem split_i {b c i : Nat} (h : i < b + c) : i < b ∨ ∃ j : Nat, j < c ∧ i = b + j := by
  by_cases x : i < b
  · exact .inl x
  · exact .inr ⟨i - b, by omega, by omega⟩
/-- Two morphisms from a union are the same if they are so on both sides. -/
theorem un_one {b c x : G} {u v : Mo} (hu : MOk (unG b c) x u) (hv : MOk (unG b c) x v) (h1 : thenM (idM b) u = thenM (idM b) v) (h2 : thenM (inR b c) u = thenM (inR b c) v) : u = v := by
  have hl := un_len b c
  refine mo_ext (list_ext_gt (by rw [hu.ln, hv.ln]) fun i hi => ?_) (list_ext_gt (by rw [hu.le, hv.le]) fun i hi => ?_)
  · rw [hu.ln, hl.1] at hi
    rcases split_i hi with h | ⟨j, h, rfl⟩
    · have := thenM_n h1 (i := i) (by simp [idM, nums_len]; exact h) (by simp [idM, nums_len]; exact h)
      simp only [idM] at this
      rwa [nums_gt h] at this
    · have := thenM_n h2 (i := j) (by simp [inR, nums_len]; exact h) (by simp [inR, nums_len]; exact h)
      simp only [inR] at this
      rw [nums_gtF h] at this
      rw [show ((b.n.length + j : Nat) : Int) = (b.n.length : Int) + j by omega]
      exact this
  · rw [hu.le, hl.2] at hi
    rcases split_i hi with h | ⟨j, h, rfl⟩
    · have := thenM_e h1 (i := i) (by simp [idM, nums_len]; exact h) (by simp [idM, nums_len]; exact h)
      simp only [idM] at this
      rwa [nums_gt h] at this
    · have := thenM_e h2 (i := j) (by simp [inR, nums_len]; exact h) (by simp [inR, nums_len]; exact h)
      simp only [inR] at this
      rw [nums_gtF h] at this
      rw [show ((b.e.length + j : Nat) : Int) = (b.e.length : Int) + j by omega]
      exact this
/-- A span that is right. -/
structure SOk (s : Sp) : Prop where
  f : MOk s.a s.b s.f
  g : MOk s.a s.c s.g
  s : ¬ Big s.b s.c
section
variable {s : Sp}
theorem SOk.uF (h : SOk s) : MOk s.a (unG s.b s.c) (poF s) := then_okP h.f (inL_ok h.f.vb h.g.vb h.s)
theorem SOk.uH (h : SOk s) : MOk s.a (unG s.b s.c) (poH s) := then_okP h.g (inR_ok h.f.vb h.g.vb h.s)
theorem SOk.q (h : SOk s) : MOk (unG s.b s.c) (poG s) (poQ s) := glu_ok h.uF h.uH
theorem SOk.p (h : SOk s) : MOk s.b (poG s) (poP s) := then_okP (inL_ok h.f.vb h.g.vb h.s) h.q
theorem SOk.k (h : SOk s) : MOk s.c (poG s) (poK s) := then_okP (inR_ok h.f.vb h.g.vb h.s) h.q
theorem SOk.comm (h : SOk s) : thenM s.f (poP s) = thenM s.g (poK s) := by
  unfold poP poK
  rw [← then_assoc h.f (inL_ok h.f.vb h.g.vb h.s), ← then_assoc h.g (inR_ok h.f.vb h.g.vb h.s)]
  exact glu_eq h.uF h.uH
theorem SOk.one (hs : SOk s) {x : G} {u v : Mo} (hu : MOk (poG s) x u) (hv : MOk (poG s) x v) (h1 : thenM (poP s) u = thenM (poP s) v) (h2 : thenM (poK s) u = thenM (poK s) v) : u = v := by
  have il := inL_ok hs.f.vb hs.g.vb hs.s
  have ir := inR_ok hs.f.vb hs.g.vb hs.s
  refine glu_one hs.uF hs.uH hu hv (un_one (then_okP hs.q hu) (then_okP hs.q hv) ?_ ?_)
  · exact (then_assoc il hs.q).symm.trans (h1.trans (then_assoc il hs.q))
  · exact (then_assoc ir hs.q).symm.trans (h2.trans (then_assoc ir hs.q))
theorem SOk.surN (hs : SOk s) {j : Nat} (hj : j < (poG s).n.length) : (∃ i : Nat, i < s.b.n.length ∧ gt (poP s).n i = j) ∨ ∃ i : Nat, i < s.c.n.length ∧ gt (poK s).n i = j := by
  obtain ⟨i, hi, hi2⟩ := glu_surN hs.uF hs.uH hj
  rw [(un_len _ _).1] at hi
  rcases split_i hi with h | ⟨k, h, rfl⟩
  · refine .inl ⟨i, h, ?_⟩
    simp only [poP, thenM, idM]
    rw [thr_gt (by rw [nums_len]; exact h), nums_gt h]
    exact hi2
  · refine .inr ⟨k, h, ?_⟩
    simp only [poK, thenM, inR]
    rw [thr_gt (by rw [nums_len]; exact h), nums_gtF h, show (s.b.n.length : Int) + k = ((s.b.n.length + k : Nat) : Int) by omega]
    exact hi2
theorem SOk.surE (hs : SOk s) {j : Nat} (hj : j < (poG s).e.length) : (∃ i : Nat, i < s.b.e.length ∧ gt (poP s).e i = j) ∨ ∃ i : Nat, i < s.c.e.length ∧ gt (poK s).e i = j := by
  obtain ⟨i, hi, hi2⟩ := glu_surE hs.uF hs.uH hj
  rw [(un_len _ _).2] at hi
  rcases split_i hi with h | ⟨k, h, rfl⟩
  · refine .inl ⟨i, h, ?_⟩
    simp only [poP, thenM, idM]
    rw [thr_gt (by rw [nums_len]; exact h), nums_gt h]
    exact hi2
  · refine .inr ⟨k, h, ?_⟩
    simp only [poK, thenM, inR]
    rw [thr_gt (by rw [nums_len]; exact h), nums_gtF h, show (s.b.e.length : Int) + k = ((s.b.e.length + k : Nat) : Int) by omega]
    exact hi2
end
end
end Go.Am
namespace Go.Am
open Go
set_option linter.unusedVariables false
set_option linter.unusedSimpArgs false
attribute [local irreducible] W
/- subgraph.sorted -/
def c_subgraph_sorted_r0 (F : String → Nat) : List LI := [⟨some 2, .mov (.k (.nl 1)), none⟩]
def c_subgraph_sorted_r1 (F : String → Nat) : List LI := [⟨some 3, .mov (.t 0), none⟩,
  ⟨some 4, .call (F "slices.Sort.I") [.t 3] [.mu], none⟩]
def c_subgraph_sorted_r2 (F : String → Nat) : List LI := [⟨some 5, .mov (.t 0), none⟩,
  ⟨some 6, .call (F "slices.Compact.I") [.t 5] [.ow], none⟩,
  ⟨some 2, .mov (.t 6), none⟩]
def c_subgraph_sorted (F : String → Nat) : LC := (.seq (.reg (c_subgraph_sorted_r0 F) [0]) (.seq (.reg (c_subgraph_sorted_r1 F) [0]) (.seq (.reg (c_subgraph_sorted_r2 F) [2]) .ret)))
def h_subgraph_sorted : Hints := ⟨[], fun _ => [], tab [(0, [0]), (1, [0]), (2, [2])], tab []⟩

attribute [go_sem] c_subgraph_sorted_r0 c_subgraph_sorted_r1 c_subgraph_sorted_r2 c_subgraph_sorted
section
variable (P : Program) (F : String → Nat)
def K_subgraph_sorted : Prop := ∀ l : List Int, l.length ≤ maxL → FC P (F "subgraph.sorted") [.arr 1 (ints l)] (.arr 1 (ints (imgs l))) []
end
section
variable {P : Program} {F : String → Nat} {α : Type}
theorem w_subgraph_sorted (hs : K_slices_Sort_I P F) (hp : K_slices_Compact_I P F) (l : List Int) (hl : l.length ≤ maxL) : W P (c_subgraph_sorted F) (Done [.t 2] [] (.arr 1 (ints (imgs l))) []) (init [.arr 1 (ints l)]) := by
  refine W_of ?_
  have r1 := hs l hl
  have r2 := hp (srt l) (by rw [srt_len]; exact hl)
  have e1 := srt_len l
  unfold imgs
  generalize cpt (srt l) = m at *
  generalize srt l = q at *
  simp (config := { maxSteps := 1000000 }) (disch := first | omega | (simp only [go_sem]; omega)) only [go_sem, ↓reduceIte]
  refine call_by r1 ?_
  simp (config := { maxSteps := 1000000 }) (disch := first | omega | (simp only [go_sem]; omega)) only [go_sem, ↓reduceIte, e1]
  refine call_by r2 ?_
  simp (config := { maxSteps := 1000000 }) (disch := first | omega | (simp only [go_sem]; omega)) only [go_sem, ↓reduceIte]
theorem PK.sm {g : G} {p : Mo} (h : PK g p) : p.sm := by
  have := h.len
  exact ⟨by unfold maxL; omega, by unfold maxL; omega⟩
end
end Go.Am
namespace Go.Am
open Go
set_option linter.unusedVariables false
set_option linter.unusedSimpArgs false
section
theorem nodup_ix {l : List Int} (h : ∀ i j : Nat, i < l.length → j < l.length → gt l i = gt l j → i = j) : l.Nodup := by
  unfold List.Nodup
  rw [List.pairwise_iff_getElem]
  intro i j hi hj hij e
  have := h i j hi hj (by rw [gt_nat hi, gt_nat hj, e])
  omega
theorem injM_ok {a b : G} {m : Mo} (hm : MOk a b m) : injM a b m = true ↔ m.n.Nodup ∧ m.e.Nodup := by
  unfold injM distinct
  rw [mok.2 hm]
  simp
section
variable {s : Sp}
theorem gen_inj {n nb : Nat} {F H : List Int} (hp : PrIn n (prL F H F.length)) (hF : ∀ i : Nat, i < F.length → gt F i < nb) (hH : ∀ i : Nat, i < F.length → (nb : Int) ≤ gt H i) (hn : ∀ i j : Nat, i < F.length → j < F.length → gt F i = gt F j → i = j)
    {x y : Nat} (hx : nb ≤ x ∧ x < n) (hy : nb ≤ y ∧ y < n) (e : gt (genL n (prL F H F.length)) x = gt (genL n (prL F H F.length)) y) : x = y := by
  let φ : Int → Int := fun v => if v < nb then (match (List.range F.length).find? (fun t : Nat => decide (gt F t = v)) with | some t => gt H t | none => -1 - v) else v
  have key : ∀ i : Nat, i < (prL F H F.length).length → φ (gt (prL F H F.length) i).a = φ (gt (prL F H F.length) i).b := fun i hi => by
    rw [prL_len] at hi
    rw [prL_gt hi]
    have h1 : φ (gt H i) = gt H i := if_neg (by have := hH i hi; omega)
    have h2 : φ (gt F i) = gt H i := by
      show (if gt F i < (nb : Int) then _ else _) = _
      rw [if_pos (hF i hi)]
      cases hf : (List.range F.length).find? (fun t : Nat => decide (gt F t = gt F i)) with
      | none =>
        have := List.find?_eq_none.1 hf i (by simpa using hi)
        simp at this
      | some t =>
        have ht := List.find?_some hf
        have hm := List.mem_of_find?_eq_some hf
        simp at ht hm
        rw [hn t i hm hi ht]
    rw [h1, h2]
  have f1 := gen_fun hp key _ (Nat.le_refl _) x hx.2
  have f2 := gen_fun hp key _ (Nat.le_refl _) y hy.2
  have e' : gt (genI n (prL F H F.length) (prL F H F.length).length) x = gt (genI n (prL F H F.length) (prL F H F.length).length) y := e
  rw [e', f2] at f1
  have g1 : φ (x : Int) = x := if_neg (by omega)
  have g2 : φ (y : Int) = y := if_neg (by omega)
  rw [g1, g2] at f1
  omega
theorem SOk.fN (hs : SOk s) {i : Nat} (hi : i < s.a.n.length) : gt (poF s).n i = gt s.f.n i ∧ gt (poH s).n i = (s.b.n.length : Int) + gt s.g.n i := by
  obtain ⟨k, hk, hk2⟩ := gtI (hs.f.nd i hi).1
  obtain ⟨j, hj, hj2⟩ := gtI (hs.g.nd i hi).1
  simp only [poF, poH, thenM, idM, inR]
  rw [thr_gt (by rw [hs.f.ln]; exact hi), thr_gt (by rw [hs.g.ln]; exact hi), hk2, hj2, nums_gt hk, nums_gtF hj]
  exact ⟨rfl, rfl⟩
theorem SOk.fE (hs : SOk s) {i : Nat} (hi : i < s.a.e.length) : gt (poF s).e i = gt s.f.e i ∧ gt (poH s).e i = (s.b.e.length : Int) + gt s.g.e i := by
  obtain ⟨k, hk, hk2⟩ := gtI (hs.f.ed i hi).1
  obtain ⟨j, hj, hj2⟩ := gtI (hs.g.ed i hi).1
  simp only [poF, poH, thenM, idM, inR]
  rw [thr_gt (by rw [hs.f.le]; exact hi), thr_gt (by rw [hs.g.le]; exact hi), hk2, hj2, nums_gt hk, nums_gtF hj]
  exact ⟨rfl, rfl⟩
theorem SOk.kN (hs : SOk s) {i : Nat} (hi : i < s.c.n.length) : gt (poK s).n i = gt (poQ s).n ((s.b.n.length + i : Nat) : Int) := by
  simp only [poK, thenM, inR]
  rw [thr_gt (by rw [nums_len]; exact hi), nums_gtF hi, show (s.b.n.length : Int) + i = ((s.b.n.length + i : Nat) : Int) by omega]
theorem SOk.kE (hs : SOk s) {i : Nat} (hi : i < s.c.e.length) : gt (poK s).e i = gt (poQ s).e ((s.b.e.length + i : Nat) : Int) := by
  simp only [poK, thenM, inR]
  rw [thr_gt (by rw [nums_len]; exact hi), nums_gtF hi, show (s.b.e.length : Int) + i = ((s.b.e.length + i : Nat) : Int) by omega]
theorem SOk.injN (hs : SOk s) (hn : s.f.n.Nodup) : (poK s).n.Nodup := by
  have hc := glu_cong hs.uF hs.uH
  have hl := un_len s.b s.c
  have lF := hs.uF.ln
  have lf := hs.f.ln
  refine nodup_ix fun i j hi hj e => ?_
  rw [hs.k.ln] at hi hj
  rw [hs.kN hi, hs.kN hj] at e
  have e2 := (hc.iffN (i := s.b.n.length + i) (k := s.b.n.length + j) (by omega) (by omega)).1 e
  have := gen_inj (nb := s.b.n.length) (glu_prN hs.uF hs.uH) (fun t ht => by rw [(hs.fN (by omega)).1]; exact (hs.f.nd t (by omega)).1.2) (fun t ht => by rw [(hs.fN (by omega)).2]; have := (hs.g.nd t (by omega)).1.1; omega)
    (fun t u ht hu e => by rw [(hs.fN (by omega)).1, (hs.fN (by omega)).1] at e; exact gt_inj hn (by omega) (by omega) e) (x := s.b.n.length + i) (y := s.b.n.length + j) (by omega) (by omega) e2
  omega
theorem SOk.injE (hs : SOk s) (hn : s.f.e.Nodup) : (poK s).e.Nodup := by
  have hc := glu_cong hs.uF hs.uH
  have hl := un_len s.b s.c
  have lF := hs.uF.le
  have lf := hs.f.le
  refine nodup_ix fun i j hi hj e => ?_
  rw [hs.k.le] at hi hj
  rw [hs.kE hi, hs.kE hj] at e
  have e2 := (hc.iffE (i := s.b.e.length + i) (k := s.b.e.length + j) (by omega) (by omega)).1 e
  have := gen_inj (nb := s.b.e.length) (glu_prE hs.uF hs.uH) (fun t ht => by rw [(hs.fE (by omega)).1]; exact (hs.f.ed t (by omega)).1.2) (fun t ht => by rw [(hs.fE (by omega)).2]; have := (hs.g.ed t (by omega)).1.1; omega)
    (fun t u ht hu e => by rw [(hs.fE (by omega)).1, (hs.fE (by omega)).1] at e; exact gt_inj hn (by omega) (by omega) e) (x := s.b.e.length + i) (y := s.b.e.length + j) (by omega) (by omega) e2
  omega
theorem SOk.inj (hs : SOk s) (h : injM s.a s.b s.f = true) : injM s.c (poG s) (poK s) = true := by
  obtain ⟨h1, h2⟩ := (injM_ok hs.f).1 h
  exact (injM_ok hs.k).2 ⟨hs.injN h1, hs.injE h2⟩
end
/-- A permutation. -/
structure PermI (q : List Int) (n : Nat) : Prop where
  l : q.length = n
  b : ∀ i : Nat, i < n → 0 ≤ gt q i ∧ gt q i < n
  j : ∀ i k : Nat, i < n → k < n → gt q i = gt q k → i = k
theorem PermI.of {l : List Int} {n : Nat} (h : l.Perm (nums 0 n)) : PermI l n := by
  have hl : l.length = n := by rw [h.length_eq, nums_len]
  have hn : l.Nodup := h.symm.nodup_iff.1 (nums_nodup n)
  exact ⟨hl, fun i hi => nums_mem.1 (h.mem_iff.1 (gt_mem (by omega) (by omega))), fun i k hi hk e => gt_inj hn (by omega) (by omega) e⟩
theorem PermI.nodup {l : List Int} {n : Nat} (h : PermI l n) : l.Nodup := nodup_ix fun i j hi hj e => h.j i j (by rw [← h.l]; exact hi) (by rw [← h.l]; exact hj) e
end
end Go.Am
namespace Go.Am
open Go
set_option linter.unusedVariables false
set_option linter.unusedSimpArgs false
section
variable {α : Type}
theorem idx_none (p : α → Bool) : ∀ (l : List α) (i : Int), 0 ≤ i → idx p l i = -1 → ∀ x ∈ l, p x = false
  | [], _, _, _, x, hx => by simp at hx
  | a :: l, i, h0, h, x, hx => by
    simp only [idx] at h
    split at h
    · omega
    · rename_i ha
      rcases List.mem_cons.1 hx with rfl | hx
      · simpa using ha
      · exact idx_none p l (i + 1) (by omega) h x hx
theorem idx_some [Inhabited α] (p : α → Bool) : ∀ (l : List α) (i : Int), idx p l i ≠ -1 → ∃ k : Nat, idx p l i = i + k ∧ k < l.length ∧ p (gt l k) = true ∧ ∀ x ∈ l.take k, p x = false
  | [], _, h => absurd rfl h
  | a :: l, i, h => by
    simp only [idx] at h ⊢
    split
    · rename_i ha
      exact ⟨0, by simp, by simp, by simpa [gt] using ha, by simp⟩
    · rename_i ha
      rw [if_neg ha] at h
      obtain ⟨k, h1, h2, h3, h4⟩ := idx_some p l (i + 1) h
      refine ⟨k + 1, by rw [h1]; push_cast; omega, by simpa using h2, ?_, ?_⟩
      · rw [gt_nat (by simpa using h2)]
        rw [gt_nat h2] at h3
        simpa using h3
      · rw [List.take_succ_cons]
        intro x hx
        rcases List.mem_cons.1 hx with rfl | hx
        · simpa using ha
        · exact h4 x hx
end
end Go.Am
namespace Go.Am
open Go
set_option linter.unusedVariables false
set_option linter.unusedSimpArgs false
def inL (l : List Int) (i : Nat) : Bool := decide ((i : Int) ∈ l)
/-- The numbers below n that are in both lists, or in one of them. -/
def mrgL (n : Nat) (a b : List Int) (all : Bool) : List Int := sel (fun i : Nat => (inL a i && inL b i) || (!all && (inL a i || inL b i))) n
def comL (a b : List Int) : List Int := a.filter fun x => decide (x ∈ b)
/-- The ends of the edges outside of a part. -/
def outE (g : G) (pe : List Int) : Nat → List Int
  | 0 => []
  | i + 1 => if (i : Int) ∈ pe then outE g pe i else outE g pe i ++ [(gt g.e i).f, (gt g.e i).o]
def bdL (g : G) (p : Mo) : List Int := comL (imgs (outE g p.e g.e.length)) p.n
def bdR (g : G) (p : Mo) : List Int × Int := if validP g p ≠ 0 then ([], validP g p) else (bdL g p, 0)
section
theorem in_sel {n : Nat} {f : Nat → Bool} {x : Int} : x ∈ sel f n ↔ (0 ≤ x ∧ x < n) ∧ f x.toNat = true := by
  rw [sel_mem]
  constructor
  · rintro ⟨k, h1, h2, rfl⟩; exact ⟨by omega, by simpa using h2⟩
  · rintro ⟨h1, h2⟩; exact ⟨x.toNat, by omega, h2, by omega⟩
theorem inL_nat {l : List Int} {x : Int} (h : 0 ≤ x) : inL l x.toNat = true ↔ x ∈ l := by
  simp [inL, Int.toNat_of_nonneg h]
theorem mrg_mem {n : Nat} {a b : List Int} {all : Bool} {x : Int} : x ∈ mrgL n a b all ↔ (0 ≤ x ∧ x < n) ∧ if all = true then x ∈ a ∧ x ∈ b else x ∈ a ∨ x ∈ b := by
  unfold mrgL
  rw [in_sel]
  refine and_congr_right fun h => ?_
  have h1 := inL_nat (l := a) h.1
  have h2 := inL_nat (l := b) h.1
  rw [← h1, ← h2]
  generalize inL a x.toNat = u
  generalize inL b x.toNat = v
  cases all <;> cases u <;> cases v <;> simp
theorem mrg_asc {n : Nat} {a b : List Int} {all : Bool} : (mrgL n a b all).Pairwise (· < ·) := sel_pair _ _
theorem com_mem {a b : List Int} {x : Int} : x ∈ comL a b ↔ x ∈ a ∧ x ∈ b := by simp [comL]
theorem com_asc {a b : List Int} (h : a.Pairwise (· < ·)) : (comL a b).Pairwise (· < ·) := h.filter _
theorem bd_asc (g : G) (p : Mo) : (bdL g p).Pairwise (· < ·) := com_asc (imgs_lt _)
end
end Go.Am
namespace Go.Am
open Go
set_option linter.unusedVariables false
set_option linter.unusedSimpArgs false
attribute [local irreducible] W
/- slices.DeleteFunc.I -/
def c_slices_DeleteFunc_I_r0 (F : String → Nat) : List LI := [⟨some 4, .mov (.k (.nl 1)), none⟩]
def c_slices_DeleteFunc_I_r1 (F : String → Nat) : List LI := [⟨some 8, .mov (.t 0), none⟩,
  ⟨some 9, .mov (.t 1), none⟩,
  ⟨some 10, .call (F "slices.IndexFunc.I") [.t 8, .t 9] [], none⟩,
  ⟨some 5, .mov (.t 10), none⟩]
def c_slices_DeleteFunc_I_r2 (F : String → Nat) : List LI := [⟨some 11, .mov (.t 5), none⟩,
  ⟨some 12, .bin .eql (.t 11) (.k (.int .i64 (-1))), none⟩]
def c_slices_DeleteFunc_I_r3 (F : String → Nat) : List LI := [⟨some 13, .mov (.t 0), none⟩,
  ⟨some 4, .mov (.t 13), none⟩]
def c_slices_DeleteFunc_I_r4 (F : String → Nat) : List LI := [⟨some 14, .mov (.t 5), none⟩,
  ⟨some 15, .bin .add (.t 14) (.k (.int .i64 (1))), none⟩,
  ⟨some 6, .mov (.t 15), none⟩]
def c_slices_DeleteFunc_I_r5 (F : String → Nat) : List LI := [⟨some 16, .mov (.t 6), none⟩,
  ⟨some 17, .mov (.t 0), none⟩,
  ⟨some 18, .len (.t 17), none⟩,
  ⟨some 19, .bin .lss (.t 16) (.t 18), none⟩]
def c_slices_DeleteFunc_I_r6 (F : String → Nat) : List LI := [⟨some 22, .mov (.t 0), none⟩,
  ⟨some 23, .mov (.t 6), none⟩,
  ⟨some 24, .iad 1 (.t 22) (.t 23), none⟩,
  ⟨some 25, .load false 1 (.t 24), none⟩,
  ⟨some 7, .mov (.t 25), none⟩]
def c_slices_DeleteFunc_I_r7 (F : String → Nat) : List LI := [⟨some 26, .mov (.t 1), none⟩,
  ⟨some 27, .mov (.t 7), none⟩,
  ⟨some 28, .callv (.t 26) [.t 27], none⟩,
  ⟨some 29, .not (.t 28), none⟩]
def c_slices_DeleteFunc_I_r8 (F : String → Nat) : List LI := [⟨some 30, .mov (.t 0), none⟩,
  ⟨some 31, .mov (.t 5), none⟩,
  ⟨some 32, .mov (.t 7), none⟩,
  ⟨some 33, .iad 1 (.t 30) (.t 31), none⟩,
  ⟨none, .store 1 (.t 33) (.t 32), none⟩]
def c_slices_DeleteFunc_I_r9 (F : String → Nat) : List LI := [⟨some 34, .mov (.t 5), none⟩,
  ⟨some 35, .bin .add (.t 34) (.k (.int .i64 (1))), none⟩,
  ⟨some 5, .mov (.t 35), none⟩]
def c_slices_DeleteFunc_I_r10 (F : String → Nat) : List LI := [⟨some 20, .mov (.t 6), none⟩,
  ⟨some 21, .bin .add (.t 20) (.k (.int .i64 (1))), none⟩,
  ⟨some 6, .mov (.t 21), none⟩]
def c_slices_DeleteFunc_I_b11 (F : String → Nat) : LC := (.seq (.seq (.reg (c_slices_DeleteFunc_I_r5 F) [0, 1, 5, 6, 19]) (.cond (.t 19) .skip (.exit 0))) (.seq (.block 1 (.seq (.reg (c_slices_DeleteFunc_I_r6 F) [0, 1, 5, 6, 7]) (.seq (.reg (c_slices_DeleteFunc_I_r7 F) [0, 1, 5, 6, 7, 29]) (.cond (.t 29) (.seq (.reg (c_slices_DeleteFunc_I_r8 F) [0, 1, 5, 6]) (.reg (c_slices_DeleteFunc_I_r9 F) [0, 1, 5, 6])) .skip)))) (.reg (c_slices_DeleteFunc_I_r10 F) [0, 1, 5, 6])))
def c_slices_DeleteFunc_I_r12 (F : String → Nat) : List LI := [⟨some 36, .mov (.t 0), none⟩,
  ⟨some 37, .mov (.t 5), none⟩,
  ⟨some 38, .slc 1 (.t 36) (some (.t 37)) none, none⟩,
  ⟨none, .clr 1 (.t 38), none⟩]
def c_slices_DeleteFunc_I_r13 (F : String → Nat) : List LI := [⟨some 39, .mov (.t 0), none⟩,
  ⟨some 40, .mov (.t 5), none⟩,
  ⟨some 41, .slc 1 (.t 39) none (some (.t 40)), none⟩,
  ⟨some 4, .mov (.t 41), none⟩]
def c_slices_DeleteFunc_I (F : String → Nat) : LC := (.seq (.reg (c_slices_DeleteFunc_I_r0 F) [0, 1]) (.seq (.reg (c_slices_DeleteFunc_I_r1 F) [0, 1, 5]) (.seq (.seq (.reg (c_slices_DeleteFunc_I_r2 F) [0, 1, 5, 12]) (.cond (.t 12) (.seq (.reg (c_slices_DeleteFunc_I_r3 F) [4]) .ret) .skip)) (.seq (.seq (.reg (c_slices_DeleteFunc_I_r4 F) [0, 1, 5, 6]) (.block 0 (.loop [0, 1, 5, 6] (c_slices_DeleteFunc_I_b11 F)))) (.seq (.reg (c_slices_DeleteFunc_I_r12 F) [0, 5]) (.seq (.reg (c_slices_DeleteFunc_I_r13 F) [4]) .ret))))))
def h_slices_DeleteFunc_I : Hints := ⟨[], fun _ => [], tab [(0, [0, 1]), (1, [0, 1, 5]), (2, [0, 1, 5, 12]), (3, [4]), (4, [0, 1, 5, 6]), (5, [0, 1, 5, 6, 19]), (6, [0, 1, 5, 6]), (7, [0, 1, 5, 6, 7]), (8, [0, 1, 5, 6, 7, 29]), (9, [0, 1, 5, 6]), (10, [0, 1, 5, 6]), (11, [0, 5]), (12, [4])], tab [(5, [0, 1, 5, 6])]⟩

/- subgraph.common.1 -/
def c_subgraph_common_1_r0 (F : String → Nat) : List LI := [⟨some 3, .mov (.k (.bool false)), none⟩]
def c_subgraph_common_1_r1 (F : String → Nat) : List LI := [⟨some 4, .load false 1 (.t 1), none⟩,
  ⟨some 5, .mov (.t 0), none⟩,
  ⟨some 6, .call (F "subgraph.has") [.t 4, .t 5] [], none⟩,
  ⟨some 7, .not (.t 6), none⟩,
  ⟨some 3, .mov (.t 7), none⟩]
def c_subgraph_common_1 (F : String → Nat) : LC := (.seq (.reg (c_subgraph_common_1_r0 F) [0, 1]) (.seq (.reg (c_subgraph_common_1_r1 F) [3]) .ret))
def h_subgraph_common_1 : Hints := ⟨[], fun _ => [], tab [(0, [0, 1]), (1, [3])], tab []⟩

/- subgraph.common -/
def c_subgraph_common_r0 (F : String → Nat) : List LI := [⟨some 3, .bx (.t 1), none⟩,
  ⟨some 4, .mov (.k (.nl 1)), none⟩]
def c_subgraph_common_r1 (F : String → Nat) : List LI := [⟨some 5, .mov (.t 0), none⟩,
  ⟨some 6, .call (F "slices.Clone.I") [.t 5] [], none⟩,
  ⟨some 7, .mkf (F "subgraph.common.1") [.t 3], none⟩,
  ⟨some 8, .call (F "slices.DeleteFunc.I") [.t 6, .t 7] [.ow, .rd], none⟩,
  ⟨some 4, .mov (.t 8), none⟩]
def c_subgraph_common (F : String → Nat) : LC := (.seq (.reg (c_subgraph_common_r0 F) [0, 3]) (.seq (.reg (c_subgraph_common_r1 F) [4]) .ret))
def h_subgraph_common : Hints := ⟨[], fun _ => [], tab [(0, [0, 3]), (1, [4])], tab []⟩

attribute [go_sem] c_slices_DeleteFunc_I_r0 c_slices_DeleteFunc_I_r1 c_slices_DeleteFunc_I_r2 c_slices_DeleteFunc_I_r3 c_slices_DeleteFunc_I_r4 c_slices_DeleteFunc_I_r5 c_slices_DeleteFunc_I_r6 c_slices_DeleteFunc_I_r7 c_slices_DeleteFunc_I_r8 c_slices_DeleteFunc_I_r9 c_slices_DeleteFunc_I_r10 c_slices_DeleteFunc_I_r12 c_slices_DeleteFunc_I_r13 c_slices_DeleteFunc_I c_subgraph_common_1_r0 c_subgraph_common_1_r1 c_subgraph_common_1 c_subgraph_common_r0 c_subgraph_common_r1 c_subgraph_common
section
variable (P : Program) (F : String → Nat)
def K_slices_DeleteFunc_I : Prop := ∀ (l : List Int), l.length ≤ maxL → ∀ (g : Nat) (cs : List D), cs.all okC2 = true → ∀ p : Int → Bool, (∀ x, x ∈ l → FC P g (.int .i64 x :: cs) (.bool (p x)) []) → FC P (F "slices.DeleteFunc.I") [.arr 1 (ints l), .clo g cs] (.arr 1 (ints (l.filter fun x => !p x))) []
def K_subgraph_common_1 : Prop := ∀ (x : Int) (b : List Int), b.Pairwise (· < ·) → b.length ≤ 1000000 → FC P (F "subgraph.common.1") [.int .i64 x, .ref [.lst 1 (ints b)]] (.bool (!decide (x ∈ b))) []
def K_subgraph_common : Prop := ∀ (a b : List Int), a.length ≤ 1000000 → b.Pairwise (· < ·) → b.length ≤ 1000000 → FC P (F "subgraph.common") [.lst 1 (ints a), .lst 1 (ints b)] (.arr 1 (ints (comL a b))) []
end
section
variable {P : Program} {F : String → Nat} {α : Type}
theorem w_slices_DeleteFunc_I (hi : K_slices_IndexFunc_I P F) (l : List Int) (hl : l.length ≤ maxL) (g : Nat) (cs : List D) (hcs : cs.all okC2 = true) (p : Int → Bool) (hg : ∀ x, x ∈ l → FC P g (.int .i64 x :: cs) (.bool (p x)) []) :
    W P (c_slices_DeleteFunc_I F) (Done [.t 4] [] (.arr 1 (ints (l.filter fun x => !p x))) []) (init [.arr 1 (ints l), .clo g cs]) := by
  refine W_of ?_
  have ri := hi l hl g cs hcs p hg
  have e0 := caps_lend hcs
  have e1 := caps_lend2 hcs
  have e2 := caps_ren hcs
  unfold maxL at hl
  have hn := idx_none p l 0 (by omega)
  have hs := idx_some p l 0
  generalize idx p l 0 = ix at *
  simp (config := { maxSteps := 1000000 }) (disch := first | omega | (simp only [go_sem]; omega)) only [go_sem, ↓reduceIte, e0]
  refine call_by ri ?_
  simp (config := { maxSteps := 1000000 }) (disch := first | omega | (simp only [go_sem]; omega)) only [go_sem, ↓reduceIte]
  refine bran_dec (fun c => ?_) (fun c => ?_)
  · have : (l.filter fun x => !p x) = l := List.filter_eq_self.2 fun x hx => by simp [hn c x hx]
    simp (config := { maxSteps := 1000000 }) (disch := first | omega | (simp only [go_sem]; omega)) only [go_sem, ↓reduceIte]
    rw [this]
  · obtain ⟨k, hk, hk1, hk2, hk3⟩ := hs c
    rw [Int.zero_add] at hk
    subst hk
    simp (config := { maxSteps := 1000000 }) (disch := first | omega | (simp only [go_sem]; omega)) only [go_sem, ↓reduceIte]
    refine W_loop (fun s : Nat × Nat × List Int => ⟨[(0, .sl 0 0 l.length), (1, .clo g cs), (5, .int .i64 s.2.1), (6, .int .i64 s.1)], [(0, .arr 1 (ints s.2.2))], 1⟩)
      (fun s => s.2.1 < s.1 ∧ s.1 ≤ l.length ∧ s.2.2.length = l.length ∧ s.2.2.take s.2.1 = (l.take s.1).filter (fun x => !p x) ∧ s.2.2.drop s.1 = l.drop s.1) (fun s => l.length - s.1) (k + 1, k, l) ?_ ?_ ?_
    · simp (config := { maxSteps := 1000000 }) (disch := first | omega | (simp only [go_sem]; omega)) only [go_sem, ↓reduceIte, e2]
      rfl
    · refine ⟨by simp, by simp only; omega, rfl, ?_, rfl⟩
      rw [take_gt hk1, List.filter_append]
      simp only [List.filter_cons, hk2, List.filter_nil]
      rw [List.filter_eq_self.2 fun x hx => by simp [hk3 x hx]]
      simp
    · rintro ⟨j, i, xs⟩ ⟨h1, h2, h3, h4, h5⟩
      simp only at h1 h2 h3 h4 h5
      simp (config := { maxSteps := 1000000 }) (disch := first | omega | (simp only [go_sem]; omega)) only [go_sem, ↓reduceIte, c_slices_DeleteFunc_I_b11]
      refine bran_dec (fun d => ?_) (fun d => ?_)
      · have hgt : gt xs j = gt l j := by
          have := congrArg (fun l : List Int => l[0]?) h5
          simp only [List.getElem?_drop, Nat.add_zero] at this
          rw [List.getElem?_eq_getElem (by omega), List.getElem?_eq_getElem (by omega)] at this
          rw [gt_nat (by omega), gt_nat (by omega)]
          simpa using this
        have rg := hg _ (gt_mem (l := l) (j := j) (by omega) (by omega))
        have hdr : xs.drop (j + 1) = l.drop (j + 1) := by
          have := congrArg (fun l : List Int => l.drop 1) h5
          simpa [List.drop_drop] using this
        have hta := take_gt (l := l) (i := j) (by omega)
        simp (config := { maxSteps := 1000000 }) (disch := first | omega | (simp only [go_sem]; omega)) only [go_sem, ↓reduceIte, e1, hgt, h3]
        refine call_by rg ?_
        simp (config := { maxSteps := 1000000 }) (disch := first | omega | (simp only [go_sem]; omega)) only [go_sem, ↓reduceIte]
        refine bran_nby (fun e => ?_) (fun e => ?_)
        · simp (config := { maxSteps := 1000000 }) (disch := first | omega | (simp only [go_sem]; omega)) only [go_sem, ↓reduceIte, e2, h3, hgt]
          refine ⟨(j + 1, i + 1, xs.set i (gt l j)), by simp, ⟨by simp only; omega, by simp only; omega, by simp [h3], ?_, ?_⟩, by simp only; omega⟩
          · simp only
            rw [hta, List.filter_append, ← h4]
            simp only [List.filter_cons, e, List.filter_nil]
            rw [List.take_succ_eq_append_getElem (by simp; omega), List.take_set_of_le (Nat.le_refl _)]
            simp
          · simp only
            rw [List.drop_set_of_lt (by omega)]
            exact hdr
        · simp (config := { maxSteps := 1000000 }) (disch := first | omega | (simp only [go_sem]; omega)) only [go_sem, ↓reduceIte, e2, h3, hgt]
          refine ⟨(j + 1, i, xs), by simp, ⟨by simp only; omega, by simp only; omega, h3, ?_, hdr⟩, by simp only; omega⟩
          simp only
          rw [hta, List.filter_append, ← h4]
          simp [List.filter_cons, e]
      · obtain rfl : j = l.length := by omega
        rw [List.take_length] at h4
        have h6 : (xs.take i).length = i := by simp; omega
        simp (config := { maxSteps := 1000000 }) (disch := first | omega | (simp only [go_sem]; omega)) only [go_sem, ↓reduceIte, h3]
        rw [h4]
theorem w_subgraph_common_1 (hh : K_subgraph_has P F) (x : Int) (b : List Int) (hp : b.Pairwise (· < ·)) (hl : b.length ≤ 1000000) : W P (c_subgraph_common_1 F) (Done [.t 3] [] (.bool (!decide (x ∈ b))) []) (init [.int .i64 x, .ref [.lst 1 (ints b)]]) := by
  refine W_of ?_
  have r1 := hh b x hp hl
  simp (config := { maxSteps := 1000000 }) (disch := first | omega | (simp only [go_sem]; omega)) only [go_sem, ↓reduceIte]
  refine call_by r1 ?_
  simp (config := { maxSteps := 1000000 }) (disch := first | omega | (simp only [go_sem]; omega)) only [go_sem, ↓reduceIte]
theorem w_subgraph_common (hd : K_slices_DeleteFunc_I P F) (hc : K_slices_Clone_I P F) (h1 : K_subgraph_common_1 P F) (a b : List Int) (la : a.length ≤ 1000000) (hp : b.Pairwise (· < ·)) (hb : b.length ≤ 1000000) : W P (c_subgraph_common F) (Done [.t 4] [] (.arr 1 (ints (comL a b))) []) (init [.lst 1 (ints a), .lst 1 (ints b)]) := by
  refine W_of ?_
  have r1 := hc a (by omega)
  have r2 := hd a (by unfold maxL; omega) (F "subgraph.common.1") [.ref [.lst 1 (ints b)]] rfl (fun x => !decide (x ∈ b)) (fun x _ => h1 x b hp hb)
  have e : (a.filter fun x => !!decide (x ∈ b)) = comL a b := by simp [comL]
  rw [e] at r2
  generalize comL a b = y at *
  simp (config := { maxSteps := 1000000 }) (disch := first | omega | (simp only [go_sem]; omega)) only [go_sem, ↓reduceIte]
  refine call_by r1 ?_
  simp (config := { maxSteps := 1000000 }) (disch := first | omega | (simp only [go_sem]; omega)) only [go_sem, ↓reduceIte]
  refine call_by r2 ?_
  simp (config := { maxSteps := 1000000 }) (disch := first | omega | (simp only [go_sem]; omega)) only [go_sem, ↓reduceIte]
theorem MOk.nb {a b : G} {m : Mo} (k : MOk a b m) : ∀ x ∈ m.n, 0 ≤ x ∧ x < b.n.length := fun x hx => by
  obtain ⟨i, hi, rfl⟩ := mem_gt hx
  exact (k.nd i (by have := k.ln; omega)).1
theorem MOk.eb {a b : G} {m : Mo} (k : MOk a b m) : ∀ x ∈ m.e, 0 ≤ x ∧ x < b.e.length := fun x hx => by
  obtain ⟨i, hi, rfl⟩ := mem_gt hx
  exact (k.ed i (by have := k.le; omega)).1
end
end Go.Am
