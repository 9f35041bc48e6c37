/- Partitions: what pairs generate, and the classes. -/
/- Quotients of graphs, and what is glued: plain facts. -/
import Derived.Test.YtoeomfoohdheoaaSnPa
import Derived.Test.YtoeomfoohdheoaaSmF
namespace Go.Am
open Go
set_option linter.unusedVariables false
set_option linter.unusedSimpArgs false
/-- The partition after some pairs. -/
def genI (n : Nat) (l : List Pr) : Nat → List Int
  | 0 => nums 0 n
  | i + 1 => mergeL (genI n l i) (gt l i).a (gt l i).b
def genL (n : Nat) (l : List Pr) : List Int := genI n l l.length
def PrIn (n : Nat) (l : List Pr) : Prop := ∀ i : Nat, i < l.length → (0 ≤ (gt l i).a ∧ (gt l i).a < n) ∧ (0 ≤ (gt l i).b ∧ (gt l i).b < n)
/-- Elements that point to lesser ones, and where that ends. -/
structure Fo (p r : List Int) : Prop where
  l : p.length = r.length
  b : ∀ i : Nat, i < p.length → 0 ≤ gt p i ∧ gt p i ≤ i
  s : ∀ i : Nat, i < p.length → gt r (gt p i) = gt r i
  t : ∀ i : Nat, i < p.length → gt p i = i → gt r i = i
  c : ∀ i : Nat, i < p.length → (0 ≤ gt r i ∧ gt r i ≤ i) ∧ gt p (gt r i) = gt r i
/-- A list of least elements. -/
def Idem (p : List Int) : Prop := ∀ i : Nat, i < p.length → (0 ≤ gt p i ∧ gt p i ≤ i) ∧ gt p (gt p i) = gt p i
/-- The elements that are least. -/
def qN {α : Type} [Inhabited α] (l : List α) (p : List Int) : Nat → List α
  | 0 => []
  | i + 1 => if gt p i = i then qN l p i ++ [gt l i] else qN l p i
/-- Elements put where a list says. -/
def setL {α : Type} [Inhabited α] (l : List α) (q : List Int) (z : List α) : Nat → List α
  | 0 => z
  | i + 1 => (setL l q z i).set (gt q i).toNat (gt l i)
section
theorem natI {x : Int} (h : 0 ≤ x) : ∃ k : Nat, x = (k : Int) := ⟨x.toNat, by omega⟩
theorem mergeL_gt {p : List Int} {a b : Int} {i : Nat} (hi : i < p.length) : gt (mergeL p a b) i = if gt p i = max (gt p a) (gt p b) then min (gt p a) (gt p b) else gt p i := by
  unfold mergeL
  rw [gt_nat (by simpa using hi), gt_nat hi]
  simp
theorem Fo.idem {p r : List Int} (h : Fo p r) : Idem r := fun i hi => by
  obtain ⟨h1, h3⟩ := h.c i (by have := h.l; omega)
  refine ⟨h1, ?_⟩
  obtain ⟨k, hk⟩ := natI h1.1
  rw [hk] at h1 h3 ⊢
  exact h.t k (by have := h.l; omega) h3
theorem nums_Fo (n : Nat) : Fo (nums 0 n) (nums 0 n) := by
  refine ⟨rfl, fun i hi => ?_, fun i hi => ?_, fun i hi _ => ?_, fun i hi => ?_⟩ <;> rw [nums_len] at hi
  · rw [nums_gt hi]; omega
  · rw [nums_gt hi]; exact nums_gt hi
  · exact nums_gt hi
  · rw [nums_gt hi]; exact ⟨by omega, nums_gt hi⟩
theorem Fo.unite {p r : List Int} (h : Fo p r) {a b : Nat} (ha : a < p.length) (hb : b < p.length) :
    Fo (p.set (max (gt r a) (gt r b)).toNat (min (gt r a) (gt r b))) (mergeL r a b) := by
  have hl := h.l
  obtain ⟨⟨a1, a2⟩, a3⟩ := h.c a ha
  obtain ⟨⟨b1, b2⟩, b3⟩ := h.c b hb
  have ia := (h.idem a (by omega)).2
  have ib := (h.idem b (by omega)).2
  have hg : ∀ i : Nat, i < p.length → gt (mergeL r a b) i = if gt r i = max (gt r a) (gt r b) then min (gt r a) (gt r b) else gt r i := fun i hi => mergeL_gt (by omega)
  have hm : (mergeL r a b).length = p.length := by rw [merge_len, hl]
  have l1 : gt r (min (gt r a) (gt r b)) = min (gt r a) (gt r b) ∧ gt p (min (gt r a) (gt r b)) = min (gt r a) (gt r b) := by
    by_cases c : gt r a ≤ gt r b
    · rw [Int.min_eq_left c]; exact ⟨ia, a3⟩
    · rw [Int.min_eq_right (by omega)]; exact ⟨ib, b3⟩
  have h1 : gt r (max (gt r a) (gt r b)) = max (gt r a) (gt r b) ∧ gt p (max (gt r a) (gt r b)) = max (gt r a) (gt r b) := by
    by_cases c : gt r a ≤ gt r b
    · rw [Int.max_eq_right c]; exact ⟨ib, b3⟩
    · rw [Int.max_eq_left (by omega)]; exact ⟨ia, a3⟩
  obtain ⟨lo, hlo⟩ := natI (x := min (gt r a) (gt r b)) (by omega)
  obtain ⟨hi, hhi⟩ := natI (x := max (gt r a) (gt r b)) (by omega)
  have hle : lo ≤ hi := by omega
  have hlt : hi < p.length := by omega
  rw [hlo] at l1
  rw [hhi] at h1
  rw [hlo, hhi, Int.toNat_natCast]
  simp only [hlo, hhi] at hg
  generalize mergeL r a b = r' at *
  have hp : ∀ i : Nat, i < p.length → gt (p.set hi (lo : Int)) i = if hi = i then (lo : Int) else gt p i := fun i hi' => gt_setH hi'
  refine ⟨by simp [hm], fun i hi' => ?_, fun i hi' => ?_, fun i hi' => ?_, fun i hi' => ?_⟩ <;> rw [List.length_set] at hi'
  · rw [hp i hi']
    split
    · omega
    · exact h.b i hi'
  · rw [hp i hi']
    split
    · rename_i e; subst e
      rw [hg lo (by omega), hg hi hlt, l1.1, h1.1, if_pos rfl]
      split <;> rfl
    · have hb' := h.b i hi'
      have hs := h.s i hi'
      obtain ⟨k, hk⟩ := natI hb'.1
      rw [hk] at hs hb' ⊢
      rw [hg k (by omega), hg i hi', hs]
  · rw [hp i hi', hg i hi']
    split
    · rename_i e; subst e
      intro e
      rw [h1.1, if_pos rfl]; exact e
    · rename_i e
      intro e2
      rw [h.t i hi' e2, if_neg (by omega)]
  · obtain ⟨⟨c1, c2⟩, c3⟩ := h.c i hi'
    rw [hg i hi']
    split
    · refine ⟨by omega, ?_⟩
      rw [hp lo (by omega), l1.2]
      split <;> rfl
    · rename_i e
      refine ⟨⟨c1, c2⟩, ?_⟩
      obtain ⟨k, hk⟩ := natI c1
      rw [hk] at c2 c3 e ⊢
      rw [hp k (by omega), if_neg (by omega)]
      exact c3
theorem Fo.flat {p r : List Int} (h : Fo p r) {i : Nat} (hi : i < p.length) : Fo (p.set i (gt r i)) r := by
  obtain ⟨⟨c1, c2⟩, c3⟩ := h.c i hi
  have hid := (h.idem i (by have := h.l; omega)).2
  have hp : ∀ k : Nat, k < p.length → gt (p.set i (gt r i)) k = if i = k then gt r i else gt p k := fun k hk => gt_setH hk
  refine ⟨by simp [h.l], fun k hk => ?_, fun k hk => ?_, fun k hk => ?_, fun k hk => ?_⟩ <;> rw [List.length_set] at hk
  · rw [hp k hk]
    split
    · omega
    · exact h.b k hk
  · rw [hp k hk]
    split
    · rename_i e; subst e; exact hid
    · exact h.s k hk
  · rw [hp k hk]
    split
    · rename_i e; subst e; exact id
    · exact h.t k hk
  · obtain ⟨⟨d1, d2⟩, d3⟩ := h.c k hk
    refine ⟨⟨d1, d2⟩, ?_⟩
    have he := (h.idem k (by have := h.l; omega)).2
    obtain ⟨m, hm⟩ := natI d1
    rw [hm] at d2 d3 he ⊢
    rw [hp m (by omega)]
    split
    · rename_i e; subst e; exact he
    · exact d3
theorem gen_Fo {n : Nat} {l : List Pr} (hl : PrIn n l) : ∀ i : Nat, i ≤ l.length → ∃ p, Fo p (genI n l i) ∧ p.length = n
  | 0, _ => ⟨_, nums_Fo n, nums_len 0 n⟩
  | i + 1, hi => by
    obtain ⟨p, h1, h2⟩ := gen_Fo hl i (by omega)
    obtain ⟨⟨a1, a2⟩, b1, b2⟩ := hl i (by omega)
    obtain ⟨a, ha⟩ := natI a1
    obtain ⟨b, hb⟩ := natI b1
    rw [genI, ha, hb]
    exact ⟨_, h1.unite (a := a) (b := b) (by omega) (by omega), by rw [List.length_set, h2]⟩
theorem gen_len {n : Nat} {l : List Pr} : ∀ i : Nat, (genI n l i).length = n
  | 0 => nums_len 0 n
  | i + 1 => by rw [genI, merge_len, gen_len i]
theorem gen_idem {n : Nat} {l : List Pr} (hl : PrIn n l) {i : Nat} (hi : i ≤ l.length) : Idem (genI n l i) :=
  let ⟨_, h, _⟩ := gen_Fo hl i hi; h.idem
theorem merge_same {p : List Int} {a b : Int} {x y : Nat} (hx : x < p.length) (hy : y < p.length) (h : gt p x = gt p y) : gt (mergeL p a b) x = gt (mergeL p a b) y := by
  rw [mergeL_gt hx, mergeL_gt hy, h]
theorem merge_ab {p : List Int} {a b : Nat} (ha : a < p.length) (hb : b < p.length) : gt (mergeL p a b) a = gt (mergeL p a b) b := by
  rw [mergeL_gt ha, mergeL_gt hb]
  by_cases c : gt p a ≤ gt p b
  · rw [Int.max_eq_right c, Int.min_eq_left c, if_pos rfl]
    split <;> rfl
  · rw [Int.max_eq_left (by omega), Int.min_eq_right (by omega), if_pos rfl]
    split <;> rfl
theorem gen_pair {n : Nat} {l : List Pr} (hl : PrIn n l) : ∀ i : Nat, i ≤ l.length → ∀ k : Nat, k < i → gt (genI n l i) (gt l k).a = gt (genI n l i) (gt l k).b
  | 0, _, k, hk => by omega
  | i + 1, hi, k, hk => by
    have gl := gen_len (n := n) (l := l) i
    obtain ⟨⟨a1, a2⟩, b1, b2⟩ := hl k (by omega)
    rw [genI]
    by_cases c : k = i
    · subst c
      obtain ⟨a, ha⟩ := natI a1
      obtain ⟨b, hb⟩ := natI b1
      rw [ha, hb]
      exact merge_ab (by omega) (by omega)
    · have ih := gen_pair hl i (by omega) k (by omega)
      obtain ⟨a, ha⟩ := natI a1
      obtain ⟨b, hb⟩ := natI b1
      rw [ha, hb] at ih ⊢
      exact merge_same (by omega) (by omega) ih
theorem gen_fun {β : Type} {φ : Int → β} {n : Nat} {l : List Pr} (hl : PrIn n l) (hf : ∀ i : Nat, i < l.length → φ (gt l i).a = φ (gt l i).b) : ∀ i : Nat, i ≤ l.length → ∀ k : Nat, k < n → φ (gt (genI n l i) k) = φ k
  | 0, _, k, hk => by rw [genI, nums_gt hk]
  | i + 1, hi, k, hk => by
    have gl := gen_len (n := n) (l := l) i
    obtain ⟨⟨a1, a2⟩, b1, b2⟩ := hl i (by omega)
    have ih := gen_fun hl hf i (by omega)
    have he := hf i (by omega)
    obtain ⟨a, ha⟩ := natI a1
    obtain ⟨b, hb⟩ := natI b1
    rw [genI, ha, hb, mergeL_gt (by omega)]
    rw [ha, hb] at he
    have ea := ih a (by omega)
    have eb := ih b (by omega)
    have ek := ih k hk
    by_cases c : gt (genI n l i) a ≤ gt (genI n l i) b
    · rw [Int.max_eq_right c, Int.min_eq_left c]
      split
      · rename_i e
        rw [ea, he, ← eb, ← e, ek]
      · exact ek
    · rw [Int.max_eq_left (by omega), Int.min_eq_right (by omega)]
      split
      · rename_i e
        rw [eb, ← he, ← ea, ← e, ek]
      · exact ek
/-- The classes' numbers. -/
structure QS (p : List Int) (n : Nat) (s : List Int × Nat) : Prop where
  l : s.1.length = n
  c : s.2 ≤ n
  b : ∀ i : Nat, i < n → 0 ≤ gt s.1 i ∧ gt s.1 i < s.2
  r : ∀ i : Nat, i < n → gt s.1 (gt p i) = gt s.1 i
  j : ∀ i k : Nat, i < n → k < n → gt p i = i → gt p k = k → gt s.1 i = gt s.1 k → i = k
  s : ∀ k : Nat, k < s.2 → ∃ i : Nat, i < n ∧ gt p i = i ∧ gt s.1 i = k
theorem quo_QS {p : List Int} (hp : Idem p) : ∀ n : Nat, n ≤ p.length → QS p n (quo p n)
  | 0, _ => ⟨rfl, Nat.le_refl _, fun i hi => by omega, fun i hi => by omega, fun i k hi => by omega, fun k hk => by simp [quo] at hk⟩
  | n + 1, hn => by
    obtain ⟨h1, h2, h3, h4, h5, h6⟩ := quo_QS hp n (by omega)
    obtain ⟨⟨p1, p2⟩, p3⟩ := hp n (by omega)
    rw [quo]
    generalize quo p n = s at *
    obtain ⟨q, c⟩ := s
    simp only at h1 h2 h3 h4 h5 h6 ⊢
    split
    · rename_i e
      have hq : ∀ i : Nat, i < n → gt (q ++ [(c : Int)]) i = gt q i := fun i hi => gt_appS (by omega)
      have hn : gt (q ++ [(c : Int)]) n = c := gt_lastS h1.symm
      refine ⟨by simp [h1], by simp only; omega, fun i hi => ?_, fun i hi => ?_, fun i k hi hk ei ek he => ?_, fun k hk => ?_⟩ <;> simp only at *
      · by_cases x : i = n
        · subst x; rw [hn]; omega
        · rw [hq i (by omega)]; have := h3 i (by omega); omega
      · by_cases x : i = n
        · subst x; rw [e]
        · obtain ⟨⟨a1, a2⟩, a3⟩ := hp i (by omega)
          have ih := h4 i (by omega)
          obtain ⟨m, hm⟩ := natI a1
          rw [hm] at a2 ih ⊢
          rw [hq m (by omega), hq i (by omega), ih]
      · by_cases x : i = n
        · by_cases y : k = n
          · omega
          · subst x; rw [hn, hq k (by omega)] at he
            have := h3 k (by omega); omega
        · by_cases y : k = n
          · subst y; rw [hn, hq i (by omega)] at he
            have := h3 i (by omega); omega
          · rw [hq i (by omega), hq k (by omega)] at he
            exact h5 i k (by omega) (by omega) ei ek he
      · by_cases x : k = c
        · subst x; exact ⟨n, by omega, e, hn⟩
        · obtain ⟨i, i1, i2, i3⟩ := h6 k (by omega)
          exact ⟨i, by omega, i2, by rw [hq i i1, i3]⟩
    · rename_i e
      obtain ⟨m, hm⟩ := natI p1
      rw [hm] at p2 p3 e ⊢
      have hq : ∀ i : Nat, i < n → gt (q ++ [gt q m]) i = gt q i := fun i hi => gt_appS (by omega)
      have hn : gt (q ++ [gt q m]) n = gt q m := gt_lastS h1.symm
      refine ⟨by simp [h1], by simp only; omega, fun i hi => ?_, fun i hi => ?_, fun i k hi hk ei ek he => ?_, fun k hk => ?_⟩ <;> simp only at *
      · by_cases x : i = n
        · subst x; rw [hn]; exact h3 m (by omega)
        · rw [hq i (by omega)]; exact h3 i (by omega)
      · by_cases x : i = n
        · subst x; rw [hm, hn, hq m (by omega)]
        · obtain ⟨⟨a1, a2⟩, a3⟩ := hp i (by omega)
          have ih := h4 i (by omega)
          obtain ⟨m', hm'⟩ := natI a1
          rw [hm'] at a2 ih ⊢
          rw [hq m' (by omega), hq i (by omega), ih]
      · have x : i ≠ n := fun x => by subst x; omega
        have y : k ≠ n := fun x => by subst x; omega
        rw [hq i (by omega), hq k (by omega)] at he
        exact h5 i k (by omega) (by omega) ei ek he
      · obtain ⟨i, i1, i2, i3⟩ := h6 k hk
        exact ⟨i, by omega, i2, by rw [hq i i1, i3]⟩
theorem QS.iff {p : List Int} {n : Nat} {s : List Int × Nat} (hp : Idem p) (hn : n ≤ p.length) (h : QS p n s) {i k : Nat} (hi : i < n) (hk : k < n) : gt s.1 i = gt s.1 k ↔ gt p i = gt p k := by
  obtain ⟨⟨a1, a2⟩, a3⟩ := hp i (by omega)
  obtain ⟨⟨b1, b2⟩, b3⟩ := hp k (by omega)
  have hi' := h.r i hi
  have hk' := h.r k hk
  obtain ⟨x, hx⟩ := natI a1
  obtain ⟨y, hy⟩ := natI b1
  rw [hx] at a2 a3 hi' ⊢
  rw [hy] at b2 b3 hk' ⊢
  constructor
  · intro e
    have := h.j x y (by omega) (by omega) a3 b3 (by rw [hi', hk', e])
    rw [this]
  · intro e
    rw [← hi', ← hk', e]
theorem qN_len {α : Type} [Inhabited α] (l : List α) (p : List Int) : ∀ n : Nat, (qN l p n).length = (quo p n).2
  | 0 => rfl
  | n + 1 => by
    rw [qN, quo]
    split
    · rw [List.length_append, qN_len l p n]; rfl
    · exact qN_len l p n
theorem qN_gt {α : Type} [Inhabited α] (l : List α) {p : List Int} (hp : Idem p) : ∀ n : Nat, n ≤ p.length → ∀ i : Nat, i < n → gt p i = i → gt (qN l p n) (gt (quo p n).1 i) = gt l i
  | 0, _, i, hi, _ => by omega
  | n + 1, hn, i, hi, e => by
    have hs := quo_QS hp n (by omega)
    have hl := qN_len l p n
    rw [qN, quo]
    by_cases c : gt p n = n
    · rw [if_pos c, if_pos c]
      simp only
      by_cases x : i = n
      · subst x
        rw [gt_lastS hs.l.symm, ← hl, gt_lastS rfl]
      · rw [gt_appS (by have := hs.l; omega)]
        obtain ⟨b1, b2⟩ := hs.b i (by omega)
        have ih := qN_gt l hp n (by omega) i (by omega) e
        obtain ⟨m, hm⟩ := natI b1
        rw [hm] at b2 ih ⊢
        rw [gt_appS (by omega), ih]
    · rw [if_neg c, if_neg c]
      simp only
      have x : i ≠ n := fun x => by subst x; exact c e
      rw [gt_appS (by have := hs.l; omega)]
      exact qN_gt l hp n (by omega) i (by omega) e
theorem qN_all {α : Type} [Inhabited α] {l : List α} {p : List Int} (hp : Idem p) {n : Nat} (hn : n ≤ p.length) (hl : ∀ i : Nat, i < n → gt l (gt p i) = gt l i) {i : Nat} (hi : i < n) : gt (qN l p n) (gt (quo p n).1 i) = gt l i := by
  have hs := quo_QS hp n hn
  obtain ⟨⟨a1, a2⟩, a3⟩ := hp i (by omega)
  have h1 := hs.r i hi
  have h2 := hl i hi
  obtain ⟨k, hk⟩ := natI a1
  rw [hk] at a2 a3 h1 h2
  rw [← h1, qN_gt l hp n hn k (by omega) a3, h2]
theorem qN_mem {α : Type} [Inhabited α] {l : List α} {p : List Int} : ∀ {n : Nat}, n ≤ l.length → ∀ x ∈ qN l p n, x ∈ l
  | 0, _, x, hx => by simp [qN] at hx
  | n + 1, hn, x, hx => by
    rw [qN] at hx
    split at hx
    · rcases List.mem_append.1 hx with hx | hx
      · exact qN_mem (by omega) x hx
      · rw [List.mem_singleton] at hx
        rw [hx]; exact gt_mem (by omega) (by omega)
    · exact qN_mem (by omega) x hx
theorem setL_len {α : Type} [Inhabited α] (l : List α) (q : List Int) (z : List α) : ∀ i : Nat, (setL l q z i).length = z.length
  | 0 => rfl
  | i + 1 => by rw [setL, List.length_set, setL_len l q z i]
theorem gt_setS {α : Type} [Inhabited α] {l : List α} {k i : Nat} {v : α} (hi : i < l.length) : gt (l.set k v) i = if k = i then v else gt l i := by
  rw [gt_nat (by simpa using hi), gt_nat hi, List.getElem_set]
theorem setL_gt {α : Type} [Inhabited α] {l : List α} {q : List Int} {z w : List α} : ∀ {n : Nat}, (∀ i : Nat, i < n → 0 ≤ gt q i ∧ gt w (gt q i) = gt l i) → ∀ k : Nat, k < z.length →
    gt (setL l q z n) k = gt w k ∨ (gt (setL l q z n) k = gt z k ∧ ∀ i : Nat, i < n → gt q i ≠ k)
  | 0, _, k, hk => .inr ⟨rfl, fun i hi => by omega⟩
  | n + 1, h, k, hk => by
    have ih := setL_gt (z := z) (n := n) (fun i hi => h i (by omega)) k hk
    obtain ⟨h1, h2⟩ := h n (by omega)
    rw [setL, gt_setS (by rw [setL_len]; exact hk)]
    by_cases c : (gt q n).toNat = k
    · rw [if_pos c]
      refine .inl ?_
      rw [← h2, show gt q n = (k : Int) by omega]
    · rw [if_neg c]
      refine ih.imp id fun ⟨i1, i2⟩ => ⟨i1, fun i hi => ?_⟩
      by_cases x : i = n
      · subst x; omega
      · exact i2 i (by omega)
end
end Go.Am
namespace Go.Am
open Go
set_option linter.unusedVariables false
set_option linter.unusedSimpArgs false
def reE (q : List Int) (es : List E) : List E := es.map fun x => ⟨x.t, gt q x.f, gt q x.o⟩
def quoG (g : G) (p r : List Int) : G := ⟨qN g.n p p.length, qN (reE (quo p p.length).1 g.e) r r.length⟩
def quoM (p r : List Int) : Mo := ⟨(quo p p.length).1, (quo r r.length).1⟩
/-- Partitions by which a graph can be divided. -/
structure Cong (g : G) (p r : List Int) : Prop where
  pl : p.length = g.n.length
  rl : r.length = g.e.length
  ph : Idem p
  rh : Idem r
  pt : ∀ i : Nat, i < p.length → gt g.n (gt p i) = gt g.n i
  rt : ∀ i : Nat, i < r.length → gt (reE (quo p p.length).1 g.e) (gt r i) = gt (reE (quo p p.length).1 g.e) i
def prL (f h : List Int) (n : Nat) : List Pr := (List.range n).map fun i : Nat => ⟨gt f i, gt h i⟩
def gluN (g : G) (f h : Mo) : List Int := genL g.n.length (prL f.n h.n f.n.length)
def gluE (g : G) (f h : Mo) : List Int := genL g.e.length (prL f.e h.e f.e.length)
def gluG (g : G) (f h : Mo) : G := quoG g (gluN g f h) (gluE g f h)
def gluM (g : G) (f h : Mo) : Mo := quoM (gluN g f h) (gluE g f h)
section
theorem reE_len (q : List Int) (es : List E) : (reE q es).length = es.length := by simp [reE]
theorem reE_gt {q : List Int} {es : List E} {i : Nat} (h : i < es.length) : gt (reE q es) i = ⟨(gt es i).t, gt q (gt es i).f, gt q (gt es i).o⟩ := by
  unfold reE
  rw [gt_map h]
theorem prL_len (f h : List Int) (n : Nat) : (prL f h n).length = n := by simp [prL]
theorem prL_succ (f h : List Int) (n : Nat) : prL f h (n + 1) = prL f h n ++ [⟨gt f n, gt h n⟩] := by simp [prL, List.range_succ]
theorem prL_gt {f h : List Int} {n i : Nat} (hi : i < n) : gt (prL f h n) i = ⟨gt f i, gt h i⟩ := by
  unfold prL
  rw [gt_nat (by simp; exact hi)]
  simp
theorem quo_len {p : List Int} (hp : Idem p) : (quo p p.length).1.length = p.length := (quo_QS hp _ (Nat.le_refl _)).l
theorem Cong.node {g : G} {p r : List Int} (h : Cong g p r) {i : Nat} (hi : i < g.n.length) : (0 ≤ gt (quoM p r).n i ∧ gt (quoM p r).n i < (quoG g p r).n.length) ∧ gt (quoG g p r).n (gt (quoM p r).n i) = gt g.n i := by
  have hs := quo_QS h.ph _ (Nat.le_refl _)
  have hpl := h.pl
  refine ⟨?_, ?_⟩
  · simp only [quoM, quoG, qN_len]
    exact hs.b i (by omega)
  · exact qN_all h.ph (Nat.le_refl _) h.pt (by omega)
theorem Cong.edge {g : G} {p r : List Int} (h : Cong g p r) {i : Nat} (hi : i < g.e.length) : (0 ≤ gt (quoM p r).e i ∧ gt (quoM p r).e i < (quoG g p r).e.length) ∧ gt (quoG g p r).e (gt (quoM p r).e i) = ⟨(gt g.e i).t, gt (quoM p r).n (gt g.e i).f, gt (quoM p r).n (gt g.e i).o⟩ := by
  have hs := quo_QS h.rh _ (Nat.le_refl _)
  have hrl := h.rl
  refine ⟨?_, ?_⟩
  · simp only [quoM, quoG, qN_len]
    exact hs.b i (by omega)
  · have := qN_all h.rh (Nat.le_refl _) h.rt (show i < r.length by omega)
    simp only [quoM, quoG]
    rw [this, reE_gt hi]
theorem Cong.surN {g : G} {p r : List Int} (h : Cong g p r) {k : Nat} (hk : k < (quoG g p r).n.length) : ∃ i : Nat, i < g.n.length ∧ gt p i = i ∧ gt (quoM p r).n i = k := by
  have hs := quo_QS h.ph _ (Nat.le_refl _)
  simp only [quoG, qN_len] at hk
  obtain ⟨i, h1, h2, h3⟩ := hs.s k hk
  exact ⟨i, by rw [← h.pl]; exact h1, h2, h3⟩
theorem Cong.surE {g : G} {p r : List Int} (h : Cong g p r) {k : Nat} (hk : k < (quoG g p r).e.length) : ∃ i : Nat, i < g.e.length ∧ gt r i = i ∧ gt (quoM p r).e i = k := by
  have hs := quo_QS h.rh _ (Nat.le_refl _)
  simp only [quoG, qN_len] at hk
  obtain ⟨i, h1, h2, h3⟩ := hs.s k hk
  exact ⟨i, by rw [← h.rl]; exact h1, h2, h3⟩
theorem Cong.ok {g : G} {p r : List Int} (hv : validG g = 0) (h : Cong g p r) : MOk g (quoG g p r) (quoM p r) := by
  have vs := valid_spec hv
  have h1 := quo_QS h.ph _ (Nat.le_refl _)
  have h2 := quo_QS h.rh _ (Nat.le_refl _)
  have hpl := h.pl
  have hrl := h.rl
  refine ⟨hv, valid_mk ?_ ?_ (fun y hy => ?_) (fun y hy => ?_), ?_, ?_, fun i hi => h.node hi, fun i hi => ?_⟩
  · simp only [quoG, qN_len]; have := h1.c; omega
  · simp only [quoG, qN_len]; have := h2.c; omega
  · exact vs.2.2.1 y (qN_mem (by omega) y hy)
  · obtain ⟨k, hk, hk2⟩ := mem_gt hy
    obtain ⟨i, hi, _, hi2⟩ := h.surE hk
    have he := (h.edge hi).2
    rw [hi2, hk2] at he
    rw [he]
    obtain ⟨t1, t2, t3⟩ := edge_fits hv (i := i) (by omega)
    obtain ⟨a, ha, ha2⟩ := gtI t2
    obtain ⟨b, hb, hb2⟩ := gtI t3
    rw [ha2, hb2]
    exact fits_mk t1 (h.node ha).1 (h.node hb).1
  · simp only [quoM]; rw [h1.l, hpl]
  · simp only [quoM]; rw [h2.l, hrl]
  · obtain ⟨e1, e2⟩ := h.edge hi
    refine ⟨e1, ?_⟩
    rw [e2]
    exact ⟨rfl, rfl, rfl⟩
theorem Cong.iffN {g : G} {p r : List Int} (h : Cong g p r) {i k : Nat} (hi : i < g.n.length) (hk : k < g.n.length) : gt (quoM p r).n i = gt (quoM p r).n k ↔ gt p i = gt p k :=
  (quo_QS h.ph _ (Nat.le_refl _)).iff h.ph (Nat.le_refl _) (by rw [h.pl]; exact hi) (by rw [h.pl]; exact hk)
theorem Cong.iffE {g : G} {p r : List Int} (h : Cong g p r) {i k : Nat} (hi : i < g.e.length) (hk : k < g.e.length) : gt (quoM p r).e i = gt (quoM p r).e k ↔ gt r i = gt r k :=
  (quo_QS h.rh _ (Nat.le_refl _)).iff h.rh (Nat.le_refl _) (by rw [h.rl]; exact hi) (by rw [h.rl]; exact hk)
/-- A morphism that puts together at least what a quotient does leads over it. -/
theorem Cong.univ {g x : G} {p r : List Int} {k : Mo} (h : Cong g p r) (hk : MOk g x k) (h1 : ∀ i : Nat, i < g.n.length → gt k.n (gt p i) = gt k.n i) (h2 : ∀ i : Nat, i < g.e.length → gt k.e (gt r i) = gt k.e i) :
    ∃ u, MOk (quoG g p r) x u ∧ thenM (quoM p r) u = k := by
  have hq := h.ok hk.va
  have hpl := h.pl
  have hrl := h.rl
  have ln := hk.ln
  have le := hk.le
  have un : ∀ i : Nat, i < g.n.length → gt (qN k.n p p.length) (gt (quoM p r).n i) = gt k.n i := fun i hi => qN_all h.ph (Nat.le_refl _) (fun i hi => h1 i (by omega)) (by omega)
  have ue : ∀ i : Nat, i < g.e.length → gt (qN k.e r r.length) (gt (quoM p r).e i) = gt k.e i := fun i hi => qN_all h.rh (Nat.le_refl _) (fun i hi => h2 i (by omega)) (by omega)
  refine ⟨⟨qN k.n p p.length, qN k.e r r.length⟩, ⟨hq.vb, hk.vb, by simp only [quoG, qN_len], by simp only [quoG, qN_len], fun j hj => ?_, fun j hj => ?_⟩, ?_⟩
  · obtain ⟨i, hi, _, hi2⟩ := h.surN hj
    have e1 := un i hi
    have e2 := (h.node hi).2
    rw [hi2] at e1 e2
    simp only
    rw [e1, e2]
    exact hk.nd i hi
  · obtain ⟨i, hi, _, hi2⟩ := h.surE hj
    have e1 := ue i hi
    have e2 := (h.edge hi).2
    rw [hi2] at e1 e2
    simp only
    rw [e1, e2]
    obtain ⟨_, t2, t3⟩ := edge_fits hk.va (i := i) (by omega)
    obtain ⟨a, ha, ha2⟩ := gtI t2
    obtain ⟨b, hb, hb2⟩ := gtI t3
    obtain ⟨k1, k2, k3, k4⟩ := hk.ed i hi
    refine ⟨k1, k2, ?_, ?_⟩
    · simp only; rw [ha2, un a ha, ← ha2]; exact k3
    · simp only; rw [hb2, un b hb, ← hb2]; exact k4
  · have e : ∀ a b c d : List Int, a = c → b = d → (⟨a, b⟩ : Mo) = ⟨c, d⟩ := fun _ _ _ _ h1 h2 => by rw [h1, h2]
    refine e _ _ _ _ (list_ext_gt ?_ fun i hi => ?_) (list_ext_gt ?_ fun i hi => ?_)
    · rw [thr_len]; simp only [quoM]; rw [quo_len h.ph]; omega
    · rw [thr_len] at hi
      rw [thr_gt hi]
      refine un i ?_
      simp only [quoM] at hi; rw [quo_len h.ph] at hi; omega
    · rw [thr_len]; simp only [quoM]; rw [quo_len h.rh]; omega
    · rw [thr_len] at hi
      rw [thr_gt hi]
      refine ue i ?_
      simp only [quoM] at hi; rw [quo_len h.rh] at hi; omega
theorem prL_in {f h : List Int} {m : Nat} (hl : h.length = f.length) (h1 : ∀ x ∈ f, 0 ≤ x ∧ x < m) (h2 : ∀ x ∈ h, 0 ≤ x ∧ x < m) : PrIn m (prL f h f.length) := fun i hi => by
  rw [prL_len] at hi
  rw [prL_gt hi]
  exact ⟨h1 _ (gt_mem (by omega) (by omega)), h2 _ (gt_mem (by omega) (by omega))⟩
section
variable {a g : G} {f h : Mo}
theorem glu_prN (hf : MOk a g f) (hh : MOk a g h) : PrIn g.n.length (prL f.n h.n f.n.length) := by
  have bf := (validM_bd (mok.2 hf)).1
  have bh := (validM_bd (mok.2 hh)).1
  exact prL_in (by rw [hf.ln, hh.ln]) bf bh
theorem glu_prE (hf : MOk a g f) (hh : MOk a g h) : PrIn g.e.length (prL f.e h.e f.e.length) := by
  have bf := (validM_bd (mok.2 hf)).2
  have bh := (validM_bd (mok.2 hh)).2
  exact prL_in (by rw [hf.le, hh.le]) bf bh
theorem gluN_len : (gluN g f h).length = g.n.length := gen_len _
theorem gluE_len : (gluE g f h).length = g.e.length := gen_len _
/-- What is the same for glued nodes is the same in each class. -/
theorem gluN_fun {β : Type} {φ : Int → β} (hf : MOk a g f) (hh : MOk a g h) (e : ∀ i : Nat, i < a.n.length → φ (gt f.n i) = φ (gt h.n i)) {k : Nat} (hk : k < g.n.length) : φ (gt (gluN g f h) k) = φ k := by
  refine gen_fun (glu_prN hf hh) (fun i hi => ?_) _ (Nat.le_refl _) k hk
  rw [prL_len] at hi
  rw [prL_gt hi]
  exact e i (by rw [← hf.ln]; exact hi)
theorem gluE_fun {β : Type} {φ : Int → β} (hf : MOk a g f) (hh : MOk a g h) (e : ∀ i : Nat, i < a.e.length → φ (gt f.e i) = φ (gt h.e i)) {k : Nat} (hk : k < g.e.length) : φ (gt (gluE g f h) k) = φ k := by
  refine gen_fun (glu_prE hf hh) (fun i hi => ?_) _ (Nat.le_refl _) k hk
  rw [prL_len] at hi
  rw [prL_gt hi]
  exact e i (by rw [← hf.le]; exact hi)
theorem gluN_pair (hf : MOk a g f) (hh : MOk a g h) {i : Nat} (hi : i < a.n.length) : gt (gluN g f h) (gt f.n i) = gt (gluN g f h) (gt h.n i) := by
  have ln := hf.ln
  have := gen_pair (glu_prN hf hh) _ (Nat.le_refl _) i (by rw [prL_len]; omega)
  rw [prL_gt (by omega)] at this
  exact this
theorem gluE_pair (hf : MOk a g f) (hh : MOk a g h) {i : Nat} (hi : i < a.e.length) : gt (gluE g f h) (gt f.e i) = gt (gluE g f h) (gt h.e i) := by
  have ln := hf.le
  have := gen_pair (glu_prE hf hh) _ (Nat.le_refl _) i (by rw [prL_len]; omega)
  rw [prL_gt (by omega)] at this
  exact this
theorem glu_cong (hf : MOk a g f) (hh : MOk a g h) : Cong g (gluN g f h) (gluE g f h) := by
  have ip : Idem (gluN g f h) := gen_idem (glu_prN hf hh) (Nat.le_refl _)
  have ir : Idem (gluE g f h) := gen_idem (glu_prE hf hh) (Nat.le_refl _)
  refine ⟨gluN_len, gluE_len, ip, ir, fun i hi => ?_, fun i hi => ?_⟩
  · rw [gluN_len] at hi
    exact gluN_fun (φ := gt g.n) hf hh (fun i hi => by rw [(hf.nd i hi).2, (hh.nd i hi).2]) hi
  · rw [gluE_len] at hi
    refine gluE_fun (φ := gt (reE (quo (gluN g f h) (gluN g f h).length).1 g.e)) hf hh (fun i hi => ?_) hi
    obtain ⟨f1, f2, f3, f4⟩ := hf.ed i hi
    obtain ⟨h1, h2, h3, h4⟩ := hh.ed i hi
    obtain ⟨x, hx, hx2⟩ := gtI f1
    obtain ⟨y, hy, hy2⟩ := gtI h1
    rw [hx2] at f2 f3 f4
    rw [hy2] at h2 h3 h4
    rw [hx2, hy2, reE_gt hx, reE_gt hy, ← f2, ← f3, ← f4, ← h2, ← h3, ← h4]
    have hs := quo_QS ip _ (Nat.le_refl _)
    obtain ⟨_, t2, t3⟩ := edge_fits hf.va (i := i) (by omega)
    have ends : ∀ v : Int, 0 ≤ v ∧ v < a.n.length → gt (quo (gluN g f h) (gluN g f h).length).1 (gt f.n v) = gt (quo (gluN g f h) (gluN g f h).length).1 (gt h.n v) := fun v hv => by
      obtain ⟨j, hj, hj2⟩ := gtI hv
      subst hj2
      have hp := gluN_pair hf hh hj
      obtain ⟨u, hu, hu2⟩ := gtI (hf.nd j hj).1
      obtain ⟨w, hw, hw2⟩ := gtI (hh.nd j hj).1
      rw [hu2, hw2] at hp ⊢
      exact (hs.iff ip (Nat.le_refl _) (by rw [gluN_len]; exact hu) (by rw [gluN_len]; exact hw)).2 hp
    rw [ends _ t2, ends _ t3]
theorem glu_ok (hf : MOk a g f) (hh : MOk a g h) : MOk g (gluG g f h) (gluM g f h) := (glu_cong hf hh).ok hf.vb
theorem mo_ext {x y : Mo} (h1 : x.n = y.n) (h2 : x.e = y.e) : x = y := by cases x; cases y; simp only at h1 h2; rw [h1, h2]
theorem thr_ext {l b m c : List Int} (hl : l.length = m.length) (h : ∀ i : Nat, i < l.length → gt b (gt l i) = gt c (gt m i)) : thr l b = thr m c :=
  list_ext_gt (by rw [thr_len, thr_len, hl]) fun i hi => by rw [thr_len] at hi; rw [thr_gt hi, thr_gt (by omega), h i hi]
theorem glu_eq (hf : MOk a g f) (hh : MOk a g h) : thenM f (gluM g f h) = thenM h (gluM g f h) := by
  have hc := glu_cong hf hh
  refine mo_ext (thr_ext (by rw [hf.ln, hh.ln]) fun i hi => ?_) (thr_ext (by rw [hf.le, hh.le]) fun i hi => ?_)
  · rw [hf.ln] at hi
    have hp := gluN_pair hf hh hi
    obtain ⟨u, hu, hu2⟩ := gtI (hf.nd i hi).1
    obtain ⟨w, hw, hw2⟩ := gtI (hh.nd i hi).1
    rw [hu2, hw2] at hp ⊢
    exact (hc.iffN hu hw).2 hp
  · rw [hf.le] at hi
    have hp := gluE_pair hf hh hi
    obtain ⟨u, hu, hu2⟩ := gtI (hf.ed i hi).1
    obtain ⟨w, hw, hw2⟩ := gtI (hh.ed i hi).1
    rw [hu2, hw2] at hp ⊢
    exact (hc.iffE hu hw).2 hp
theorem thenM_n {m n x y : Mo} (h : thenM m n = thenM x y) {i : Nat} (h1 : i < m.n.length) (h2 : i < x.n.length) : gt n.n (gt m.n i) = gt y.n (gt x.n i) := by
  have := congrArg (fun z : Mo => gt z.n i) h
  simp only [thenM] at this
  rwa [thr_gt h1, thr_gt h2] at this
theorem thenM_e {m n x y : Mo} (h : thenM m n = thenM x y) {i : Nat} (h1 : i < m.e.length) (h2 : i < x.e.length) : gt n.e (gt m.e i) = gt y.e (gt x.e i) := by
  have := congrArg (fun z : Mo => gt z.e i) h
  simp only [thenM] at this
  rwa [thr_gt h1, thr_gt h2] at this
theorem glu_univ {x : G} {k : Mo} (hf : MOk a g f) (hh : MOk a g h) (hk : MOk g x k) (e : thenM f k = thenM h k) : ∃ u, MOk (gluG g f h) x u ∧ thenM (gluM g f h) u = k := by
  have l1 := hf.ln
  have l2 := hh.ln
  have l3 := hf.le
  have l4 := hh.le
  refine (glu_cong hf hh).univ hk (fun i hi => ?_) (fun i hi => ?_)
  · exact gluN_fun (φ := gt k.n) hf hh (fun i hi => thenM_n e (by omega) (by omega)) hi
  · exact gluE_fun (φ := gt k.e) hf hh (fun i hi => thenM_e e (by omega) (by omega)) hi
theorem glu_surN (hf : MOk a g f) (hh : MOk a g h) {k : Nat} (hk : k < (gluG g f h).n.length) : ∃ i : Nat, i < g.n.length ∧ gt (gluM g f h).n i = k :=
  let ⟨i, h1, _, h3⟩ := (glu_cong hf hh).surN hk; ⟨i, h1, h3⟩
theorem glu_surE (hf : MOk a g f) (hh : MOk a g h) {k : Nat} (hk : k < (gluG g f h).e.length) : ∃ i : Nat, i < g.e.length ∧ gt (gluM g f h).e i = k :=
  let ⟨i, h1, _, h3⟩ := (glu_cong hf hh).surE hk; ⟨i, h1, h3⟩
/-- Two morphisms from what is glued are the same if they are so from the graph. -/
theorem glu_one {x : G} {u v : Mo} (hf : MOk a g f) (hh : MOk a g h) (hu : MOk (gluG g f h) x u) (hv : MOk (gluG g f h) x v) (e : thenM (gluM g f h) u = thenM (gluM g f h) v) : u = v := by
  have hq := glu_ok hf hh
  have l1 := hq.ln
  have l2 := hq.le
  refine mo_ext (list_ext_gt (by rw [hu.ln, hv.ln]) fun k hk => ?_) (list_ext_gt (by rw [hu.le, hv.le]) fun k hk => ?_)
  · rw [hu.ln] at hk
    obtain ⟨i, hi, hi2⟩ := glu_surN hf hh hk
    have := thenM_n e (i := i) (by omega) (by omega)
    rwa [hi2] at this
  · rw [hu.le] at hk
    obtain ⟨i, hi, hi2⟩ := glu_surE hf hh hk
    have := thenM_e e (i := i) (by omega) (by omega)
    rwa [hi2] at this
end
end
end Go.Am
