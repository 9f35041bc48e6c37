/- Partitions: what pairs generate, and the classes. -/
import Derived.Test.YtelmgaflhmcihaaGreatSpPa
namespace Go.Am
open Go
set_option linter.unusedVariables false
set_option linter.unusedSimpArgs false
def genI (n : Nat) (l : List Pr) : Nat → List Int
 | 0 => nums 0 n
 | i + 1 => mergeL (genI n l i) (gt l i).a (gt l i).b
def genL (n : Nat) (l : List Pr) : List Int := genI n l l.length
def PrIn (n : Nat) (l : List Pr) : Prop := ∀ i : Nat, i < l.length → (0 ≤ (gt l i).a ∧ (gt l i).a < n) ∧ (0 ≤ (gt l i).b ∧ (gt l i).b < n)
structure Fo (p r : List Int) : Prop where
 l : p.length = r.length
 b : ∀ i : Nat, i < p.length → 0 ≤ gt p i ∧ gt p i ≤ i
 s : ∀ i : Nat, i < p.length → gt r (gt p i) = gt r i
 t : ∀ i : Nat, i < p.length → gt p i = i → gt r i = i
 c : ∀ i : Nat, i < p.length → (0 ≤ gt r i ∧ gt r i ≤ i) ∧ gt p (gt r i) = gt r i
def Idem (p : List Int) : Prop := ∀ i : Nat, i < p.length → (0 ≤ gt p i ∧ gt p i ≤ i) ∧ gt p (gt p i) = gt p i
def qN {α : Type} [Inhabited α] (l : List α) (p : List Int) : Nat → List α
 | 0 => []
 | i + 1 => if gt p i = i then qN l p i ++ [gt l i] else qN l p i
def setL {α : Type} [Inhabited α] (l : List α) (q : List Int) (z : List α) : Nat → List α
 | 0 => z
 | i + 1 => (setL l q z i).set (gt q i).toNat (gt l i)
section
theorem natI {x : Int} (h : 0 ≤ x) : ∃ k : Nat, x = (k : Int) := ⟨x.toNat, by omega⟩
theorem mergeL_gt {p : List Int} {a b : Int} {i : Nat} (hi : i < p.length) : gt (mergeL p a b) i = if gt p i = max (gt p a) (gt p b) then min (gt p a) (gt p b) else gt p i := by
 unfold mergeL
 rw [gt_nat (by simpa using hi), gt_nat hi]
 simp
theorem Fo.idem {p r : List Int} (h : Fo p r) : Idem r := fun i hi => by
 obtain ⟨h1, h3⟩ := h.c i (by have := h.l; omega)
 refine ⟨h1, ?_⟩
 obtain ⟨k, hk⟩ := natI h1.1
 rw [hk] at h1 h3 ⊢
 exact h.t k (by have := h.l; omega) h3
theorem nums_Fo (n : Nat) : Fo (nums 0 n) (nums 0 n) := by
 refine ⟨rfl, fun i hi => ?_, fun i hi => ?_, fun i hi _ => ?_, fun i hi => ?_⟩ <;> rw [nums_len] at hi
 ·rw [nums_gt hi]; omega
 ·rw [nums_gt hi]; exact nums_gt hi
 ·exact nums_gt hi
 ·rw [nums_gt hi]; exact ⟨by omega, nums_gt hi⟩
theorem Fo.unite {p r : List Int} (h : Fo p r) {a b : Nat} (ha : a < p.length) (hb : b < p.length) :
  Fo (p.set (max (gt r a) (gt r b)).toNat (min (gt r a) (gt r b))) (mergeL r a b) := by
 have hl := h.l
 obtain ⟨⟨a1, a2⟩, a3⟩ := h.c a ha
 obtain ⟨⟨b1, b2⟩, b3⟩ := h.c b hb
 have ia := (h.idem a (by omega)).2
 have ib := (h.idem b (by omega)).2
 have hg : ∀ i : Nat, i < p.length → gt (mergeL r a b) i = if gt r i = max (gt r a) (gt r b) then min (gt r a) (gt r b) else gt r i := fun i hi => mergeL_gt (by omega)
 have hm : (mergeL r a b).length = p.length := by rw [merge_len, hl]
 have l1 : gt r (min (gt r a) (gt r b)) = min (gt r a) (gt r b) ∧ gt p (min (gt r a) (gt r b)) = min (gt r a) (gt r b) := by
  by_cases c : gt r a ≤ gt r b
  ·rw [Int.min_eq_left c]; exact ⟨ia, a3⟩
  ·rw [Int.min_eq_right (by omega)]; exact ⟨ib, b3⟩
 have h1 : gt r (max (gt r a) (gt r b)) = max (gt r a) (gt r b) ∧ gt p (max (gt r a) (gt r b)) = max (gt r a) (gt r b) := by
  by_cases c : gt r a ≤ gt r b
  ·rw [Int.max_eq_right c]; exact ⟨ib, b3⟩
  ·rw [Int.max_eq_left (by omega)]; exact ⟨ia, a3⟩
 obtain ⟨lo, hlo⟩ := natI (x := min (gt r a) (gt r b)) (by omega)
 obtain ⟨hi, hhi⟩ := natI (x := max (gt r a) (gt r b)) (by omega)
 have hle : lo ≤ hi := by omega
 have hlt : hi < p.length := by omega
 rw [hlo] at l1
 rw [hhi] at h1
 rw [hlo, hhi, Int.toNat_natCast]
 simp only [hlo, hhi] at hg
 generalize mergeL r a b = r' at *
 have hp : ∀ i : Nat, i < p.length → gt (p.set hi (lo : Int)) i = if hi = i then (lo : Int) else gt p i := fun i hi' => gt_setH hi'
 refine ⟨by simp [hm], fun i hi' => ?_, fun i hi' => ?_, fun i hi' => ?_, fun i hi' => ?_⟩ <;> rw [List.length_set] at hi'
 ·rw [hp i hi']
  split
  ·omega
  ·exact h.b i hi'
 ·rw [hp i hi']
  split
  ·rename_i e; subst e
   rw [hg lo (by omega), hg hi hlt, l1.1, h1.1, if_pos rfl]
   split <;> rfl
  ·have hb' := h.b i hi'
   have hs := h.s i hi'
   obtain ⟨k, hk⟩ := natI hb'.1
   rw [hk] at hs hb' ⊢
   rw [hg k (by omega), hg i hi', hs]
 ·rw [hp i hi', hg i hi']
  split
  ·rename_i e; subst e
   intro e
   rw [h1.1, if_pos rfl]; exact e
  ·rename_i e
   intro e2
   rw [h.t i hi' e2, if_neg (by omega)]
 ·obtain ⟨⟨c1, c2⟩, c3⟩ := h.c i hi'
  rw [hg i hi']
  split
  ·refine ⟨by omega, ?_⟩
   rw [hp lo (by omega), l1.2]
   split <;> rfl
  ·rename_i e
   refine ⟨⟨c1, c2⟩, ?_⟩
   obtain ⟨k, hk⟩ := natI c1
   rw [hk] at c2 c3 e ⊢
   rw [hp k (by omega), if_neg (by omega)]
   exact c3
theorem Fo.flat {p r : List Int} (h : Fo p r) {i : Nat} (hi : i < p.length) : Fo (p.set i (gt r i)) r := by
 obtain ⟨⟨c1, c2⟩, c3⟩ := h.c i hi
 have hid := (h.idem i (by have := h.l; omega)).2
 have hp : ∀ k : Nat, k < p.length → gt (p.set i (gt r i)) k = if i = k then gt r i else gt p k := fun k hk => gt_setH hk
 refine ⟨by simp [h.l], fun k hk => ?_, fun k hk => ?_, fun k hk => ?_, fun k hk => ?_⟩ <;> rw [List.length_set] at hk
 ·rw [hp k hk]
  split
  ·omega
  ·exact h.b k hk
 ·rw [hp k hk]
  split
  ·rename_i e; subst e; exact hid
  ·exact h.s k hk
 ·rw [hp k hk]
  split
  ·rename_i e; subst e; exact id
  ·exact h.t k hk
 ·obtain ⟨⟨d1, d2⟩, d3⟩ := h.c k hk
  refine ⟨⟨d1, d2⟩, ?_⟩
  have he := (h.idem k (by have := h.l; omega)).2
  obtain ⟨m, hm⟩ := natI d1
  rw [hm] at d2 d3 he ⊢
  rw [hp m (by omega)]
  split
  ·rename_i e; subst e; exact he
  ·exact d3
theorem gen_Fo {n : Nat} {l : List Pr} (hl : PrIn n l) : ∀ i : Nat, i ≤ l.length → ∃ p, Fo p (genI n l i) ∧ p.length = n
 | 0, _ => ⟨_, nums_Fo n, nums_len 0 n⟩
 | i + 1, hi => by
  obtain ⟨p, h1, h2⟩ := gen_Fo hl i (by omega)
  obtain ⟨⟨a1, a2⟩, b1, b2⟩ := hl i (by omega)
  obtain ⟨a, ha⟩ := natI a1
  obtain ⟨b, hb⟩ := natI b1
  rw [genI, ha, hb]
  exact ⟨_, h1.unite (a := a) (b := b) (by omega) (by omega), by rw [List.length_set, h2]⟩
theorem gen_len {n : Nat} {l : List Pr} : ∀ i : Nat, (genI n l i).length = n
 | 0 => nums_len 0 n
 | i + 1 => by rw [genI, merge_len, gen_len i]
theorem gen_idem {n : Nat} {l : List Pr} (hl : PrIn n l) {i : Nat} (hi : i ≤ l.length) : Idem (genI n l i) :=
 let ⟨_, h, _⟩ := gen_Fo hl i hi; h.idem
theorem merge_same {p : List Int} {a b : Int} {x y : Nat} (hx : x < p.length) (hy : y < p.length) (h : gt p x = gt p y) : gt (mergeL p a b) x = gt (mergeL p a b) y := by
 rw [mergeL_gt hx, mergeL_gt hy, h]
theorem merge_ab {p : List Int} {a b : Nat} (ha : a < p.length) (hb : b < p.length) : gt (mergeL p a b) a = gt (mergeL p a b) b := by
 rw [mergeL_gt ha, mergeL_gt hb]
 by_cases c : gt p a ≤ gt p b
 ·rw [Int.max_eq_right c, Int.min_eq_left c, if_pos rfl]
  split <;> rfl
 ·rw [Int.max_eq_left (by omega), Int.min_eq_right (by omega), if_pos rfl]
  split <;> rfl
theorem gen_pair {n : Nat} {l : List Pr} (hl : PrIn n l) : ∀ i : Nat, i ≤ l.length → ∀ k : Nat, k < i → gt (genI n l i) (gt l k).a = gt (genI n l i) (gt l k).b
 | 0, _, k, hk => by omega
 | i + 1, hi, k, hk => by
  have gl := gen_len (n := n) (l := l) i
  obtain ⟨⟨a1, a2⟩, b1, b2⟩ := hl k (by omega)
  rw [genI]
  by_cases c : k = i
  ·subst c
   obtain ⟨a, ha⟩ := natI a1
   obtain ⟨b, hb⟩ := natI b1
   rw [ha, hb]
   exact merge_ab (by omega) (by omega)
  ·have ih := gen_pair hl i (by omega) k (by omega)
   obtain ⟨a, ha⟩ := natI a1
   obtain ⟨b, hb⟩ := natI b1
   rw [ha, hb] at ih ⊢
   exact merge_same (by omega) (by omega) ih
theorem gen_fun {β : Type} {φ : Int → β} {n : Nat} {l : List Pr} (hl : PrIn n l) (hf : ∀ i : Nat, i < l.length → φ (gt l i).a = φ (gt l i).b) : ∀ i : Nat, i ≤ l.length → ∀ k : Nat, k < n → φ (gt (genI n l i) k) = φ k
 | 0, _, k, hk => by rw [genI, nums_gt hk]
 | i + 1, hi, k, hk => by
  have gl := gen_len (n := n) (l := l) i
  obtain ⟨⟨a1, a2⟩, b1, b2⟩ := hl i (by omega)
  have ih := gen_fun hl hf i (by omega)
  have he := hf i (by omega)
  obtain ⟨a, ha⟩ := natI a1
  obtain ⟨b, hb⟩ := natI b1
  rw [genI, ha, hb, mergeL_gt (by omega)]
  rw [ha, hb] at he
  have ea := ih a (by omega)
  have eb := ih b (by omega)
  have ek := ih k hk
  by_cases c : gt (genI n l i) a ≤ gt (genI n l i) b
  ·rw [Int.max_eq_right c, Int.min_eq_left c]
   split
   ·rename_i e
    rw [ea, he, ← eb, ← e, ek]
   ·exact ek
  ·rw [Int.max_eq_left (by omega), Int.min_eq_right (by omega)]
   split
   ·rename_i e
    rw [eb, ← he, ← ea, ← e, ek]
   ·exact ek
structure QS (p : List Int) (n : Nat) (s : List Int × Nat) : Prop where
 l : s.1.length = n
 c : s.2 ≤ n
 b : ∀ i : Nat, i < n → 0 ≤ gt s.1 i ∧ gt s.1 i < s.2
 r : ∀ i : Nat, i < n → gt s.1 (gt p i) = gt s.1 i
 j : ∀ i k : Nat, i < n → k < n → gt p i = i → gt p k = k → gt s.1 i = gt s.1 k → i = k
 s : ∀ k : Nat, k < s.2 → ∃ i : Nat, i < n ∧ gt p i = i ∧ gt s.1 i = k
theorem quo_QS {p : List Int} (hp : Idem p) : ∀ n : Nat, n ≤ p.length → QS p n (quo p n)
 | 0, _ => ⟨rfl, Nat.le_refl _, fun i hi => by omega, fun i hi => by omega, fun i k hi => by omega, fun k hk => by simp [quo] at hk⟩
 | n + 1, hn => by
  obtain ⟨h1, h2, h3, h4, h5, h6⟩ := quo_QS hp n (by omega)
  obtain ⟨⟨p1, p2⟩, p3⟩ := hp n (by omega)
  rw [quo]
  generalize quo p n = s at *
  obtain ⟨q, c⟩ := s
  simp only at h1 h2 h3 h4 h5 h6 ⊢
  split
  ·rename_i e
   have hq : ∀ i : Nat, i < n → gt (q ++ [(c : Int)]) i = gt q i := fun i hi => gt_appS (by omega)
   have hn : gt (q ++ [(c : Int)]) n = c := gt_lastS h1.symm
   refine ⟨by simp [h1], by simp only; omega, fun i hi => ?_, fun i hi => ?_, fun i k hi hk ei ek he => ?_, fun k hk => ?_⟩ <;> simp only at *
   ·by_cases x : i = n
    ·subst x; rw [hn]; omega
    ·rw [hq i (by omega)]; have := h3 i (by omega); omega
   ·by_cases x : i = n
    ·subst x; rw [e]
    ·obtain ⟨⟨a1, a2⟩, a3⟩ := hp i (by omega)
     have ih := h4 i (by omega)
     obtain ⟨m, hm⟩ := natI a1
     rw [hm] at a2 ih ⊢
     rw [hq m (by omega), hq i (by omega), ih]
   ·by_cases x : i = n
    ·by_cases y : k = n
     ·omega
     ·subst x; rw [hn, hq k (by omega)] at he
      have := h3 k (by omega); omega
    ·by_cases y : k = n
     ·subst y; rw [hn, hq i (by omega)] at he
      have := h3 i (by omega); omega
     ·rw [hq i (by omega), hq k (by omega)] at he
      exact h5 i k (by omega) (by omega) ei ek he
   ·by_cases x : k = c
    ·subst x; exact ⟨n, by omega, e, hn⟩
    ·obtain ⟨i, i1, i2, i3⟩ := h6 k (by omega)
     exact ⟨i, by omega, i2, by rw [hq i i1, i3]⟩
  ·rename_i e
   obtain ⟨m, hm⟩ := natI p1
   rw [hm] at p2 p3 e ⊢
   have hq : ∀ i : Nat, i < n → gt (q ++ [gt q m]) i = gt q i := fun i hi => gt_appS (by omega)
   have hn : gt (q ++ [gt q m]) n = gt q m := gt_lastS h1.symm
   refine ⟨by simp [h1], by simp only; omega, fun i hi => ?_, fun i hi => ?_, fun i k hi hk ei ek he => ?_, fun k hk => ?_⟩ <;> simp only at *
   ·by_cases x : i = n
    ·subst x; rw [hn]; exact h3 m (by omega)
    ·rw [hq i (by omega)]; exact h3 i (by omega)
   ·by_cases x : i = n
    ·subst x; rw [hm, hn, hq m (by omega)]
    ·obtain ⟨⟨a1, a2⟩, a3⟩ := hp i (by omega)
     have ih := h4 i (by omega)
     obtain ⟨m', hm'⟩ := natI a1
     rw [hm'] at a2 ih ⊢
     rw [hq m' (by omega), hq i (by omega), ih]
   ·have x : i ≠ n := fun x => by subst x; omega
    have y : k ≠ n := fun x => by subst x; omega
    rw [hq i (by omega), hq k (by omega)] at he
    exact h5 i k (by omega) (by omega) ei ek he
   ·obtain ⟨i, i1, i2, i3⟩ := h6 k hk
    exact ⟨i, by omega, i2, by rw [hq i i1, i3]⟩
theorem QS.iff {p : List Int} {n : Nat} {s : List Int × Nat} (hp : Idem p) (hn : n ≤ p.length) (h : QS p n s) {i k : Nat} (hi : i < n) (hk : k < n) : gt s.1 i = gt s.1 k ↔ gt p i = gt p k := by
 obtain ⟨⟨a1, a2⟩, a3⟩ := hp i (by omega)
 obtain ⟨⟨b1, b2⟩, b3⟩ := hp k (by omega)
 have hi' := h.r i hi
 have hk' := h.r k hk
 obtain ⟨x, hx⟩ := natI a1
 obtain ⟨y, hy⟩ := natI b1
 rw [hx] at a2 a3 hi' ⊢
 rw [hy] at b2 b3 hk' ⊢
 constructor
 ·intro e
  have := h.j x y (by omega) (by omega) a3 b3 (by rw [hi', hk', e])
  rw [this]
 ·intro e
  rw [← hi', ← hk', e]
theorem qN_len {α : Type} [Inhabited α] (l : List α) (p : List Int) : ∀ n : Nat, (qN l p n).length = (quo p n).2
 | 0 => rfl
 | n + 1 => by
  rw [qN, quo]
  split
  ·rw [List.length_append, qN_len l p n]; rfl
  ·exact qN_len l p n
theorem qN_gt {α : Type} [Inhabited α] (l : List α) {p : List Int} (hp : Idem p) : ∀ n : Nat, n ≤ p.length → ∀ i : Nat, i < n → gt p i = i → gt (qN l p n) (gt (quo p n).1 i) = gt l i
 | 0, _, i, hi, _ => by omega
 | n + 1, hn, i, hi, e => by
  have hs := quo_QS hp n (by omega)
  have hl := qN_len l p n
  rw [qN, quo]
  by_cases c : gt p n = n
  ·rw [if_pos c, if_pos c]
   simp only
   by_cases x : i = n
   ·subst x
    rw [gt_lastS hs.l.symm, ← hl, gt_lastS rfl]
   ·rw [gt_appS (by have := hs.l; omega)]
    obtain ⟨b1, b2⟩ := hs.b i (by omega)
    have ih := qN_gt l hp n (by omega) i (by omega) e
    obtain ⟨m, hm⟩ := natI b1
    rw [hm] at b2 ih ⊢
    rw [gt_appS (by omega), ih]
  ·rw [if_neg c, if_neg c]
   simp only
   have x : i ≠ n := fun x => by subst x; exact c e
   rw [gt_appS (by have := hs.l; omega)]
   exact qN_gt l hp n (by omega) i (by omega) e
theorem qN_all {α : Type} [Inhabited α] {l : List α} {p : List Int} (hp : Idem p) {n : Nat} (hn : n ≤ p.length) (hl : ∀ i : Nat, i < n → gt l (gt p i) = gt l i) {i : Nat} (hi : i < n) : gt (qN l p n) (gt (quo p n).1 i) = gt l i := by
 have hs := quo_QS hp n hn
 obtain ⟨⟨a1, a2⟩, a3⟩ := hp i (by omega)
 have h1 := hs.r i hi
 have h2 := hl i hi
 obtain ⟨k, hk⟩ := natI a1
 rw [hk] at a2 a3 h1 h2
 rw [← h1, qN_gt l hp n hn k (by omega) a3, h2]
theorem qN_mem {α : Type} [Inhabited α] {l : List α} {p : List Int} : ∀ {n : Nat}, n ≤ l.length → ∀ x ∈ qN l p n, x ∈ l
 | 0, _, x, hx => by simp [qN] at hx
 | n + 1, hn, x, hx => by
  rw [qN] at hx
  split at hx
  ·rcases List.mem_append.1 hx with hx | hx
   ·exact qN_mem (by omega) x hx
   ·rw [List.mem_singleton] at hx
    rw [hx]; exact gt_mem (by omega) (by omega)
  ·exact qN_mem (by omega) x hx
theorem setL_len {α : Type} [Inhabited α] (l : List α) (q : List Int) (z : List α) : ∀ i : Nat, (setL l q z i).length = z.length
 | 0 => rfl
 | i + 1 => by rw [setL, List.length_set, setL_len l q z i]
theorem gt_setS {α : Type} [Inhabited α] {l : List α} {k i : Nat} {v : α} (hi : i < l.length) : gt (l.set k v) i = if k = i then v else gt l i := by
 rw [gt_nat (by simpa using hi), gt_nat hi, List.getElem_set]
theorem setL_gt {α : Type} [Inhabited α] {l : List α} {q : List Int} {z w : List α} : ∀ {n : Nat}, (∀ i : Nat, i < n → 0 ≤ gt q i ∧ gt w (gt q i) = gt l i) → ∀ k : Nat, k < z.length →
  gt (setL l q z n) k = gt w k ∨ (gt (setL l q z n) k = gt z k ∧ ∀ i : Nat, i < n → gt q i ≠ k)
 | 0, _, k, hk => .inr ⟨rfl, fun i hi => by omega⟩
 | n + 1, h, k, hk => by
  have ih := setL_gt (z := z) (n := n) (fun i hi => h i (by omega)) k hk
  obtain ⟨h1, h2⟩ := h n (by omega)
  rw [setL, gt_setS (by rw [setL_len]; exact hk)]
  by_cases c : (gt q n).toNat = k
  ·rw [if_pos c]
   refine .inl ?_
   rw [← h2, show gt q n = (k : Int) by omega]
  ·rw [if_neg c]
   refine ih.imp id fun ⟨i1, i2⟩ => ⟨i1, fun i hi => ?_⟩
   by_cases x : i = n
   ·subst x; omega
   ·exact i2 i (by omega)
end
def reE (q : List Int) (es : List E) : List E := es.map fun x => ⟨x.t, gt q x.f, gt q x.o⟩
def quoG (g : G) (p r : List Int) : G := ⟨qN g.n p p.length, qN (reE (quo p p.length).1 g.e) r r.length⟩
def quoM (p r : List Int) : Mo := ⟨(quo p p.length).1, (quo r r.length).1⟩
structure Cong (g : G) (p r : List Int) : Prop where
 pl : p.length = g.n.length
 rl : r.length = g.e.length
 ph : Idem p
 rh : Idem r
 pt : ∀ i : Nat, i < p.length → gt g.n (gt p i) = gt g.n i
 rt : ∀ i : Nat, i < r.length → gt (reE (quo p p.length).1 g.e) (gt r i) = gt (reE (quo p p.length).1 g.e) i
def prL (f h : List Int) (n : Nat) : List Pr := (List.range n).map fun i : Nat => ⟨gt f i, gt h i⟩
def gluN (g : G) (f h : Mo) : List Int := genL g.n.length (prL f.n h.n f.n.length)
def gluE (g : G) (f h : Mo) : List Int := genL g.e.length (prL f.e h.e f.e.length)
def gluG (g : G) (f h : Mo) : G := quoG g (gluN g f h) (gluE g f h)
def gluM (g : G) (f h : Mo) : Mo := quoM (gluN g f h) (gluE g f h)
section
theorem reE_len (q : List Int) (es : List E) : (reE q es).length = es.length := by simp [reE]
theorem reE_gt {q : List Int} {es : List E} {i : Nat} (h : i < es.length) : gt (reE q es) i = ⟨(gt es i).t, gt q (gt es i).f, gt q (gt es i).o⟩ := by
 unfold reE
 rw [gt_map h]
theorem prL_len (f h : List Int) (n : Nat) : (prL f h n).length = n := by simp [prL]
theorem prL_succ (f h : List Int) (n : Nat) : prL f h (n + 1) = prL f h n ++ [⟨gt f n, gt h n⟩] := by simp [prL, List.range_succ]
theorem prL_gt {f h : List Int} {n i : Nat} (hi : i < n) : gt (prL f h n) i = ⟨gt f i, gt h i⟩ := by
 unfold prL
 rw [gt_nat (by simp; exact hi)]
 simp
theorem quo_len {p : List Int} (hp : Idem p) : (quo p p.length).1.length = p.length := (quo_QS hp _ (Nat.le_refl _)).l
theorem Cong.node {g : G} {p r : List Int} (h : Cong g p r) {i : Nat} (hi : i < g.n.length) : (0 ≤ gt (quoM p r).n i ∧ gt (quoM p r).n i < (quoG g p r).n.length) ∧ gt (quoG g p r).n (gt (quoM p r).n i) = gt g.n i := by
 have hs := quo_QS h.ph _ (Nat.le_refl _)
 have hpl := h.pl
 refine ⟨?_, ?_⟩
 ·simp only [quoM, quoG, qN_len]
  exact hs.b i (by omega)
 ·exact qN_all h.ph (Nat.le_refl _) h.pt (by omega)
theorem Cong.edge {g : G} {p r : List Int} (h : Cong g p r) {i : Nat} (hi : i < g.e.length) : (0 ≤ gt (quoM p r).e i ∧ gt (quoM p r).e i < (quoG g p r).e.length) ∧ gt (quoG g p r).e (gt (quoM p r).e i) = ⟨(gt g.e i).t, gt (quoM p r).n (gt g.e i).f, gt (quoM p r).n (gt g.e i).o⟩ := by
 have hs := quo_QS h.rh _ (Nat.le_refl _)
 have hrl := h.rl
 refine ⟨?_, ?_⟩
 ·simp only [quoM, quoG, qN_len]
  exact hs.b i (by omega)
 ·have := qN_all h.rh (Nat.le_refl _) h.rt (show i < r.length by omega)
  simp only [quoM, quoG]
  rw [this, reE_gt hi]
theorem Cong.surN {g : G} {p r : List Int} (h : Cong g p r) {k : Nat} (hk : k < (quoG g p r).n.length) : ∃ i : Nat, i < g.n.length ∧ gt p i = i ∧ gt (quoM p r).n i = k := by
 have hs := quo_QS h.ph _ (Nat.le_refl _)
 simp only [quoG, qN_len] at hk
 obtain ⟨i, h1, h2, h3⟩ := hs.s k hk
 exact ⟨i, by rw [← h.pl]; exact h1, h2, h3⟩
theorem Cong.surE {g : G} {p r : List Int} (h : Cong g p r) {k : Nat} (hk : k < (quoG g p r).e.length) : ∃ i : Nat, i < g.e.length ∧ gt r i = i ∧ gt (quoM p r).e i = k := by
 have hs := quo_QS h.rh _ (Nat.le_refl _)
 simp only [quoG, qN_len] at hk
 obtain ⟨i, h1, h2, h3⟩ := hs.s k hk
 exact ⟨i, by rw [← h.rl]; exact h1, h2, h3⟩
theorem Cong.ok {g : G} {p r : List Int} (hv : validG g = 0) (h : Cong g p r) : MOk g (quoG g p r) (quoM p r) := by
 have vs := valid_spec hv
 have h1 := quo_QS h.ph _ (Nat.le_refl _)
 have h2 := quo_QS h.rh _ (Nat.le_refl _)
 have hpl := h.pl
 have hrl := h.rl
 refine ⟨hv, valid_mk ?_ ?_ (fun y hy => ?_) (fun y hy => ?_), ?_, ?_, fun i hi => h.node hi, fun i hi => ?_⟩
 ·simp only [quoG, qN_len]; have := h1.c; omega
 ·simp only [quoG, qN_len]; have := h2.c; omega
 ·exact vs.2.2.1 y (qN_mem (by omega) y hy)
 ·obtain ⟨k, hk, hk2⟩ := mem_gt hy
  obtain ⟨i, hi, _, hi2⟩ := h.surE hk
  have he := (h.edge hi).2
  rw [hi2, hk2] at he
  rw [he]
  obtain ⟨t1, t2, t3⟩ := edge_fits hv (i := i) (by omega)
  obtain ⟨a, ha, ha2⟩ := gtI t2
  obtain ⟨b, hb, hb2⟩ := gtI t3
  rw [ha2, hb2]
  exact fits_mk t1 (h.node ha).1 (h.node hb).1
 ·simp only [quoM]; rw [h1.l, hpl]
 ·simp only [quoM]; rw [h2.l, hrl]
 ·obtain ⟨e1, e2⟩ := h.edge hi
  refine ⟨e1, ?_⟩
  rw [e2]
  exact ⟨rfl, rfl, rfl⟩
theorem Cong.iffN {g : G} {p r : List Int} (h : Cong g p r) {i k : Nat} (hi : i < g.n.length) (hk : k < g.n.length) : gt (quoM p r).n i = gt (quoM p r).n k ↔ gt p i = gt p k :=
 (quo_QS h.ph _ (Nat.le_refl _)).iff h.ph (Nat.le_refl _) (by rw [h.pl]; exact hi) (by rw [h.pl]; exact hk)
theorem Cong.iffE {g : G} {p r : List Int} (h : Cong g p r) {i k : Nat} (hi : i < g.e.length) (hk : k < g.e.length) : gt (quoM p r).e i = gt (quoM p r).e k ↔ gt r i = gt r k :=
 (quo_QS h.rh _ (Nat.le_refl _)).iff h.rh (Nat.le_refl _) (by rw [h.rl]; exact hi) (by rw [h.rl]; exact hk)
theorem Cong.univ {g x : G} {p r : List Int} {k : Mo} (h : Cong g p r) (hk : MOk g x k) (h1 : ∀ i : Nat, i < g.n.length → gt k.n (gt p i) = gt k.n i) (h2 : ∀ i : Nat, i < g.e.length → gt k.e (gt r i) = gt k.e i) :
  ∃ u, MOk (quoG g p r) x u ∧ thenM (quoM p r) u = k := by
 have hq := h.ok hk.va
 have hpl := h.pl
 have hrl := h.rl
 have ln := hk.ln
 have le := hk.le
 have un : ∀ i : Nat, i < g.n.length → gt (qN k.n p p.length) (gt (quoM p r).n i) = gt k.n i := fun i hi => qN_all h.ph (Nat.le_refl _) (fun i hi => h1 i (by omega)) (by omega)
 have ue : ∀ i : Nat, i < g.e.length → gt (qN k.e r r.length) (gt (quoM p r).e i) = gt k.e i := fun i hi => qN_all h.rh (Nat.le_refl _) (fun i hi => h2 i (by omega)) (by omega)
 refine ⟨⟨qN k.n p p.length, qN k.e r r.length⟩, ⟨hq.vb, hk.vb, by simp only [quoG, qN_len], by simp only [quoG, qN_len], fun j hj => ?_, fun j hj => ?_⟩, ?_⟩
 ·obtain ⟨i, hi, _, hi2⟩ := h.surN hj
  have e1 := un i hi
  have e2 := (h.node hi).2
  rw [hi2] at e1 e2
  simp only
  rw [e1, e2]
  exact hk.nd i hi
 ·obtain ⟨i, hi, _, hi2⟩ := h.surE hj
  have e1 := ue i hi
  have e2 := (h.edge hi).2
  rw [hi2] at e1 e2
  simp only
  rw [e1, e2]
  obtain ⟨_, t2, t3⟩ := edge_fits hk.va (i := i) (by omega)
  obtain ⟨a, ha, ha2⟩ := gtI t2
  obtain ⟨b, hb, hb2⟩ := gtI t3
  obtain ⟨k1, k2, k3, k4⟩ := hk.ed i hi
  refine ⟨k1, k2, ?_, ?_⟩
  ·simp only; rw [ha2, un a ha, ← ha2]; exact k3
  ·simp only; rw [hb2, un b hb, ← hb2]; exact k4
 ·have e : ∀ a b c d : List Int, a = c → b = d → (⟨a, b⟩ : Mo) = ⟨c, d⟩ := fun _ _ _ _ h1 h2 => by rw [h1, h2]
  refine e _ _ _ _ (list_ext_gt ?_ fun i hi => ?_) (list_ext_gt ?_ fun i hi => ?_)
  ·rw [thr_len]; simp only [quoM]; rw [quo_len h.ph]; omega
  ·rw [thr_len] at hi
   rw [thr_gt hi]
   refine un i ?_
   simp only [quoM] at hi; rw [quo_len h.ph] at hi; omega
  ·rw [thr_len]; simp only [quoM]; rw [quo_len h.rh]; omega
  ·rw [thr_len] at hi
   rw [thr_gt hi]
   refine ue i ?_
   simp only [quoM] at hi; rw [quo_len h.rh] at hi; omega
theorem prL_in {f h : List Int} {m : Nat} (hl : h.length = f.length) (h1 : ∀ x ∈ f, 0 ≤ x ∧ x < m) (h2 : ∀ x ∈ h, 0 ≤ x ∧ x < m) : PrIn m (prL f h f.length) := fun i hi => by
 rw [prL_len] at hi
 rw [prL_gt hi]
 exact ⟨h1 _ (gt_mem (by omega) (by omega)), h2 _ (gt_mem (by omega) (by omega))⟩
section
variable {a g : G} {f h : Mo}
theorem glu_prN (hf : MOk a g f) (hh : MOk a g h) : PrIn g.n.length (prL f.n h.n f.n.length) := by
 have bf := (validM_bd (mok.2 hf)).1
 have bh := (validM_bd (mok.2 hh)).1
 exact prL_in (by rw [hf.ln, hh.ln]) bf bh
theorem glu_prE (hf : MOk a g f) (hh : MOk a g h) : PrIn g.e.length (prL f.e h.e f.e.length) := by
 have bf := (validM_bd (mok.2 hf)).2
 have bh := (validM_bd (mok.2 hh)).2
 exact prL_in (by rw [hf.le, hh.le]) bf bh
theorem gluN_len : (gluN g f h).length = g.n.length := gen_len _
theorem gluE_len : (gluE g f h).length = g.e.length := gen_len _
theorem gluN_fun {β : Type} {φ : Int → β} (hf : MOk a g f) (hh : MOk a g h) (e : ∀ i : Nat, i < a.n.length → φ (gt f.n i) = φ (gt h.n i)) {k : Nat} (hk : k < g.n.length) : φ (gt (gluN g f h) k) = φ k := by
 refine gen_fun (glu_prN hf hh) (fun i hi => ?_) _ (Nat.le_refl _) k hk
 rw [prL_len] at hi
 rw [prL_gt hi]
 exact e i (by rw [← hf.ln]; exact hi)
theorem gluE_fun {β : Type} {φ : Int → β} (hf : MOk a g f) (hh : MOk a g h) (e : ∀ i : Nat, i < a.e.length → φ (gt f.e i) = φ (gt h.e i)) {k : Nat} (hk : k < g.e.length) : φ (gt (gluE g f h) k) = φ k := by
 refine gen_fun (glu_prE hf hh) (fun i hi => ?_) _ (Nat.le_refl _) k hk
 rw [prL_len] at hi
 rw [prL_gt hi]
 exact e i (by rw [← hf.le]; exact hi)
theorem gluN_pair (hf : MOk a g f) (hh : MOk a g h) {i : Nat} (hi : i < a.n.length) : gt (gluN g f h) (gt f.n i) = gt (gluN g f h) (gt h.n i) := by
 have ln := hf.ln
 have := gen_pair (glu_prN hf hh) _ (Nat.le_refl _) i (by rw [prL_len]; omega)
 rw [prL_gt (by omega)] at this
 exact this
theorem gluE_pair (hf : MOk a g f) (hh : MOk a g h) {i : Nat} (hi : i < a.e.length) : gt (gluE g f h) (gt f.e i) = gt (gluE g f h) (gt h.e i) := by
 have ln := hf.le
 have := gen_pair (glu_prE hf hh) _ (Nat.le_refl _) i (by rw [prL_len]; omega)
 rw [prL_gt (by omega)] at this
 exact this
theorem glu_cong (hf : MOk a g f) (hh : MOk a g h) : Cong g (gluN g f h) (gluE g f h) := by
 have ip : Idem (gluN g f h) := gen_idem (glu_prN hf hh) (Nat.le_refl _)
 have ir : Idem (gluE g f h) := gen_idem (glu_prE hf hh) (Nat.le_refl _)
 refine ⟨gluN_len, gluE_len, ip, ir, fun i hi => ?_, fun i hi => ?_⟩
 ·rw [gluN_len] at hi
  exact gluN_fun (φ := gt g.n) hf hh (fun i hi => by rw [(hf.nd i hi).2, (hh.nd i hi).2]) hi
 ·rw [gluE_len] at hi
  refine gluE_fun (φ := gt (reE (quo (gluN g f h) (gluN g f h).length).1 g.e)) hf hh (fun i hi => ?_) hi
  obtain ⟨f1, f2, f3, f4⟩ := hf.ed i hi
  obtain ⟨h1, h2, h3, h4⟩ := hh.ed i hi
  obtain ⟨x, hx, hx2⟩ := gtI f1
  obtain ⟨y, hy, hy2⟩ := gtI h1
  rw [hx2] at f2 f3 f4
  rw [hy2] at h2 h3 h4
  rw [hx2, hy2, reE_gt hx, reE_gt hy, ← f2, ← f3, ← f4, ← h2, ← h3, ← h4]
  have hs := quo_QS ip _ (Nat.le_refl _)
  obtain ⟨_, t2, t3⟩ := edge_fits hf.va (i := i) (by omega)
  have ends : ∀ v : Int, 0 ≤ v ∧ v < a.n.length → gt (quo (gluN g f h) (gluN g f h).length).1 (gt f.n v) = gt (quo (gluN g f h) (gluN g f h).length).1 (gt h.n v) := fun v hv => by
   obtain ⟨j, hj, hj2⟩ := gtI hv
   subst hj2
   have hp := gluN_pair hf hh hj
   obtain ⟨u, hu, hu2⟩ := gtI (hf.nd j hj).1
   obtain ⟨w, hw, hw2⟩ := gtI (hh.nd j hj).1
   rw [hu2, hw2] at hp ⊢
   exact (hs.iff ip (Nat.le_refl _) (by rw [gluN_len]; exact hu) (by rw [gluN_len]; exact hw)).2 hp
  rw [ends _ t2, ends _ t3]
theorem glu_ok (hf : MOk a g f) (hh : MOk a g h) : MOk g (gluG g f h) (gluM g f h) := (glu_cong hf hh).ok hf.vb
theorem mo_ext {x y : Mo} (h1 : x.n = y.n) (h2 : x.e = y.e) : x = y := by cases x; cases y; simp only at h1 h2; rw [h1, h2]
theorem thr_ext {l b m c : List Int} (hl : l.length = m.length) (h : ∀ i : Nat, i < l.length → gt b (gt l i) = gt c (gt m i)) : thr l b = thr m c :=
 list_ext_gt (by rw [thr_len, thr_len, hl]) fun i hi => by rw [thr_len] at hi; rw [thr_gt hi, thr_gt (by omega), h i hi]
theorem glu_eq (hf : MOk a g f) (hh : MOk a g h) : thenM f (gluM g f h) = thenM h (gluM g f h) := by
 have hc := glu_cong hf hh
 refine mo_ext (thr_ext (by rw [hf.ln, hh.ln]) fun i hi => ?_) (thr_ext (by rw [hf.le, hh.le]) fun i hi => ?_)
 ·rw [hf.ln] at hi
  have hp := gluN_pair hf hh hi
  obtain ⟨u, hu, hu2⟩ := gtI (hf.nd i hi).1
  obtain ⟨w, hw, hw2⟩ := gtI (hh.nd i hi).1
  rw [hu2, hw2] at hp ⊢
  exact (hc.iffN hu hw).2 hp
 ·rw [hf.le] at hi
  have hp := gluE_pair hf hh hi
  obtain ⟨u, hu, hu2⟩ := gtI (hf.ed i hi).1
  obtain ⟨w, hw, hw2⟩ := gtI (hh.ed i hi).1
  rw [hu2, hw2] at hp ⊢
  exact (hc.iffE hu hw).2 hp
theorem thenM_n {m n x y : Mo} (h : thenM m n = thenM x y) {i : Nat} (h1 : i < m.n.length) (h2 : i < x.n.length) : gt n.n (gt m.n i) = gt y.n (gt x.n i) := by
 have := congrArg (fun z : Mo => gt z.n i) h
 simp only [thenM] at this
 rwa [thr_gt h1, thr_gt h2] at this
theorem thenM_e {m n x y : Mo} (h : thenM m n = thenM x y) {i : Nat} (h1 : i < m.e.length) (h2 : i < x.e.length) : gt n.e (gt m.e i) = gt y.e (gt x.e i) := by
 have := congrArg (fun z : Mo => gt z.e i) h
 simp only [thenM] at this
 rwa [thr_gt h1, thr_gt h2] at this
theorem glu_univ {x : G} {k : Mo} (hf : MOk a g f) (hh : MOk a g h) (hk : MOk g x k) (e : thenM f k = thenM h k) : ∃ u, MOk (gluG g f h) x u ∧ thenM (gluM g f h) u = k := by
 have l1 := hf.ln
 have l2 := hh.ln
 have l3 := hf.le
 have l4 := hh.le
 refine (glu_cong hf hh).univ hk (fun i hi => ?_) (fun i hi => ?_)
 ·exact gluN_fun (φ := gt k.n) hf hh (fun i hi => thenM_n e (by omega) (by omega)) hi
 ·exact gluE_fun (φ := gt k.e) hf hh (fun i hi => thenM_e e (by omega) (by omega)) hi
theorem glu_surN (hf : MOk a g f) (hh : MOk a g h) {k : Nat} (hk : k < (gluG g f h).n.length) : ∃ i : Nat, i < g.n.length ∧ gt (gluM g f h).n i = k :=
 let ⟨i, h1, _, h3⟩ := (glu_cong hf hh).surN hk; ⟨i, h1, h3⟩
theorem glu_surE (hf : MOk a g f) (hh : MOk a g h) {k : Nat} (hk : k < (gluG g f h).e.length) : ∃ i : Nat, i < g.e.length ∧ gt (gluM g f h).e i = k :=
 let ⟨i, h1, _, h3⟩ := (glu_cong hf hh).surE hk; ⟨i, h1, h3⟩
theorem glu_one {x : G} {u v : Mo} (hf : MOk a g f) (hh : MOk a g h) (hu : MOk (gluG g f h) x u) (hv : MOk (gluG g f h) x v) (e : thenM (gluM g f h) u = thenM (gluM g f h) v) : u = v := by
 have hq := glu_ok hf hh
 have l1 := hq.ln
 have l2 := hq.le
 refine mo_ext (list_ext_gt (by rw [hu.ln, hv.ln]) fun k hk => ?_) (list_ext_gt (by rw [hu.le, hv.le]) fun k hk => ?_)
 ·rw [hu.ln] at hk
  obtain ⟨i, hi, hi2⟩ := glu_surN hf hh hk
  have := thenM_n e (i := i) (by omega) (by omega)
  rwa [hi2] at this
 ·rw [hu.le] at hk
  obtain ⟨i, hi, hi2⟩ := glu_surE hf hh hk
  have := thenM_e e (i := i) (by omega) (by omega)
  rwa [hi2] at this
end
end
attribute [local irreducible] W
@[go_sem] def c_partition_root_r0 : LL := [qi 4 0]
@[go_sem] def c_partition_root_r1 : LL := [qm 5 0,qm 6 1,qd 7 1 5 6,ql 8 1 7,qm 9 1,qo .neq 10 8 9]
@[go_sem] def c_partition_root_r2 : LL := [qm 11 0,qm 12 1,qd 13 1 11 12,ql 14 1 13,qm 1 14]
def c_partition_root_b3 : LC := (.seq (.seq (.reg c_partition_root_r1 [0,1,10]) (.cond (.t 10) .skip (.exit 0))) (.block 1 (.reg c_partition_root_r2 [0,1])))
@[go_sem] def c_partition_root_r4 : LL := [qm 15 1,qm 4 15]
@[go_sem] def c_partition_root (F : Fn) : LC := (.seq (.reg c_partition_root_r0 [0,1]) (.seq (.block 0 (.loop [0,1] c_partition_root_b3)) (.seq (.reg c_partition_root_r4 [4]) .ret)))
def h_partition_root : Hints := hOf [] (c_partition_root fun _ => 0)
@[go_sem] def c_partition_unite_r0 (F : Fn) : LL := [qm 8 0,qm 9 1,qc 10 (F "partition.root") [.t 8,.t 9],qm 11 0,qm 12 2,qc 13 (F "partition.root") [.t 11,.t 12],qm 6 10,qm 7 13]
@[go_sem] def c_partition_unite_r1 : LL := [qm 14 0,qm 15 6,qm 16 7,⟨some 17,.mx [.t 15,.t 16],none⟩,qm 18 6,qm 19 7,⟨some 20,.mn [.t 18,.t 19],none⟩,qd 21 1 14 17,qs 1 21 20]
@[go_sem] def c_partition_unite (F : Fn) : LC := (.seq (.reg (c_partition_unite_r0 F) [0,6,7]) (.reg c_partition_unite_r1 [0]))
def h_partition_unite : Hints := hOf [0] (c_partition_unite fun _ => 0)
@[go_sem] def c_partition_finest_r0 : LL := [qn 2 1]
@[go_sem] def c_partition_finest_r1 : LL := [qm 5 0,⟨some 6,.makeSl 1 8 (.int .i64 (0)) (.t 5),none⟩,qm 3 6]
@[go_sem] def c_partition_finest_r2 : LL := [qm 7 3,qz 8 7,qi 9 0]
@[go_sem] def c_partition_finest_r3 : LL := [qo .lss 10 9 8]
@[go_sem] def c_partition_finest_r4 : LL := [qm 11 9,qm 4 11]
@[go_sem] def c_partition_finest_r5 : LL := [qm 12 3,qm 13 4,qm 14 4,qd 15 1 12 13,qs 1 15 14]
@[go_sem] def c_partition_finest_r6 : LL := [qk .add 16 9 1,qm 9 16]
def c_partition_finest_b7 : LC := (.seq (.reg c_partition_finest_r3 [3,8,9,10]) (.seq (.cond (.t 10) .skip (.exit 0)) (.seq (.block 1 (.seq (.reg c_partition_finest_r4 [3,4,8,9]) (.reg c_partition_finest_r5 [3,8,9]))) (.reg c_partition_finest_r6 [3,8,9]))))
@[go_sem] def c_partition_finest_r8 : LL := [qm 17 3,qm 2 17]
@[go_sem] def c_partition_finest (F : Fn) : LC := (.seq (.reg c_partition_finest_r0 [0]) (.seq (.reg c_partition_finest_r1 [3]) (.seq (.seq (.reg c_partition_finest_r2 [3,8,9]) (.block 0 (.loop [3,8,9] c_partition_finest_b7))) (.seq (.reg c_partition_finest_r8 [2]) .ret))))
def h_partition_finest : Hints := hOf [] (c_partition_finest fun _ => 0)
@[go_sem] def c_partition_flat_r0 : LL := [qn 2 1]
@[go_sem] def c_partition_flat_r1 : LL := [qm 4 0,qz 5 4,qi 6 0]
@[go_sem] def c_partition_flat_r2 : LL := [qo .lss 7 6 5]
@[go_sem] def c_partition_flat_r3 : LL := [qm 8 6,qm 3 8]
@[go_sem] def c_partition_flat_r4 (F : Fn) : LL := [qm 9 0,qm 10 3,qm 11 0,qm 12 3,qc 13 (F "partition.root") [.t 11,.t 12],qd 14 1 9 10,qs 1 14 13]
@[go_sem] def c_partition_flat_r5 : LL := [qk .add 15 6 1,qm 6 15]
def c_partition_flat_b6 (F : Fn) : LC := (.seq (.reg c_partition_flat_r2 [0,5,6,7]) (.seq (.cond (.t 7) .skip (.exit 0)) (.seq (.block 1 (.seq (.reg c_partition_flat_r3 [0,3,5,6]) (.reg (c_partition_flat_r4 F) [0,5,6]))) (.reg c_partition_flat_r5 [0,5,6]))))
@[go_sem] def c_partition_flat_r7 : LL := [qm 16 0,qm 2 16]
@[go_sem] def c_partition_flat (F : Fn) : LC := (.seq (.reg c_partition_flat_r0 [0]) (.seq (.seq (.reg c_partition_flat_r1 [0,5,6]) (.block 0 (.loop [0,5,6] (c_partition_flat_b6 F)))) (.seq (.reg c_partition_flat_r7 [2]) .ret)))
def h_partition_flat : Hints := hOf [] (c_partition_flat fun _ => 0)
@[go_sem] def c_partition_Generate_r0 : LL := [qn 4 1,qi 5 0]
@[go_sem] def c_partition_Generate_r1 : LL := [qm 9 0,qk .gtr 10 9 80]
@[go_sem] def c_partition_Generate_r2 : LL := [qn 4 1,qi 5 3]
@[go_sem] def c_partition_Generate_r3 : LL := [qm 11 0,qk .lss 12 11 0]
@[go_sem] def c_partition_Generate_r4 : LL := [qn 4 1,qi 5 6]
@[go_sem] def c_partition_Generate_r5 (F : Fn) : LL := [qm 13 0,qc 14 (F "partition.finest") [.t 13],qm 6 14]
@[go_sem] def c_partition_Generate_r6 : LL := [qm 15 1,qz 16 15,qi 17 0]
@[go_sem] def c_partition_Generate_r7 : LL := [qo .lss 18 17 16]
@[go_sem] def c_partition_Generate_r8 : LL := [qd 19 2 15 17,qL 20 2 19,qa 8 [.int .i64 (0),.int .i64 (0)],qs 2 8 20]
@[go_sem] def c_partition_Generate_r9 : LL := [qf 21 0 8,ql 22 1 21,qk .lss 23 22 0,qm 24 23,qg 24 false (qf 25 0 8),qg 24 false (ql 26 1 25),qg 24 false (qm 27 0),qg 24 false (qo .geq 28 26 27),qQ 29 24 28,qm 30 29,
 qg 30 false (qf 31 1 8),qg 30 false (ql 32 1 31),qg 30 false (qk .lss 33 32 0),qQ 34 30 33,qm 35 34,qg 35 false (qf 36 1 8),qg 35 false (ql 37 1 36),qg 35 false (qm 38 0),
 qg 35 false (qo .geq 39 37 38),qQ 40 35 39]
@[go_sem] def c_partition_Generate_r10 : LL := [qn 4 1,qi 5 6]
@[go_sem] def c_partition_Generate_r11 (F : Fn) : LL := [qm 41 6,qf 42 0 8,ql 43 1 42,qf 44 1 8,ql 45 1 44,⟨some 46,.call (F "partition.unite") [.t 41,.t 43,.t 45] [.mu,.rd,.rd],none⟩]
@[go_sem] def c_partition_Generate_r12 : LL := [qk .add 47 17 1,qm 17 47]
def c_partition_Generate_b13 (F : Fn) : LC := (.seq (.reg c_partition_Generate_r7 [0,6,15,16,17,18]) (.seq (.cond (.t 18) .skip (.exit 0)) (.seq (.block 1 (.seq (.reg c_partition_Generate_r8 [0,6,8,15,16,17]) (.seq (.seq (.reg c_partition_Generate_r9 [0,6,8,15,16,17,40]) (.cond (.t 40) (.seq (.reg c_partition_Generate_r10 [4,5]) .ret) .skip)) (.reg (c_partition_Generate_r11 F) [0,6,15,16,17])))) (.reg c_partition_Generate_r12 [0,6,15,16,17]))))
@[go_sem] def c_partition_Generate_r14 (F : Fn) : LL := [qm 48 6,⟨some 49,.call (F "partition.flat") [.t 48] [.ow],none⟩,qm 4 49,qi 5 0]
@[go_sem] def c_partition_Generate (F : Fn) : LC := (.seq (.reg c_partition_Generate_r0 [0,1]) (.seq (.seq (.reg c_partition_Generate_r1 [0,1,10]) (.cond (.t 10) (.seq (.reg c_partition_Generate_r2 [4,5]) .ret) .skip)) (.seq (.seq (.reg c_partition_Generate_r3 [0,1,12]) (.cond (.t 12) (.seq (.reg c_partition_Generate_r4 [4,5]) .ret) .skip)) (.seq (.reg (c_partition_Generate_r5 F) [0,1,6]) (.seq (.seq (.reg c_partition_Generate_r6 [0,6,15,16,17]) (.block 0 (.loop [0,6,15,16,17] (c_partition_Generate_b13 F)))) (.seq (.reg (c_partition_Generate_r14 F) [4,5]) .ret))))))
def h_partition_Generate : Hints := hOf [] (c_partition_Generate fun _ => 0)
@[go_sem] def c_partition_right_r0 : LL := [qb 2 false]
@[go_sem] def c_partition_right_r1 : LL := [qm 5 0,qz 6 5,qi 7 0]
@[go_sem] def c_partition_right_r2 : LL := [qo .lss 8 7 6]
@[go_sem] def c_partition_right_r3 : LL := [qm 9 7,qd 10 1 5 7,ql 11 1 10,qm 3 9,qm 4 11]
@[go_sem] def c_partition_right_r4 : LL := [qm 12 4,qk .lss 13 12 0,qm 14 13,qg 14 false (qm 15 4),qg 14 false (qm 16 3),qg 14 false (qo .gtr 17 15 16),qQ 18 14 17,qm 19 18,qg 19 false (qm 20 0),qg 19 false (qm 21 4),
 qg 19 false (qd 22 1 20 21),qg 19 false (ql 23 1 22),qg 19 false (qm 24 4),qg 19 false (qo .neq 25 23 24),qQ 26 19 25]
@[go_sem] def c_partition_right_r5 : LL := [qb 2 false]
@[go_sem] def c_partition_right_r6 : LL := [qk .add 27 7 1,qm 7 27]
def c_partition_right_b7 : LC := (.seq (.reg c_partition_right_r2 [0,5,6,7,8]) (.seq (.cond (.t 8) .skip (.exit 0)) (.seq (.block 1 (.seq (.reg c_partition_right_r3 [0,3,4,5,6,7]) (.seq (.reg c_partition_right_r4 [0,5,6,7,26]) (.cond (.t 26) (.seq (.reg c_partition_right_r5 [2]) .ret) .skip)))) (.reg c_partition_right_r6 [0,5,6,7]))))
@[go_sem] def c_partition_right_r8 : LL := [qb 2 true]
@[go_sem] def c_partition_right (F : Fn) : LC := (.seq (.reg c_partition_right_r0 [0]) (.seq (.seq (.reg c_partition_right_r1 [0,5,6,7]) (.block 0 (.loop [0,5,6,7] c_partition_right_b7))) (.seq (.reg c_partition_right_r8 [2]) .ret)))
def h_partition_right : Hints := hOf [] (c_partition_right fun _ => 0)
@[go_sem] def c_partition_one_r0 : LL := [qi 2 0]
@[go_sem] def c_partition_one_r1 : LL := [qm 3 0,qz 4 3,qk .gtr 5 4 80]
@[go_sem] def c_partition_one_r2 : LL := [qi 2 3]
@[go_sem] def c_partition_one_r3 (F : Fn) : LL := [qm 6 0,qc 7 (F "partition.right") [.t 6],qv 8 7]
@[go_sem] def c_partition_one_r4 : LL := [qi 2 1]
@[go_sem] def c_partition_one_r5 : LL := [qi 2 0]
@[go_sem] def c_partition_one (F : Fn) : LC := (.seq (.reg c_partition_one_r0 [0]) (.seq (.seq (.reg c_partition_one_r1 [0,5]) (.cond (.t 5) (.seq (.reg c_partition_one_r2 [2]) .ret) .skip)) (.seq (.seq (.reg (c_partition_one_r3 F) [8]) (.cond (.t 8) (.seq (.reg c_partition_one_r4 [2]) .ret) .skip)) (.seq (.reg c_partition_one_r5 [2]) .ret))))
def h_partition_one : Hints := hOf [] (c_partition_one fun _ => 0)
@[go_sem] def c_partition_Quotient_r0 : LL := [qn 2 1,qi 3 0,qi 4 0]
@[go_sem] def c_partition_Quotient_r1 (F : Fn) : LL := [qm 10 0,qc 11 (F "partition.one") [.t 10],qm 5 11]
@[go_sem] def c_partition_Quotient_r2 : LL := [qm 12 5,qk .neq 13 12 0]
@[go_sem] def c_partition_Quotient_r3 : LL := [qm 14 5,qn 2 1,qi 3 0,qm 4 14]
@[go_sem] def c_partition_Quotient_r4 : LL := [qn 6 1]
@[go_sem] def c_partition_Quotient_r5 : LL := [qi 7 0]
@[go_sem] def c_partition_Quotient_r6 : LL := [qm 15 0,qz 16 15,qi 17 0]
@[go_sem] def c_partition_Quotient_r7 : LL := [qo .lss 18 17 16]
@[go_sem] def c_partition_Quotient_r8 : LL := [qm 19 17,qd 20 1 15 17,ql 21 1 20,qm 8 19,qm 9 21]
@[go_sem] def c_partition_Quotient_r9 : LL := [qm 22 9,qm 23 8,qo .eql 24 22 23]
@[go_sem] def c_partition_Quotient_r10 : LL := [qm 25 6,qm 26 7,⟨some 27,.buildSl 1 8 (.int .i64 (0)) 1 [(0,.t 26)],none⟩,qp 28 1 8 25 27,qm 6 28]
@[go_sem] def c_partition_Quotient_r11 : LL := [qm 29 7,qk .add 30 29 1,qm 7 30]
@[go_sem] def c_partition_Quotient_r12 : LL := [qm 31 6,qm 32 6,qm 33 9,qd 34 1 32 33,ql 35 1 34,⟨some 36,.buildSl 1 8 (.int .i64 (0)) 1 [(0,.t 35)],none⟩,qp 37 1 8 31 36,qm 6 37]
@[go_sem] def c_partition_Quotient_r13 : LL := [qk .add 38 17 1,qm 17 38]
def c_partition_Quotient_b14 : LC := (.seq (.reg c_partition_Quotient_r7 [6,7,15,16,17,18]) (.seq (.cond (.t 18) .skip (.exit 0)) (.seq (.block 1 (.seq (.reg c_partition_Quotient_r8 [6,7,8,9,15,16,17]) (.seq (.reg c_partition_Quotient_r9 [6,7,9,15,16,17,24]) (.cond (.t 24) (.seq (.reg c_partition_Quotient_r10 [6,7,15,16,17]) (.reg c_partition_Quotient_r11 [6,7,15,16,17])) (.reg c_partition_Quotient_r12 [6,7,15,16,17]))))) (.reg c_partition_Quotient_r13 [6,7,15,16,17]))))
@[go_sem] def c_partition_Quotient_r15 : LL := [qm 39 6,qm 40 7,qm 2 39,qm 3 40,qi 4 0]
@[go_sem] def c_partition_Quotient (F : Fn) : LC := (.seq (.reg c_partition_Quotient_r0 [0]) (.seq (.seq (.reg (c_partition_Quotient_r1 F) [0,5]) (.seq (.reg c_partition_Quotient_r2 [0,5,13]) (.cond (.t 13) (.seq (.reg c_partition_Quotient_r3 [2,3,4]) .ret) .skip))) (.seq (.reg c_partition_Quotient_r4 [0,6]) (.seq (.reg c_partition_Quotient_r5 [0,6,7]) (.seq (.seq (.reg c_partition_Quotient_r6 [6,7,15,16,17]) (.block 0 (.loop [6,7,15,16,17] c_partition_Quotient_b14))) (.seq (.reg c_partition_Quotient_r15 [2,3,4]) .ret))))))
def h_partition_Quotient : Hints := hOf [] (c_partition_Quotient fun _ => 0)
section
variable (P : Program) (F : String → Nat)
def K_partition_root : Prop := ∀ (p r : List Int) (i : Nat), Fo p r → p.length ≤ 1000 → i < p.length → FC P (F "partition.root") [.lst 1 (ints p), .int .i64 i] (.int .i64 (gt r i)) []
def K_partition_unite : Prop := ∀ (p r : List Int) (a b : Nat), Fo p r → p.length ≤ 1000 → a < p.length → b < p.length → FC P (F "partition.unite") [.arr 1 (ints p), .int .i64 a, .int .i64 b] (.tup []) [(0, .arr 1 (ints (p.set (max (gt r a) (gt r b)).toNat (min (gt r a) (gt r b)))))]
def K_partition_finest : Prop := ∀ n : Nat, n ≤ 1000000 → FC P (F "partition.finest") [.int .i64 n] (.arr 1 (ints (nums 0 n))) []
def K_partition_flat : Prop := ∀ p r : List Int, Fo p r → p.length ≤ 1000 → FC P (F "partition.flat") [.arr 1 (ints p)] (.arr 1 (ints r)) []
def K_partition_Generate : Prop := ∀ (n : Nat) (l : List Pr), n ≤ 80 → l.length ≤ 1000 → PrIn n l → FC P (F "partition.Generate") [.int .i64 n, .lst 2 (prs l)] (.tup [.arr 1 (ints (genL n l)), .int .i64 0]) []
def K_partition_right : Prop := ∀ p : List Int, Idem p → p.length ≤ 80 → FC P (F "partition.right") [.lst 1 (ints p)] (.bool true) []
def K_partition_one : Prop := ∀ p : List Int, Idem p → p.length ≤ 80 → FC P (F "partition.one") [.lst 1 (ints p)] (.int .i64 0) []
def K_partition_Quotient : Prop := ∀ p : List Int, Idem p → p.length ≤ 80 → FC P (F "partition.Quotient") [.lst 1 (ints p)] (.tup [.arr 1 (ints (quo p p.length).1), .int .i64 (quo p p.length).2, .int .i64 0]) []
end
section
variable {P : Program} {F : String → Nat} {α : Type}
theorem w_partition_root (p r : List Int) (i : Nat) (h : Fo p r) (hl : p.length ≤ 1000) (hi : i < p.length) : W P (c_partition_root F) (Done [.t 4] [] (.int .i64 (gt r i)) []) (init [.lst 1 (ints p), .int .i64 i]) := by
 refine W_of ?_
 simp (disch := omega) only [go_sem, ↓reduceIte]
 refine W_loop (fun k : Nat => ⟨[(0, .lst 1 (ints p)), (1, .int .i64 k)], [], 0⟩) (fun k => k < p.length ∧ gt r k = gt r i) (fun k => k) i ?_ ?_ ?_
 ·simp (disch := omega) only [go_sem, ↓reduceIte]
  try rfl
 ·exact ⟨hi, rfl⟩
 ·rintro k ⟨h1, h2⟩
  obtain ⟨b1, b2⟩ := h.b k h1
  obtain ⟨m, hm⟩ := natI b1
  have hs := h.s k h1
  have ht := h.t k h1
  simp (disch := omega) only [go_sem, ↓reduceIte, c_partition_root_b3]
  refine bran_ndec (fun c => ?_) (fun c => ?_)
  ·rw [hm] at c hs b2
   simp (disch := omega) only [go_sem, ↓reduceIte]
   exact ⟨m, by rw [hm], ⟨by omega, by rw [hs, h2]⟩, by omega⟩
  ·simp (disch := omega) only [go_sem, ↓reduceIte]
   rw [← h2, ht c]
theorem w_partition_unite (hr : K_partition_root P F) (p r : List Int) (a b : Nat) (h : Fo p r) (hl : p.length ≤ 1000) (ha : a < p.length) (hb : b < p.length) :
  W P (c_partition_unite F) (Done [] [0] (.tup []) [(0, .arr 1 (ints (p.set (max (gt r a) (gt r b)).toNat (min (gt r a) (gt r b)))))]) (init [.arr 1 (ints p), .int .i64 a, .int .i64 b]) := by
 refine W_of ?_
 have r1 := hr p r a h hl ha
 have r2 := hr p r b h hl hb
 have hlo : min (gt r a) (gt r b) = if gt r b < gt r a then gt r b else gt r a := by rw [Int.min_def]; split <;> split <;> omega
 have hhi : max (gt r a) (gt r b) = if gt r a < gt r b then gt r b else gt r a := by rw [Int.max_def]; split <;> split <;> omega
 have hb1 : 0 ≤ max (gt r a) (gt r b) ∧ max (gt r a) (gt r b) < p.length := by
  obtain ⟨⟨a1, a2⟩, _⟩ := h.c a ha
  obtain ⟨⟨b1, b2⟩, _⟩ := h.c b hb
  omega
 rw [hhi] at hb1
 rw [hlo, hhi]
 clear hlo hhi
 simp (disch := omega) only [go_sem, ↓reduceIte]
 refine call_by r1 ?_
 simp (disch := omega) only [go_sem, ↓reduceIte]
 refine call_by r2 ?_
 simp (disch := omega) only [go_sem, ↓reduceIte]
theorem w_partition_finest (n : Nat) (hn : n ≤ 1000000) : W P (c_partition_finest F) (Done [.t 2] [] (.arr 1 (ints (nums 0 n))) []) (init [.int .i64 n]) := by
 refine W_of ?_
 simp (config := { maxSteps := 1000000 }) (disch := first | omega | (simp only [go_sem]; omega)) only [go_sem, ↓reduceIte]
 refine W_loop (fun i : Nat => ⟨[(3, .sl 0 0 n), (8, .int .i64 n), (9, .int .i64 i)], [(0, .arr 1 (ints (nums 0 i ++ List.replicate (n - i) 0)))], 1⟩) (fun i => i ≤ n) (fun i => n - i) 0 ?_ ?_ ?_
 ·simp (config := { maxSteps := 1000000 }) (disch := first | omega | (simp only [go_sem]; omega)) only [go_sem, ↓reduceIte, nums_zero]
  rfl
 ·omega
 ·intro i hi
  have hl := nums_len 0 i
  simp (config := { maxSteps := 1000000 }) (disch := first | omega | (simp only [go_sem]; omega)) only [go_sem, ↓reduceIte, c_partition_finest_b7]
  refine bran_dec (fun c => ?_) (fun c => ?_)
  ·have hf : (nums 0 i ++ List.replicate (n - i) 0).set i (i : Int) = nums 0 (i + 1) ++ List.replicate (n - (i + 1)) 0 := by
    have := fillL (nums 0 i) (i : Int) 0 (n - (i + 1))
    rw [hl, show n - (i + 1) + 1 = n - i by omega] at this
    rw [this, nums_succ]
    simp
   simp (config := { maxSteps := 1000000 }) (disch := first | omega | (simp only [go_sem]; omega)) only [go_sem, ↓reduceIte, hl, hf]
   exact ⟨i + 1, by simp, by omega, by omega⟩
  ·obtain rfl : i = n := by omega
   simp (config := { maxSteps := 1000000 }) (disch := first | omega | (simp only [go_sem]; omega)) only [go_sem, ↓reduceIte, hl]
   simp
theorem w_partition_flat (hr : K_partition_root P F) (p r : List Int) (h : Fo p r) (hl : p.length ≤ 1000) : W P (c_partition_flat F) (Done [.t 2] [] (.arr 1 (ints r)) []) (init [.arr 1 (ints p)]) := by
 refine W_of ?_
 have hlr := h.l
 generalize hn : p.length = n at *
 simp (disch := omega) only [go_sem, ↓reduceIte, hn]
 refine W_loop (fun s : Nat × List Int => ⟨[(0, .sl 0 0 n), (5, .int .i64 n), (6, .int .i64 s.1)], [(0, .arr 1 (ints s.2))], 1⟩) (fun s => s.1 ≤ n ∧ s.2.length = n ∧ Fo s.2 r ∧ ∀ j : Nat, j < s.1 → gt s.2 j = gt r j) (fun s => n - s.1) (0, p) ?_ ?_ ?_
 ·simp (disch := omega) only [go_sem, ↓reduceIte, hn]
  rfl
 ·exact ⟨by omega, hn, h, fun j hj => by omega⟩
 ·rintro ⟨i, q⟩ ⟨h1, h2, h3, h4⟩
  simp only at h1 h2 h3 h4
  by_cases c : i < n
  ·have g1 : decide ((i : Int) < n) = true := decide_eq_true (by omega)
   have r1 := hr q r i h3 (by omega) (by omega)
   simp (disch := omega) only [go_sem, ↓reduceIte, c_partition_flat_b6, g1, h2]
   refine call_by r1 ?_
   simp (disch := omega) only [go_sem, ↓reduceIte, h2]
   refine ⟨(i + 1, q.set i (gt r i)), by simp, ⟨by simp only; omega, by simp [h2], h3.flat (by omega), fun j hj => ?_⟩, by simp only; omega⟩
   simp only
   rw [gt_setS (by omega)]
   split
   ·rename_i e; subst e; rfl
   ·simp only at hj; exact h4 j (by omega)
  ·have g1 : decide ((i : Int) < n) = false := decide_eq_false (by omega)
   have e : q = r := list_ext_gt (by omega) fun j hj => h4 j (by omega)
   subst e
   simp (disch := omega) only [go_sem, ↓reduceIte, c_partition_flat_b6, g1, h2]
theorem w_partition_Generate (hf : K_partition_finest P F) (hu : K_partition_unite P F) (hfl : K_partition_flat P F) (n : Nat) (l : List Pr) (hn : n ≤ 80) (hl : l.length ≤ 1000) (hp : PrIn n l) :
  W P (c_partition_Generate F) (Done [.t 4, .t 5] [] (.tup [.arr 1 (ints (genL n l)), .int .i64 0]) []) (init [.int .i64 n, .lst 2 (prs l)]) := by
 refine W_of ?_
 have d1 : decide ((80 : Int) < n) = false := decide_eq_false (by omega)
 have d2 : decide ((n : Int) < 0) = false := decide_eq_false (by omega)
 have r1 := hf n (by omega)
 have nl := nums_len 0 n
 simp (disch := omega) only [go_sem, ↓reduceIte, d1, d2]
 refine call_by r1 ?_
 simp (disch := omega) only [go_sem, ↓reduceIte, nl]
 refine W_loop (fun s : Nat × List Int => ⟨[(0, .int .i64 n), (6, .sl 0 0 n), (15, .lst 2 (prs l)), (16, .int .i64 l.length), (17, .int .i64 s.1)], [(0, .arr 1 (ints s.2))], 1⟩) (fun s => s.1 ≤ l.length ∧ s.2.length = n ∧ Fo s.2 (genI n l s.1)) (fun s => l.length - s.1) (0, nums 0 n) ?_ ?_ ?_
 ·simp (disch := omega) only [go_sem, ↓reduceIte, nl]
  rfl
 ·exact ⟨by simp, nl, nums_Fo n⟩
 ·rintro ⟨i, q⟩ ⟨h1, h2, h3⟩
  simp only at h1 h2 h3
  by_cases c : i < l.length
  ·have g1 : decide ((i : Int) < l.length) = true := decide_eq_true (by omega)
   obtain ⟨⟨a1, a2⟩, b1, b2⟩ := hp i c
   have hs : genI n l (i + 1) = mergeL (genI n l i) (gt l i).a (gt l i).b := rfl
   generalize hgi : genI n l (i + 1) = gi' at *
   generalize genI n l i = gi at *
   obtain ⟨a, ha⟩ := natI a1
   obtain ⟨b, hb⟩ := natI b1
   rw [ha, hb] at hs
   rw [ha] at a1 a2
   rw [hb] at b1 b2
   have r2 := hu q gi a b h3 (by omega) (by omega) (by omega)
   have e1 : decide ((a : Int) < 0) = false := decide_eq_false (by omega)
   have e2 : decide ((n : Int) ≤ a) = false := decide_eq_false (by omega)
   have e3 : decide ((b : Int) < 0) = false := decide_eq_false (by omega)
   have e4 : decide ((n : Int) ≤ b) = false := decide_eq_false (by omega)
   have hf2 := h3.unite (a := a) (b := b) (by omega) (by omega)
   rw [← hs] at hf2
   clear hs
   generalize hq : q.set (max (gt gi a) (gt gi b)).toNat (min (gt gi a) (gt gi b)) = q' at *
   have ql : q'.length = n := by rw [← hq, List.length_set, h2]
   simp (disch := omega) only [go_sem, ↓reduceIte, c_partition_Generate_b13, g1, ha, hb, e1, e2, e3, e4, h2]
   refine call_by r2 ?_
   simp (disch := omega) only [go_sem, ↓reduceIte, h2, ql]
   exact ⟨(i + 1, q'), by simp, ⟨by simp only; omega, ql, by show Fo q' (genI n l (i + 1)); rw [hgi]; exact hf2⟩, by simp only; omega⟩
  ·have g1 : decide ((i : Int) < l.length) = false := decide_eq_false (by omega)
   obtain rfl : i = l.length := by omega
   have gl := gen_len (n := n) (l := l) l.length
   have r2 := hfl q _ h3 (by omega)
   have hE : genL n l = genI n l l.length := rfl
   rw [hE]
   generalize genI n l l.length = gi at *
   simp (disch := omega) only [go_sem, ↓reduceIte, c_partition_Generate_b13, g1, h2]
   refine call_by r2 ?_
   simp (disch := omega) only [go_sem, ↓reduceIte, gl]
theorem w_partition_right (p : List Int) (hp : Idem p) (hl : p.length ≤ 80) : W P (c_partition_right F) (Done [.t 2] [] (.bool true) []) (init [.lst 1 (ints p)]) := by
 refine W_of ?_
 simp (disch := omega) only [go_sem, ↓reduceIte]
 refine W_loop (fun i : Nat => ⟨[(0, .lst 1 (ints p)), (5, .lst 1 (ints p)), (6, .int .i64 p.length), (7, .int .i64 i)], [], 0⟩) (fun i => i ≤ p.length) (fun i => p.length - i) 0 ?_ ?_ ?_
 ·simp (disch := omega) only [go_sem, ↓reduceIte]
  rfl
 ·simp
 ·intro i hi
  by_cases c : i < p.length
  ·obtain ⟨⟨h1, h2⟩, h3⟩ := hp i c
   have g1 : decide ((i : Int) < p.length) = true := decide_eq_true (by omega)
   have g2 : decide (gt p i < 0) = false := decide_eq_false (by omega)
   have g3 : decide ((i : Int) < gt p i) = false := decide_eq_false (by omega)
   have g4 : decide (gt p (gt p i) = gt p i) = true := decide_eq_true h3
   simp (disch := omega) only [go_sem, ↓reduceIte, c_partition_right_b7, g1, g2, g3, g4]
   exact ⟨i + 1, by simp, by omega, by omega⟩
  ·have g1 : decide ((i : Int) < p.length) = false := decide_eq_false (by omega)
   simp (disch := omega) only [go_sem, ↓reduceIte, c_partition_right_b7, g1]
theorem w_partition_one (hr : K_partition_right P F) (p : List Int) (hp : Idem p) (hl : p.length ≤ 80) : W P (c_partition_one F) (Done [.t 2] [] (.int .i64 0) []) (init [.lst 1 (ints p)]) := by
 refine W_of ?_
 have r := hr p hp hl
 have g0 : decide ((80 : Int) < p.length) = false := decide_eq_false (by omega)
 simp (disch := omega) only [go_sem, ↓reduceIte, g0]
 refine call_by r ?_
 simp (disch := omega) only [go_sem, ↓reduceIte]
theorem w_partition_Quotient (ho : K_partition_one P F) (p : List Int) (hp : Idem p) (hl : p.length ≤ 80) : W P (c_partition_Quotient F) (Done [.t 2, .t 3, .t 4] [] (.tup [.arr 1 (ints (quo p p.length).1), .int .i64 (quo p p.length).2, .int .i64 0]) []) (init [.lst 1 (ints p)]) := by
 refine W_of ?_
 have r := ho p hp hl
 have ql : ∀ i : Nat, (quo p i).1.length = i ∧ (quo p i).2 ≤ i := fun i => by
  induction i with
  | zero => simp [quo]
  | succ i ih =>
   rw [quo]
   split <;> simp [ih.1] <;> omega
 simp (disch := omega) only [go_sem, ↓reduceIte]
 refine call_by r ?_
 simp (disch := omega) only [go_sem, ↓reduceIte]
 refine W_loop (fun i : Nat => ⟨[(6, .sl 0 0 i), (7, .int .i64 (quo p i).2), (15, .lst 1 (ints p)), (16, .int .i64 p.length), (17, .int .i64 i)], [(0, .arr 1 (ints (quo p i).1))], 1⟩) (fun i => i ≤ p.length) (fun i => p.length - i) 0 ?_ ?_ ?_
 ·simp (disch := omega) only [go_sem, ↓reduceIte, ints_nil, quo]
  rfl
 ·simp
 ·intro i hi
  obtain ⟨e1, e2⟩ := ql i
  have hs : quo p (i + 1) = if gt p i = i then ((quo p i).1 ++ [((quo p i).2 : Int)], (quo p i).2 + 1) else ((quo p i).1 ++ [gt (quo p i).1 (gt p i)], (quo p i).2) := rfl
  simp (disch := omega) only [go_sem, ↓reduceIte, c_partition_Quotient_b14]
  refine bran_dec (fun c => ?_) (fun c => ?_)
  ·obtain ⟨⟨h1, h2⟩, h3⟩ := hp i (by omega)
   simp (disch := omega) only [go_sem, ↓reduceIte]
   refine bran_dec (fun d => ?_) (fun d => ?_)
   ·rw [if_pos d] at hs
    simp (disch := omega) only [go_sem, ↓reduceIte, e1]
    exact ⟨i + 1, by simp [hs], by omega, by omega⟩
   ·rw [if_neg d] at hs
    simp (disch := omega) only [go_sem, ↓reduceIte, e1]
    exact ⟨i + 1, by simp [hs], by omega, by omega⟩
  ·obtain rfl : i = p.length := by omega
   simp (disch := omega) only [go_sem, ↓reduceIte, e1]
end
@[go_sem] def c_pushout_quotient_r0 : LL := [qB 3 0,qa 6 [.nl 1,.nl 3],qa 7 [.nl 1,.nl 1],qi 8 0]
@[go_sem] def c_pushout_quotient_r1 (F : Fn) : LL := [qf 25 0 3,ql 26 1 25,qz 27 26,qm 28 1,qc 29 (F "partition.Generate") [.t 27,.t 28],qm 24 29,qx 30 24 0,qx 31 24 1,qm 9 30,qm 10 31]
@[go_sem] def c_pushout_quotient_r2 : LL := [qm 32 10,qk .neq 33 32 0]
@[go_sem] def c_pushout_quotient_r3 : LL := [qu 34 [.nl 1,.nl 3] [],qu 35 [.nl 1,.nl 1] [],qm 36 10,qs 2 6 34,qs 2 7 35,qm 8 36]
@[go_sem] def c_pushout_quotient_r4 (F : Fn) : LL := [qf 38 1 3,ql 39 1 38,qz 40 39,qm 41 2,qc 42 (F "partition.Generate") [.t 40,.t 41],qm 37 42,qx 43 37 0,qx 44 37 1,qm 11 43,qm 10 44]
@[go_sem] def c_pushout_quotient_r5 : LL := [qm 45 10,qk .neq 46 45 0]
@[go_sem] def c_pushout_quotient_r6 : LL := [qu 47 [.nl 1,.nl 3] [],qu 48 [.nl 1,.nl 1] [],qm 49 10,qs 2 6 47,qs 2 7 48,qm 8 49]
@[go_sem] def c_pushout_quotient_r7 (F : Fn) : LL := [qm 51 9,qc 52 (F "partition.Quotient") [.t 51],qm 50 52,qx 53 50 0,qx 54 50 1,qx 55 50 2,qm 12 53,qm 13 54,qm 14 55]
@[go_sem] def c_pushout_quotient_r8 (F : Fn) : LL := [qm 57 11,qc 58 (F "partition.Quotient") [.t 57],qm 56 58,qx 59 56 0,qx 60 56 1,qx 61 56 2,qm 15 59,qm 16 60,qm 17 61]
@[go_sem] def c_pushout_quotient_r9 : LL := [qa 18 [.nl 1,.nl 3]]
@[go_sem] def c_pushout_quotient_r10 : LL := [qm 62 9,qz 63 62,qi 64 0]
@[go_sem] def c_pushout_quotient_r11 : LL := [qo .lss 65 64 63]
@[go_sem] def c_pushout_quotient_r12 : LL := [qm 66 64,qd 67 1 62 64,ql 68 1 67,qm 19 66,qm 20 68]
@[go_sem] def c_pushout_quotient_r13 : LL := [qm 69 20,qm 70 19,qo .eql 71 69 70]
@[go_sem] def c_pushout_quotient_r14 : LL := [qf 72 0 18,ql 73 1 72,qf 74 0 3,ql 75 1 74,qm 76 19,qd 77 1 75 76,ql 78 1 77,⟨some 79,.buildSl 1 8 (.int .i64 (0)) 1 [(0,.t 78)],none⟩,qp 80 1 8 73 79,qf 81 0 18,qs 1 81 80]
@[go_sem] def c_pushout_quotient_r15 : LL := [qk .add 82 64 1,qm 64 82]
def c_pushout_quotient_b16 : LC := (.seq (.reg c_pushout_quotient_r11 [3,6,7,11,12,15,18,62,63,64,65]) (.seq (.cond (.t 65) .skip (.exit 0)) (.seq (.block 1 (.seq (.reg c_pushout_quotient_r12 [3,6,7,11,12,15,18,19,20,62,63,64]) (.seq (.reg c_pushout_quotient_r13 [3,6,7,11,12,15,18,19,62,63,64,71]) (.cond (.t 71) (.dreg [(1,none,[],true),(7,none,[1],false)] c_pushout_quotient_r14 [3,6,7,11,12,15,18,62,63,64]) .skip)))) (.reg c_pushout_quotient_r15 [3,6,7,11,12,15,18,62,63,64]))))
@[go_sem] def c_pushout_quotient_r17 : LL := [qm 83 11,qz 84 83,qi 85 0]
@[go_sem] def c_pushout_quotient_r18 : LL := [qo .lss 86 85 84]
@[go_sem] def c_pushout_quotient_r19 : LL := [qm 87 85,qd 88 1 83 85,ql 89 1 88,qm 21 87,qm 22 89]
@[go_sem] def c_pushout_quotient_r20 : LL := [qm 90 22,qm 91 21,qo .eql 92 90 91]
@[go_sem] def c_pushout_quotient_r21 : LL := [qf 93 1 3,ql 94 1 93,qm 95 21,qd 96 3 94 95,qL 97 3 96,qa 23 [.int .i64 (0),.int .i64 (0),.int .i64 (0)],qs 3 23 97]
@[go_sem] def c_pushout_quotient_r22 : LL := [qf 98 1 18,ql 99 1 98,qf 100 0 23,ql 101 1 100,qm 102 12,qf 103 1 23,ql 104 1 103,qd 105 1 102 104,ql 106 1 105,qm 107 12,qf 108 2 23,ql 109 1 108,qd 110 1 107 109,ql 111 1 110,
 qu 112 [.int .i64 (0),.int .i64 (0),.int .i64 (0)] [(0,1,.t 101),(1,1,.t 106),(2,1,.t 111)],
 ⟨some 113,.buildSl 3 24 (.agg [.int .i64 (0),.int .i64 (0),.int .i64 (0)]) 1 [(0,.t 112)],none⟩,qp 114 3 24 99 113,qf 115 1 18,qs 1 115 114]
@[go_sem] def c_pushout_quotient_r23 : LL := [qk .add 116 85 1,qm 85 116]
def c_pushout_quotient_b24 : LC := (.seq (.reg c_pushout_quotient_r18 [3,6,7,12,15,18,83,84,85,86]) (.seq (.cond (.t 86) .skip (.exit 2)) (.seq (.block 3 (.seq (.reg c_pushout_quotient_r19 [3,6,7,12,15,18,21,22,83,84,85]) (.seq (.reg c_pushout_quotient_r20 [3,6,7,12,15,18,21,83,84,85,92]) (.cond (.t 92) (.seq (.reg c_pushout_quotient_r21 [3,6,7,12,15,18,23,83,84,85]) (.dreg [(1,none,[],true),(15,none,[1],false)] c_pushout_quotient_r22 [3,6,7,12,15,18,83,84,85])) .skip)))) (.reg c_pushout_quotient_r23 [3,6,7,12,15,18,83,84,85]))))
@[go_sem] def c_pushout_quotient_r25 : LL := [qL 117 2 18,qm 118 12,qm 119 15,qu 120 [.nl 1,.nl 1] [(0,1,.t 118),(1,1,.t 119)],qs 2 6 117,qs 2 7 120,qi 8 0]
@[go_sem] def c_pushout_quotient (F : Fn) : LC := (.seq (.reg c_pushout_quotient_r0 [1,2,3,6,7]) (.seq (.reg (c_pushout_quotient_r1 F) [2,3,6,7,9,10]) (.seq (.seq (.reg c_pushout_quotient_r2 [2,3,6,7,9,10,33]) (.cond (.t 33) (.seq (.reg c_pushout_quotient_r3 [6,7,8]) .ret) .skip)) (.seq (.reg (c_pushout_quotient_r4 F) [3,6,7,9,10,11]) (.seq (.seq (.reg c_pushout_quotient_r5 [3,6,7,9,10,11,46]) (.cond (.t 46) (.seq (.reg c_pushout_quotient_r6 [6,7,8]) .ret) .skip)) (.seq (.reg (c_pushout_quotient_r7 F) [3,6,7,9,11,12]) (.seq (.reg (c_pushout_quotient_r8 F) [3,6,7,9,11,12,15]) (.seq (.reg c_pushout_quotient_r9 [3,6,7,9,11,12,15,18]) (.seq (.seq (.reg c_pushout_quotient_r10 [3,6,7,11,12,15,18,62,63,64]) (.block 0 (.loop [3,6,7,11,12,15,18,62,63,64] c_pushout_quotient_b16))) (.seq (.seq (.reg c_pushout_quotient_r17 [3,6,7,12,15,18,83,84,85]) (.block 2 (.loop [3,6,7,12,15,18,83,84,85] c_pushout_quotient_b24))) (.seq (.reg c_pushout_quotient_r25 [6,7,8]) .ret)))))))))))
def h_pushout_quotient : Hints := hOf [] (c_pushout_quotient fun _ => 0)
@[go_sem] def c_pushout_pairs_r0 : LL := [qn 8 2]
@[go_sem] def c_pushout_pairs_r1 : LL := [qn 9 2]
@[go_sem] def c_pushout_pairs_r2 : LL := [qm 11 0,qz 12 11,qi 13 0]
@[go_sem] def c_pushout_pairs_r3 : LL := [qo .lss 14 13 12]
@[go_sem] def c_pushout_pairs_r4 : LL := [qm 15 13,qm 10 15]
@[go_sem] def c_pushout_pairs_r5 : LL := [qm 16 9,qm 17 2,qm 18 0,qm 19 10,qd 20 1 18 19,ql 21 1 20,qd 22 1 17 21,ql 23 1 22,qm 24 3,qm 25 1,qm 26 10,qd 27 1 25 26,ql 28 1 27,qd 29 1 24 28,ql 30 1 29,
 qu 31 [.int .i64 (0),.int .i64 (0)] [(0,1,.t 23),(1,1,.t 30)],⟨some 32,.buildSl 2 16 (.agg [.int .i64 (0),.int .i64 (0)]) 1 [(0,.t 31)],none⟩,qp 33 2 16 16 32,qm 9 33]
@[go_sem] def c_pushout_pairs_r6 : LL := [qk .add 34 13 1,qm 13 34]
def c_pushout_pairs_b7 : LC := (.seq (.reg c_pushout_pairs_r3 [0,1,2,3,9,12,13,14]) (.seq (.cond (.t 14) .skip (.exit 0)) (.seq (.block 1 (.seq (.reg c_pushout_pairs_r4 [0,1,2,3,9,10,12,13]) (.dreg [] c_pushout_pairs_r5 [0,1,2,3,9,12,13]))) (.reg c_pushout_pairs_r6 [0,1,2,3,9,12,13]))))
@[go_sem] def c_pushout_pairs_r8 : LL := [qm 35 9,qm 8 35]
@[go_sem] def c_pushout_pairs (F : Fn) : LC := (.seq (.reg c_pushout_pairs_r0 [0,1,2,3]) (.seq (.reg c_pushout_pairs_r1 [0,1,2,3,9]) (.seq (.seq (.reg c_pushout_pairs_r2 [0,1,2,3,9,12,13]) (.block 0 (.loop [0,1,2,3,9,12,13] c_pushout_pairs_b7))) (.seq (.reg c_pushout_pairs_r8 [8]) .ret))))
def h_pushout_pairs : Hints := hOf [] (c_pushout_pairs fun _ => 0)
@[go_sem] def c_pushout_follow_r0 : LL := [qn 4 1]
@[go_sem] def c_pushout_follow_r1 : LL := [qm 8 0,qz 9 8,⟨some 10,.makeSl 1 8 (.int .i64 (0)) (.t 9),none⟩,qm 5 10]
@[go_sem] def c_pushout_follow_r2 : LL := [qm 11 0,qz 12 11,qi 13 0]
@[go_sem] def c_pushout_follow_r3 : LL := [qo .lss 14 13 12]
@[go_sem] def c_pushout_follow_r4 : LL := [qm 15 13,qd 16 1 11 13,ql 17 1 16,qm 6 15,qm 7 17]
@[go_sem] def c_pushout_follow_r5 : LL := [qm 18 5,qm 19 6,qm 20 1,qm 21 7,qd 22 1 20 21,ql 23 1 22,qd 24 1 18 19,qs 1 24 23]
@[go_sem] def c_pushout_follow_r6 : LL := [qk .add 25 13 1,qm 13 25]
def c_pushout_follow_b7 : LC := (.seq (.reg c_pushout_follow_r3 [1,5,11,12,13,14]) (.seq (.cond (.t 14) .skip (.exit 0)) (.seq (.block 1 (.seq (.reg c_pushout_follow_r4 [1,5,6,7,11,12,13]) (.reg c_pushout_follow_r5 [1,5,11,12,13]))) (.reg c_pushout_follow_r6 [1,5,11,12,13]))))
@[go_sem] def c_pushout_follow_r8 : LL := [qm 26 5,qm 4 26]
@[go_sem] def c_pushout_follow (F : Fn) : LC := (.seq (.reg c_pushout_follow_r0 [0,1]) (.seq (.reg c_pushout_follow_r1 [0,1,5]) (.seq (.seq (.reg c_pushout_follow_r2 [1,5,11,12,13]) (.block 0 (.loop [1,5,11,12,13] c_pushout_follow_b7))) (.seq (.reg c_pushout_follow_r8 [4]) .ret))))
def h_pushout_follow : Hints := hOf [] (c_pushout_follow fun _ => 0)
@[go_sem] def c_pushout_then_r0 : LL := [qB 2 0,qB 3 1,qa 4 [.nl 1,.nl 1]]
@[go_sem] def c_pushout_then_r1 (F : Fn) : LL := [qf 5 0 2,ql 6 1 5,qf 7 0 3,ql 8 1 7,qc 9 (F "pushout.follow") [.t 6,.t 8],qf 10 1 2,ql 11 1 10,qf 12 1 3,ql 13 1 12,qc 14 (F "pushout.follow") [.t 11,.t 13],qu 15 [.nl 1,.nl 1] [(0,1,.t 9),(1,1,.t 14)],
 qs 2 4 15]
@[go_sem] def c_pushout_then (F : Fn) : LC := (.seq (.reg c_pushout_then_r0 [2,3,4]) (.seq (.dreg [(4,none,[],true),(6,(some 32),[4],false),(8,(some 128),[4],false)] (c_pushout_then_r1 F) [4]) .ret))
def h_pushout_then : Hints := hOf [] (c_pushout_then fun _ => 0)
section
variable (P : Program) (F : String → Nat)
def K_pushout_quotient : Prop := ∀ (g : G) (ns es : List Pr), validG g = 0 → ns.length ≤ 1000 → es.length ≤ 1000 → PrIn g.n.length ns → PrIn g.e.length es → FC P (F "pushout.quotient") [gD g, .lst 2 (prs ns), .lst 2 (prs es)] (.tup [gA (quoG g (genL g.n.length ns) (genL g.e.length es)), mA (quoM (genL g.n.length ns) (genL g.e.length es)), .int .i64 0]) []
def K_pushout_pairs : Prop := ∀ (f g l r : List Int), f.length ≤ 1000 → g.length = f.length → (∀ x ∈ f, 0 ≤ x ∧ x < l.length) → (∀ x ∈ g, 0 ≤ x ∧ x < r.length) → FC P (F "pushout.pairs") [.lst 1 (ints f), .lst 1 (ints g), .lst 1 (ints l), .lst 1 (ints r)] (.arr 2 (prs (prL (thr f l) (thr g r) (thr f l).length))) []
def K_pushout_follow : Prop := ∀ l b : List Int, l.length ≤ 1000000 → (∀ x ∈ l, 0 ≤ x ∧ x < b.length) → FC P (F "pushout.follow") [.lst 1 (ints l), .lst 1 (ints b)] (.arr 1 (ints (thr l b))) []
def K_pushout_then : Prop := ∀ m n : Mo, m.n.length ≤ 1000000 → m.e.length ≤ 1000000 → (∀ x ∈ m.n, 0 ≤ x ∧ x < n.n.length) → (∀ x ∈ m.e, 0 ≤ x ∧ x < n.e.length) → FC P (F "pushout.then") [mD m, mD n] (mA (thenM m n)) []
end
section
variable {P : Program} {F : String → Nat} {α : Type}
theorem qN_le {α : Type} [Inhabited α] (l : List α) (p : List Int) : ∀ n : Nat, (qN l p n).length ≤ n
 | 0 => by simp [qN]
 | n + 1 => by rw [qN]; have := qN_le l p n; split <;> simp <;> omega
set_option maxRecDepth 100000 in
set_option maxHeartbeats 4000000 in
theorem w_pushout_quotient (hg : K_partition_Generate P F) (hq : K_partition_Quotient P F) (g : G) (ns es : List Pr) (hv : validG g = 0) (l1 : ns.length ≤ 1000) (l2 : es.length ≤ 1000) (p1 : PrIn g.n.length ns) (p2 : PrIn g.e.length es) :
  W P (c_pushout_quotient F) (Done [.c 6 true 2, .c 7 true 2, .t 8] [] (.tup [gA (quoG g (genL g.n.length ns) (genL g.e.length es)), mA (quoM (genL g.n.length ns) (genL g.e.length es)), .int .i64 0]) []) (init [gD g, .lst 2 (prs ns), .lst 2 (prs es)]) := by
 refine W_of ?_
 have vs := valid_spec hv
 have r1 := hg g.n.length ns (by omega) l1 p1
 have r2 := hg g.e.length es (by omega) l2 p2
 have i1 : Idem (genL g.n.length ns) := gen_idem p1 (Nat.le_refl _)
 have i2 : Idem (genL g.e.length es) := gen_idem p2 (Nat.le_refl _)
 have gl1 : (genL g.n.length ns).length = g.n.length := gen_len _
 have gl2 : (genL g.e.length es).length = g.e.length := gen_len _
 have r3 := hq _ i1 (by omega)
 have r4 := hq _ i2 (by omega)
 have q1 := quo_QS i1 _ (Nat.le_refl _)
 have q2 := quo_QS i2 _ (Nat.le_refl _)
 unfold quoG quoM
 generalize genL g.n.length ns = p at *
 generalize genL g.e.length es = r at *
 have hb1 := q1.b
 have hl1 := q1.l
 have hl2 := q2.l
 clear q1 q2
 rw [gl1] at r3 hb1 hl1 ⊢
 rw [gl2] at r4 hl2 ⊢
 generalize (quo p g.n.length).1 = q at *
 generalize (quo p g.n.length).2 = qc at *
 generalize (quo r g.e.length).1 = qe at *
 generalize (quo r g.e.length).2 = qec at *
 have hef : ∀ i : Nat, i < g.e.length → (0 ≤ (gt g.e i).f ∧ (gt g.e i).f < g.n.length) ∧ (0 ≤ (gt g.e i).o ∧ (gt g.e i).o < g.n.length) := fun i hi => (edge_fits hv (i := i) (by omega)).2
 have hr : ∀ i : Nat, i < g.e.length → gt (reE q g.e) i = ⟨(gt g.e i).t, gt q (gt g.e i).f, gt q (gt g.e i).o⟩ := fun i hi => reE_gt hi
 have hrl := reE_len q g.e
 generalize reE q g.e = re at *
 obtain ⟨gn, ge⟩ := g
 simp only [gD, gA, mA] at *
 simp (disch := omega) only [go_sem, ↓reduceIte]
 refine call_by r1 ?_
 simp (disch := omega) only [go_sem, ↓reduceIte, gl1]
 refine call_by r2 ?_
 simp (disch := omega) only [go_sem, ↓reduceIte, gl1, gl2]
 refine call_by r3 ?_
 simp (disch := omega) only [go_sem, ↓reduceIte, gl1, gl2, hl1]
 refine call_by r4 ?_
 simp (disch := omega) only [go_sem, ↓reduceIte, gl1, gl2, hl1, hl2]
 have lN := qN_le gn p
 refine W_loop (fun i : Nat => ⟨[(3, .pt 0 0), (6, .pt 3 0), (7, .pt 6 0), (11, .sl 7 0 ge.length), (12, .sl 8 0 gn.length), (15, .sl 9 0 ge.length), (18, .pt 12 0), (62, .sl 13 0 gn.length), (63, .int .i64 gn.length), (64, .int .i64 i)],
  [(0, .box [.lst 1 (ints gn), .lst 3 (eds ge)]), (1, .arr 1 []), (2, .arr 3 []), (3, .box [.sl 1 0 0, .sl 2 0 0]), (4, .arr 1 []), (5, .arr 1 []), (6, .box [.sl 4 0 0, .sl 5 0 0]), (7, .arr 1 (ints r)), (8, .arr 1 (ints q)), (9, .arr 1 (ints qe)),
   (10, .arr 1 (ints (qN gn p i))), (11, .arr 3 []), (12, .box [.sl 10 0 (qN gn p i).length, .sl 11 0 0]), (13, .arr 1 (ints p))], 14⟩) (fun i => i ≤ gn.length) (fun i => gn.length - i) 0 ?_ ?_ ?_
 ·simp (disch := omega) only [go_sem, ↓reduceIte, qN, gl1, gl2, hl1, hl2, ints_nil]
  rfl
 ·simp
 ·intro i hi
  have lNi := lN i
  by_cases c : i < gn.length
  ·have g1 : decide ((i : Int) < gn.length) = true := decide_eq_true (by omega)
   have hs : qN gn p (i + 1) = if gt p i = i then qN gn p i ++ [gt gn i] else qN gn p i := rfl
   by_cases d : gt p i = i
   ·have g2 : decide (gt p i = i) = true := decide_eq_true d
    rw [if_pos d] at hs
    simp (disch := omega) only [go_sem, ↓reduceIte, c_pushout_quotient_b16, g1, g2, gl1]
    exact ⟨i + 1, by simp [hs], by omega, by omega⟩
   ·have g2 : decide (gt p i = i) = false := decide_eq_false d
    rw [if_neg d] at hs
    simp (disch := omega) only [go_sem, ↓reduceIte, c_pushout_quotient_b16, g1, g2, gl1]
    exact ⟨i + 1, by simp [hs], by omega, by omega⟩
  ·have g1 : decide ((i : Int) < gn.length) = false := decide_eq_false (by omega)
   obtain rfl : i = gn.length := by omega
   simp (disch := omega) only [go_sem, ↓reduceIte, c_pushout_quotient_b16, g1, gl1, gl2, hl1, hl2]
   generalize qN gn p gn.length = on at *
   have lE := qN_le re r
   refine W_loop (fun i : Nat => ⟨[(3, .pt 0 0), (6, .pt 3 0), (7, .pt 6 0), (12, .sl 7 0 gn.length), (15, .sl 8 0 ge.length), (18, .pt 11 0), (83, .sl 12 0 ge.length), (84, .int .i64 ge.length), (85, .int .i64 i)],
    [(0, .box [.lst 1 (ints gn), .lst 3 (eds ge)]), (1, .arr 1 []), (2, .arr 3 []), (3, .box [.sl 1 0 0, .sl 2 0 0]), (4, .arr 1 []), (5, .arr 1 []), (6, .box [.sl 4 0 0, .sl 5 0 0]), (7, .arr 1 (ints q)), (8, .arr 1 (ints qe)),
     (9, .arr 1 (ints on)), (10, .arr 3 (eds (qN re r i))), (11, .box [.sl 9 0 on.length, .sl 10 0 (qN re r i).length]), (12, .arr 1 (ints r))], 13⟩) (fun i => i ≤ ge.length) (fun i => ge.length - i) 0 ?_ ?_ ?_
   ·simp (disch := omega) only [go_sem, ↓reduceIte, qN, gl1, gl2, hl1, hl2, ints_nil]
    rfl
   ·simp
   ·intro i hi
    have lEi := lE i
    by_cases c : i < ge.length
    ·have g1 : decide ((i : Int) < ge.length) = true := decide_eq_true (by omega)
     have hs : qN re r (i + 1) = if gt r i = i then qN re r i ++ [gt re i] else qN re r i := rfl
     rw [hr i c] at hs
     obtain ⟨⟨f1, f2⟩, o1, o2⟩ := hef i c
     by_cases d : gt r i = i
     ·have g2 : decide (gt r i = i) = true := decide_eq_true d
      rw [if_pos d] at hs
      simp (disch := omega) only [go_sem, ↓reduceIte, c_pushout_quotient_b24, g1, g2, gl2, hl1]
      exact ⟨i + 1, by simp [hs], by omega, by omega⟩
     ·have g2 : decide (gt r i = i) = false := decide_eq_false d
      rw [if_neg d] at hs
      simp (disch := omega) only [go_sem, ↓reduceIte, c_pushout_quotient_b24, g1, g2, gl2]
      exact ⟨i + 1, by simp [hs], by omega, by omega⟩
    ·have g1 : decide ((i : Int) < ge.length) = false := decide_eq_false (by omega)
     obtain rfl : i = ge.length := by omega
     simp (disch := omega) only [go_sem, ↓reduceIte, c_pushout_quotient_b24, g1, gl2, hl1, hl2]
     try rfl
theorem w_pushout_pairs (f g l r : List Int) (hf : f.length ≤ 1000) (hg : g.length = f.length) (h1 : ∀ x ∈ f, 0 ≤ x ∧ x < l.length) (h2 : ∀ x ∈ g, 0 ≤ x ∧ x < r.length) :
  W P (c_pushout_pairs F) (Done [.t 8] [] (.arr 2 (prs (prL (thr f l) (thr g r) (thr f l).length))) []) (init [.lst 1 (ints f), .lst 1 (ints g), .lst 1 (ints l), .lst 1 (ints r)]) := by
 refine W_of ?_
 have e1 := prL_len (thr f l) (thr g r)
 have e0 : prL (thr f l) (thr g r) 0 = [] := rfl
 have e2 : ∀ i : Nat, i < f.length → prL (thr f l) (thr g r) (i + 1) = prL (thr f l) (thr g r) i ++ [⟨gt l (gt f i), gt r (gt g i)⟩] := fun i hi => by rw [prL_succ, thr_gt hi, thr_gt (by omega)]
 rw [thr_len]
 generalize prL (thr f l) (thr g r) = pl at *
 simp (disch := omega) only [go_sem, ↓reduceIte]
 refine W_loop (fun i : Nat => ⟨[(0, .lst 1 (ints f)), (1, .lst 1 (ints g)), (2, .lst 1 (ints l)), (3, .lst 1 (ints r)), (9, .sl 0 0 i), (12, .int .i64 f.length), (13, .int .i64 i)], [(0, .arr 2 (prs (pl i)))], 1⟩) (fun i => i ≤ f.length) (fun i => f.length - i) 0 ?_ ?_ ?_
 ·simp (disch := omega) only [go_sem, ↓reduceIte, e0]
  rfl
 ·simp
 ·intro i hi
  have e1i := e1 i
  by_cases c : i < f.length
  ·have g1 : decide ((i : Int) < f.length) = true := decide_eq_true (by omega)
   have hx := h1 _ (gt_mem (l := f) (j := i) (by omega) (by omega))
   have hy := h2 _ (gt_mem (l := g) (j := i) (by omega) (by omega))
   simp (disch := omega) only [go_sem, ↓reduceIte, c_pushout_pairs_b7, g1, hg, e1i]
   exact ⟨i + 1, by simp [e2 i c], by omega, by omega⟩
  ·have g1 : decide ((i : Int) < f.length) = false := decide_eq_false (by omega)
   obtain rfl : i = f.length := by omega
   simp (disch := omega) only [go_sem, ↓reduceIte, c_pushout_pairs_b7, g1, e1i]
theorem w_pushout_follow (l b : List Int) (hl : l.length ≤ 1000000) (hb : ∀ x ∈ l, 0 ≤ x ∧ x < b.length) : W P (c_pushout_follow F) (Done [.t 4] [] (.arr 1 (ints (thr l b))) []) (init [.lst 1 (ints l), .lst 1 (ints b)]) := by
 refine W_of ?_
 simp (config := { maxSteps := 1000000 }) (disch := first | omega | (simp only [go_sem]; omega)) only [go_sem, ↓reduceIte]
 refine W_loop (fun i : Nat => ⟨[(1, .lst 1 (ints b)), (5, .sl 0 0 l.length), (11, .lst 1 (ints l)), (12, .int .i64 l.length), (13, .int .i64 i)], [(0, .arr 1 (ints (thr (l.take i) b ++ List.replicate (l.length - i) 0)))], 1⟩) (fun i => i ≤ l.length) (fun i => l.length - i) 0 ?_ ?_ ?_
 ·simp (config := { maxSteps := 1000000 }) (disch := first | omega | (simp only [go_sem]; omega)) only [go_sem, ↓reduceIte]
  rfl
 ·simp
 ·intro i hi
  have el : (thr (l.take i) b).length = i := by rw [thr_len]; simp; omega
  simp (config := { maxSteps := 1000000 }) (disch := first | omega | (simp only [go_sem]; omega)) only [go_sem, ↓reduceIte, c_pushout_follow_b7]
  refine bran_dec (fun c => ?_) (fun c => ?_)
  ·have hx := hb _ (gt_mem (l := l) (j := i) (by omega) (by omega))
   have hf : (thr (l.take i) b ++ List.replicate (l.length - i) 0).set i (gt b (gt l i)) = thr (l.take (i + 1)) b ++ List.replicate (l.length - (i + 1)) 0 := by
    have := fillL (thr (l.take i) b) (gt b (gt l i)) 0 (l.length - (i + 1))
    rw [el, show l.length - (i + 1) + 1 = l.length - i by omega] at this
    rw [this, thr_step (by omega)]
   simp (config := { maxSteps := 1000000 }) (disch := first | omega | (simp only [go_sem]; omega)) only [go_sem, ↓reduceIte, el, hf]
   exact ⟨i + 1, by simp, by omega, by omega⟩
  ·obtain rfl : i = l.length := by omega
   rw [List.take_length] at el
   simp (config := { maxSteps := 1000000 }) (disch := first | omega | (simp only [go_sem]; omega)) only [go_sem, ↓reduceIte, el]
   simp
theorem w_pushout_then (ht : K_pushout_follow P F) (m n : Mo) (h1 : m.n.length ≤ 1000000) (h2 : m.e.length ≤ 1000000) (h3 : ∀ x ∈ m.n, 0 ≤ x ∧ x < n.n.length) (h4 : ∀ x ∈ m.e, 0 ≤ x ∧ x < n.e.length) :
  W P (c_pushout_then F) (Done [.c 4 true 2] [] (mA (thenM m n)) []) (init [mD m, mD n]) := by
 refine W_of ?_
 obtain ⟨mn, me⟩ := m
 obtain ⟨nn, ne⟩ := n
 have r1 := ht mn nn h1 h3
 have r2 := ht me ne h2 h4
 simp (disch := omega) only [go_sem, ↓reduceIte, mD]
 refine call_by r1 ?_
 simp (disch := omega) only [go_sem, ↓reduceIte]
 refine call_by r2 ?_
 simp (disch := omega) only [go_sem, ↓reduceIte, mA, thenM]
end
@[go_sem] def c_slices_Grow_I_r0 : LL := [qn 4 1]
@[go_sem] def c_slices_Grow_I_r1 : LL := [qm 5 1,qk .lss 6 5 0]
@[go_sem] def c_slices_Grow_I_r2 : LL := [⟨some 7,.bad,none⟩,⟨none,.bad,none⟩]
@[go_sem] def c_slices_Grow_I_r3 : LL := [qm 8 1,qm 9 0,⟨some 10,.cap (.t 9),none⟩,qm 11 0,qz 12 11,qo .sub 13 10 12,qo .sub 14 8 13,qm 1 14]
@[go_sem] def c_slices_Grow_I_r4 : LL := [qm 15 1,qk .gtr 16 15 0]
@[go_sem] def c_slices_Grow_I_r5 : LL := [qm 17 0,qm 18 0,⟨some 19,.cap (.t 18),none⟩,⟨some 20,.slc 1 (.t 17) none (some (.t 19)),none⟩,qm 21 1,⟨some 22,.appz 1 8 (.int .i64 (0)) (.t 20) (.t 21),none⟩,qm 23 0,
 qz 24 23,⟨some 25,.slc 1 (.t 22) none (some (.t 24)),none⟩,qm 0 25]
@[go_sem] def c_slices_Grow_I_r6 : LL := [qm 26 0,qm 4 26]
@[go_sem] def c_slices_Grow_I (F : Fn) : LC := (.seq (.reg c_slices_Grow_I_r0 [0,1]) (.seq (.seq (.reg c_slices_Grow_I_r1 [0,1,6]) (.cond (.t 6) (.reg c_slices_Grow_I_r2 [0,1]) .skip)) (.seq (.seq (.reg c_slices_Grow_I_r3 [0,1]) (.seq (.reg c_slices_Grow_I_r4 [0,1,16]) (.cond (.t 16) (.reg c_slices_Grow_I_r5 [0]) .skip))) (.seq (.reg c_slices_Grow_I_r6 [4]) .ret))))
def h_slices_Grow_I : Hints := hOf [] (c_slices_Grow_I fun _ => 0)
@[go_sem] def c_slices_Concat_I_r0 : LL := [qn 2 1]
@[go_sem] def c_slices_Concat_I_r1 : LL := [qi 3 0]
@[go_sem] def c_slices_Concat_I_r2 : LL := [qm 9 0,qz 10 9,qi 11 0]
@[go_sem] def c_slices_Concat_I_r3 : LL := [qo .lss 12 11 10]
@[go_sem] def c_slices_Concat_I_r4 : LL := [qd 13 1 9 11,ql 14 1 13,qm 5 14]
@[go_sem] def c_slices_Concat_I_r5 : LL := [qm 15 3,qm 16 5,qz 17 16,qo .add 18 15 17,qm 3 18]
@[go_sem] def c_slices_Concat_I_r6 : LL := [qm 19 3,qk .lss 20 19 0]
@[go_sem] def c_slices_Concat_I_r7 : LL := [⟨some 21,.bad,none⟩,⟨none,.bad,none⟩]
@[go_sem] def c_slices_Concat_I_r8 : LL := [qk .add 22 11 1,qm 11 22]
def c_slices_Concat_I_b9 : LC := (.seq (.reg c_slices_Concat_I_r3 [0,3,9,10,11,12]) (.seq (.cond (.t 12) .skip (.exit 0)) (.seq (.block 1 (.seq (.reg c_slices_Concat_I_r4 [0,3,5,9,10,11]) (.seq (.reg c_slices_Concat_I_r5 [0,3,9,10,11]) (.seq (.reg c_slices_Concat_I_r6 [0,3,9,10,11,20]) (.cond (.t 20) (.reg c_slices_Concat_I_r7 [0,3,9,10,11]) .skip))))) (.reg c_slices_Concat_I_r8 [0,3,9,10,11]))))
@[go_sem] def c_slices_Concat_I_r10 (F : Fn) : LL := [qm 23 3,qc 24 (F "slices.Grow.I") [.k (.nl 0),.t 23],qm 6 24]
@[go_sem] def c_slices_Concat_I_r11 : LL := [qm 25 0,qz 26 25,qi 27 0]
@[go_sem] def c_slices_Concat_I_r12 : LL := [qo .lss 28 27 26]
@[go_sem] def c_slices_Concat_I_r13 : LL := [qd 29 1 25 27,ql 30 1 29,qm 8 30]
@[go_sem] def c_slices_Concat_I_r14 : LL := [qm 31 6,qm 32 8,qp 33 1 8 31 32,qm 6 33]
@[go_sem] def c_slices_Concat_I_r15 : LL := [qk .add 34 27 1,qm 27 34]
def c_slices_Concat_I_b16 : LC := (.seq (.reg c_slices_Concat_I_r12 [6,25,26,27,28]) (.seq (.cond (.t 28) .skip (.exit 2)) (.seq (.block 3 (.seq (.reg c_slices_Concat_I_r13 [6,8,25,26,27]) (.reg c_slices_Concat_I_r14 [6,25,26,27]))) (.reg c_slices_Concat_I_r15 [6,25,26,27]))))
@[go_sem] def c_slices_Concat_I_r17 : LL := [qm 35 6,qm 2 35]
@[go_sem] def c_slices_Concat_I (F : Fn) : LC := (.seq (.reg c_slices_Concat_I_r0 [0]) (.seq (.reg c_slices_Concat_I_r1 [0,3]) (.seq (.seq (.reg c_slices_Concat_I_r2 [0,3,9,10,11]) (.block 0 (.loop [0,3,9,10,11] c_slices_Concat_I_b9))) (.seq (.reg (c_slices_Concat_I_r10 F) [0,6]) (.seq (.seq (.reg c_slices_Concat_I_r11 [6,25,26,27]) (.block 2 (.loop [6,25,26,27] c_slices_Concat_I_b16))) (.seq (.reg c_slices_Concat_I_r17 [2]) .ret))))))
def h_slices_Concat_I : Hints := hOf [] (c_slices_Concat_I fun _ => 0)
@[go_sem] def c_graph_Union_r0 : LL := [qB 2 0,qB 3 1,qa 4 [.nl 1,.nl 3],qa 5 [.nl 1,.nl 1],qa 6 [.nl 1,.nl 1],qi 7 0]
@[go_sem] def c_graph_Union_r1 : LL := [qL 18 2 2,qL 19 2 3,⟨some 20,.buildSl 2 48 (.agg [.lst 1 [],.lst 3 []]) 2 [(0,.t 18),(1,.t 19)],none⟩,qz 21 20,qi 22 0]
@[go_sem] def c_graph_Union_r2 : LL := [qo .lss 23 22 21]
@[go_sem] def c_graph_Union_r3 : LL := [qd 24 2 20 22,qL 25 2 24,qa 9 [.nl 1,.nl 3],qs 2 9 25]
@[go_sem] def c_graph_Union_r4 (F : Fn) : LL := [qL 26 2 9,qc 27 (F "graph.Valid") [.t 26],qm 10 27]
@[go_sem] def c_graph_Union_r5 : LL := [qm 28 10,qk .neq 29 28 0]
@[go_sem] def c_graph_Union_r6 : LL := [qu 30 [.nl 1,.nl 3] [],qu 31 [.nl 1,.nl 1] [],qu 32 [.nl 1,.nl 1] [],qm 33 10,qs 2 4 30,qs 2 5 31,qs 2 6 32,qm 7 33]
@[go_sem] def c_graph_Union_r7 : LL := [qk .add 34 22 1,qm 22 34]
def c_graph_Union_b8 (F : Fn) : LC := (.seq (.reg c_graph_Union_r2 [2,3,4,5,6,20,21,22,23]) (.seq (.cond (.t 23) .skip (.exit 0)) (.seq (.block 1 (.seq (.reg c_graph_Union_r3 [2,3,4,5,6,9,20,21,22]) (.seq (.reg (c_graph_Union_r4 F) [2,3,4,5,6,10,20,21,22]) (.seq (.reg c_graph_Union_r5 [2,3,4,5,6,10,20,21,22,29]) (.cond (.t 29) (.seq (.reg c_graph_Union_r6 [4,5,6,7]) .ret) .skip))))) (.reg c_graph_Union_r7 [2,3,4,5,6,20,21,22]))))
@[go_sem] def c_graph_Union_r9 : LL := [qf 35 0 2,ql 36 1 35,qz 37 36,qf 38 1 2,ql 39 1 38,qz 40 39,qm 11 37,qm 12 40]
@[go_sem] def c_graph_Union_r10 : LL := [qm 41 11,qf 42 0 3,ql 43 1 42,qz 44 43,qo .add 45 41 44,qk .gtr 46 45 40,qm 47 46,qg 47 false (qm 48 12),qg 47 false (qf 49 1 3),qg 47 false (ql 50 1 49),qg 47 false (qz 51 50),
 qg 47 false (qo .add 52 48 51),qg 47 false (qk .gtr 53 52 80),qQ 54 47 53]
@[go_sem] def c_graph_Union_r11 : LL := [qu 55 [.nl 1,.nl 3] [],qu 56 [.nl 1,.nl 1] [],qu 57 [.nl 1,.nl 1] [],qs 2 4 55,qs 2 5 56,qs 2 6 57,qi 7 3]
@[go_sem] def c_graph_Union_r12 (F : Fn) : LL := [qf 58 0 2,ql 59 1 58,qf 60 0 3,ql 61 1 60,⟨some 62,.buildSl 1 24 (.lst 1 []) 2 [(0,.t 59),(1,.t 61)],none⟩,qc 63 (F "slices.Concat.I") [.t 62],qf 64 1 2,ql 65 1 64,qc 66 (F "slices.Clone.E") [.t 65],
 qu 67 [.nl 1,.nl 3] [(0,1,.t 63),(1,1,.t 66)],qa 13 [.nl 1,.nl 3],qs 2 13 67]
@[go_sem] def c_graph_Union_r13 : LL := [qf 68 1 3,ql 69 1 68,qz 70 69,qi 71 0]
@[go_sem] def c_graph_Union_r14 : LL := [qo .lss 72 71 70]
@[go_sem] def c_graph_Union_r15 : LL := [qd 73 3 69 71,qL 74 3 73,qa 15 [.int .i64 (0),.int .i64 (0),.int .i64 (0)],qs 3 15 74]
@[go_sem] def c_graph_Union_r16 : LL := [qf 75 1 13,ql 76 1 75,qf 77 0 15,ql 78 1 77,qf 79 1 15,ql 80 1 79,qm 81 11,qo .add 82 80 81,qf 83 2 15,ql 84 1 83,qm 85 11,qo .add 86 84 85,
 qu 87 [.int .i64 (0),.int .i64 (0),.int .i64 (0)] [(0,1,.t 78),(1,1,.t 82),(2,1,.t 86)],
 ⟨some 88,.buildSl 3 24 (.agg [.int .i64 (0),.int .i64 (0),.int .i64 (0)]) 1 [(0,.t 87)],none⟩,qp 89 3 24 76 88,qf 90 1 13,qs 1 90 89]
@[go_sem] def c_graph_Union_r17 : LL := [qk .add 91 71 1,qm 71 91]
def c_graph_Union_b18 : LC := (.seq (.reg c_graph_Union_r14 [3,4,5,6,11,12,13,69,70,71,72]) (.seq (.cond (.t 72) .skip (.exit 2)) (.seq (.block 3 (.seq (.reg c_graph_Union_r15 [3,4,5,6,11,12,13,15,69,70,71]) (.reg c_graph_Union_r16 [3,4,5,6,11,12,13,69,70,71]))) (.reg c_graph_Union_r17 [3,4,5,6,11,12,13,69,70,71]))))
@[go_sem] def c_graph_Union_r19 (F : Fn) : LL := [qm 92 11,qc 93 (F "graph.numbers") [.k (.int .i64 (0)),.t 92],qm 94 12,qc 95 (F "graph.numbers") [.k (.int .i64 (0)),.t 94],qu 96 [.nl 1,.nl 1] [(0,1,.t 93),(1,1,.t 95)],qa 16 [.nl 1,.nl 1],
 qs 2 16 96]
@[go_sem] def c_graph_Union_r20 (F : Fn) : LL := [qm 97 11,qf 98 0 3,ql 99 1 98,qz 100 99,qc 101 (F "graph.numbers") [.t 97,.t 100],qm 102 12,qf 103 1 3,ql 104 1 103,qz 105 104,qc 106 (F "graph.numbers") [.t 102,.t 105],
 qu 107 [.nl 1,.nl 1] [(0,1,.t 101),(1,1,.t 106)],qa 17 [.nl 1,.nl 1],qs 2 17 107]
@[go_sem] def c_graph_Union_r21 : LL := [qL 108 2 13,qL 109 2 16,qL 110 2 17,qs 2 4 108,qs 2 5 109,qs 2 6 110,qi 7 0]
@[go_sem] def c_graph_Union (F : Fn) : LC := (.seq (.reg c_graph_Union_r0 [2,3,4,5,6]) (.seq (.seq (.reg c_graph_Union_r1 [2,3,4,5,6,20,21,22]) (.block 0 (.loop [2,3,4,5,6,20,21,22] (c_graph_Union_b8 F)))) (.seq (.dreg [] c_graph_Union_r9 [2,3,4,5,6,11,12]) (.seq (.seq (.reg c_graph_Union_r10 [2,3,4,5,6,11,12,54]) (.cond (.t 54) (.seq (.reg c_graph_Union_r11 [4,5,6,7]) .ret) .skip)) (.seq (.dreg [(4,none,[],true),(5,none,[],true),(7,(some 64),[4,5],false)] (c_graph_Union_r12 F) [3,4,5,6,11,12,13]) (.seq (.seq (.reg c_graph_Union_r13 [3,4,5,6,11,12,13,69,70,71]) (.block 2 (.loop [3,4,5,6,11,12,13,69,70,71] c_graph_Union_b18))) (.seq (.reg (c_graph_Union_r19 F) [3,4,5,6,11,12,13,16]) (.seq (.dreg [(4,none,[],true),(7,(some 64),[4],false)] (c_graph_Union_r20 F) [4,5,6,13,16,17]) (.seq (.dreg [(1,none,[],true),(2,none,[],true),(3,none,[1,2],false),(4,none,[2],false)] c_graph_Union_r21 [4,5,6,7]) .ret)))))))))
def h_graph_Union : Hints := hOf [] (c_graph_Union fun _ => 0)
def shE1 (n : Int) (x : E) : E := ⟨x.t, x.f + n, x.o + n⟩
def uniG (a b : G) : G × Mo × Mo × Int :=
 if validG a ≠ 0 then (⟨[], []⟩, ⟨[], []⟩, ⟨[], []⟩, validG a) else if validG b ≠ 0 then (⟨[], []⟩, ⟨[], []⟩, ⟨[], []⟩, validG b)
 else if 40 < a.n.length + b.n.length ∨ 80 < a.e.length + b.e.length then (⟨[], []⟩, ⟨[], []⟩, ⟨[], []⟩, 3)
 else (⟨a.n ++ b.n, a.e ++ b.e.map (shE1 a.n.length)⟩, ⟨nums 0 a.n.length, nums 0 a.e.length⟩, ⟨nums a.n.length b.n.length, nums a.e.length b.e.length⟩, 0)
def uniD (r : G × Mo × Mo × Int) : D := .tup [gA r.1, mA r.2.1, mA r.2.2.1, .int .i64 r.2.2.2]
section
variable (P : Program) (F : String → Nat)
def K_graph_Union : Prop := ∀ a b : G, FC P (F "graph.Union") [gD a, gD b] (uniD (uniG a b)) []
def K_slices_Grow_I : Prop := ∀ n : Nat, n ≤ 10000000000000 → FC P (F "slices.Grow.I") [.nl 1, .int .i64 n] (.arr 1 []) []
def K_slices_Concat_I : Prop := ∀ a b : List Int, a.length ≤ 1000000000000 → b.length ≤ 1000000000000 → FC P (F "slices.Concat.I") [.lst 1 [.lst 1 (ints a), .lst 1 (ints b)]] (.arr 1 (ints (a ++ b))) []
end
section
variable {P : Program} {F : String → Nat} {α : Type}
def catL (a b : List Int) : Nat → List Int
 | 0 => []
 | 1 => a
 | _ => a ++ b
theorem FC.nl {P : Program} {f a b : Nat} {args : List D} {r : D} {outs : List (Nat × D)} (h : FC P f (.nl a :: args) r outs) : FC P f (.nl b :: args) r outs := by
 unfold FC at *
 simp only [DRs, DR] at *
 exact h
theorem w_slices_Grow_I (n : Nat) (hn : n ≤ 10000000000000) : W P (c_slices_Grow_I F) (Done [.t 4] [] (.arr 1 []) []) (init [.nl 1, .int .i64 n]) := by
 refine W_of ?_
 simp (disch := omega) only [go_sem, ↓reduceIte]
 refine bran_dec (fun c => ?_) (fun c => ?_)
 ·omega
 ·simp (disch := omega) only [go_sem, ↓reduceIte]
  refine bran_dec (fun c => ?_) (fun c => ?_)
  ·simp (disch := omega) only [go_sem, ↓reduceIte]
   rw [if_neg (by omega)]
   rfl
  ·simp (disch := omega) only [go_sem, ↓reduceIte]
theorem w_slices_Concat_I (hg : K_slices_Grow_I P F) (a b : List Int) (ha : a.length ≤ 1000000000000) (hb : b.length ≤ 1000000000000) : W P (c_slices_Concat_I F) (Done [.t 2] [] (.arr 1 (ints (a ++ b))) []) (init [.lst 1 [.lst 1 (ints a), .lst 1 (ints b)]]) := by
 refine W_of ?_
 simp (disch := omega) only [go_sem, ↓reduceIte]
 refine W_loop (fun i : Nat => ⟨[(0, D.lst 1 [D.lst 1 (ints a), D.lst 1 (ints b)]), (3, D.int IntKind.i64 (catL a b i).length), (9, D.lst 1 [D.lst 1 (ints a), D.lst 1 (ints b)]), (10, D.int IntKind.i64 (2 : Nat)), (11, D.int IntKind.i64 i)], [], 0⟩) (fun i => i ≤ 2) (fun i => 2 - i) 0 ?_ ?_ ?_
 ·simp (disch := omega) only [go_sem, ↓reduceIte]
  rfl
 ·omega
 ·intro i hi
  have h3 : i = 0 ∨ i = 1 ∨ i = 2 := by omega
  rcases h3 with rfl | rfl | rfl
  ·simp (disch := omega) only [go_sem, ↓reduceIte, c_slices_Concat_I_b9, catL]
   refine bran_dec (fun c => ?_) (fun c => absurd c (by omega))
   simp (disch := omega) only [go_sem, ↓reduceIte, catL]
   refine bran_dec (fun c => by omega) (fun c => ?_)
   simp (disch := omega) only [go_sem, ↓reduceIte]
   exact ⟨1, by simp [catL], by omega, by omega⟩
  ·simp (disch := omega) only [go_sem, ↓reduceIte, c_slices_Concat_I_b9, catL]
   refine bran_dec (fun c => ?_) (fun c => absurd c (by omega))
   simp (disch := omega) only [go_sem, ↓reduceIte, catL]
   refine bran_dec (fun c => by omega) (fun c => ?_)
   simp (disch := omega) only [go_sem, ↓reduceIte]
   exact ⟨2, by simp [catL], by omega, by omega⟩
  ·simp (disch := omega) only [go_sem, ↓reduceIte, c_slices_Concat_I_b9]
   refine bran_dec (fun c => absurd c (by omega)) (fun c => ?_)
   simp (disch := omega) only [go_sem, ↓reduceIte]
   have r := FC.nl (b := 0) (hg (catL a b 2).length (by simp [catL]; omega))
   refine call_by r ?_
   simp (disch := omega) only [go_sem, ↓reduceIte]
   refine W_loop (fun i : Nat => ⟨[(6, D.sl 0 0 (catL a b i).length), (25, D.lst 1 [D.lst 1 (ints a), D.lst 1 (ints b)]), (26, D.int IntKind.i64 (2 : Nat)), (27, D.int IntKind.i64 i)], [(0, Ent.arr 1 (ints (catL a b i)))], 1⟩) (fun i => i ≤ 2) (fun i => 2 - i) 0 ?_ ?_ ?_
   ·simp (disch := omega) only [go_sem, ↓reduceIte]
    rfl
   ·omega
   ·intro i hi
    have h3 : i = 0 ∨ i = 1 ∨ i = 2 := by omega
    rcases h3 with rfl | rfl | rfl
    ·simp (disch := omega) only [go_sem, ↓reduceIte, c_slices_Concat_I_b16, catL]
     refine bran_dec (fun c => ?_) (fun c => absurd c (by omega))
     simp (disch := omega) only [go_sem, ↓reduceIte, catL]
     exact ⟨1, by simp, by omega, by omega⟩
    ·simp (disch := omega) only [go_sem, ↓reduceIte, c_slices_Concat_I_b16, catL]
     refine bran_dec (fun c => ?_) (fun c => absurd c (by omega))
     simp (disch := omega) only [go_sem, ↓reduceIte, catL]
     exact ⟨2, by simp, by omega, by omega⟩
    ·simp (disch := omega) only [go_sem, ↓reduceIte, c_slices_Concat_I_b16, catL]
     refine bran_dec (fun c => absurd c (by omega)) (fun c => ?_)
     simp (disch := omega) only [go_sem, ↓reduceIte, catL]
theorem w_graph_Union (hv : K_graph_Valid P F) (hc : K_slices_Concat_I P F) (hcl : K_slices_Clone_E P F) (hn : K_graph_numbers P F) (a b : G) : W P (c_graph_Union F) (Done [.c 4 true 2, .c 5 true 2, .c 6 true 2, .t 7] [] (uniD (uniG a b)) []) (init [gD a, gD b]) := by
 refine W_of ?_
 obtain ⟨an, ae⟩ := a
 obtain ⟨bn, be⟩ := b
 simp (disch := omega) only [go_sem, ↓reduceIte, gD]
 refine W_loop (fun i : Nat => ⟨[(2, D.pt 0 0), (3, D.pt 1 0), (4, D.pt 4 0), (5, D.pt 7 0), (6, D.pt 10 0), (20, D.sl 11 0 2), (21, D.int IntKind.i64 (2 : Nat)), (22, D.int IntKind.i64 i)],
   [(0, Ent.box [D.lst 1 (ints an), D.lst 3 (eds ae)]), (1, Ent.box [D.lst 1 (ints bn), D.lst 3 (eds be)]),
    (2, Ent.arr 1 []), (3, Ent.arr 3 []), (4, Ent.box [D.sl 2 0 0, D.sl 3 0 0]), (5, Ent.arr 1 []),
    (6, Ent.arr 1 []), (7, Ent.box [D.sl 5 0 0, D.sl 6 0 0]), (8, Ent.arr 1 []), (9, Ent.arr 1 []),
    (10, Ent.box [D.sl 8 0 0, D.sl 9 0 0]),
    (11, Ent.arr 2 [D.agg [D.lst 1 (ints an), D.lst 3 (eds ae)], D.agg [D.lst 1 (ints bn), D.lst 3 (eds be)]])], 12⟩)
  (fun i => i ≤ 2 ∧ (1 ≤ i → validG ⟨an, ae⟩ = 0) ∧ (2 ≤ i → validG ⟨bn, be⟩ = 0)) (fun i => 2 - i) 0 ?_ ?_ ?_
 ·simp (disch := omega) only [go_sem, ↓reduceIte]
  rfl
 ·simp
 ·rintro i ⟨hi, p1, p2⟩
  have h3 : i = 0 ∨ i = 1 ∨ i = 2 := by omega
  rcases h3 with rfl | rfl | rfl
  ·simp (disch := omega) only [go_sem, ↓reduceIte, c_graph_Union_b8]
   refine bran_dec (fun c => ?_) (fun c => absurd c (by omega))
   simp (disch := omega) only [go_sem, ↓reduceIte]
   refine call_by (hv ⟨an, ae⟩) ?_
   simp (disch := omega) only [go_sem, ↓reduceIte]
   refine bran_ndec (fun c1 => ?_) (fun c1 => ?_)
   ·simp (disch := omega) only [go_sem, ↓reduceIte]
    simp [uniG, c1, uniD, gA, mA, ints, eds]
   ·simp (disch := omega) only [go_sem, ↓reduceIte]
    exact ⟨1, by simp, ⟨by omega, fun _ => c1, by omega⟩, by omega⟩
  ·have c1 := p1 (by omega)
   simp (disch := omega) only [go_sem, ↓reduceIte, c_graph_Union_b8]
   refine bran_dec (fun c => ?_) (fun c => absurd c (by omega))
   simp (disch := omega) only [go_sem, ↓reduceIte]
   refine call_by (hv ⟨bn, be⟩) ?_
   simp (disch := omega) only [go_sem, ↓reduceIte]
   refine bran_ndec (fun c2 => ?_) (fun c2 => ?_)
   ·simp (disch := omega) only [go_sem, ↓reduceIte]
    simp [uniG, c1, c2, uniD, gA, mA, ints, eds]
   ·simp (disch := omega) only [go_sem, ↓reduceIte]
    exact ⟨2, by simp, ⟨by omega, fun _ => c1, fun _ => c2⟩, by omega⟩
  ·have c1 := p1 (by omega)
   have c2 := p2 (by omega)
   obtain ⟨v1, v2, v3, v4⟩ := valid_spec c1
   simp only at v1 v2 v3 v4
   obtain ⟨u1, u2, u3, u4⟩ := valid_spec c2
   simp only at u1 u2 u3 u4
   simp (disch := omega) only [go_sem, ↓reduceIte, c_graph_Union_b8]
   refine bran_dec (fun c => absurd c (by omega)) (fun c => ?_)
   simp (disch := omega) only [go_sem, ↓reduceIte]
   have big : 40 < an.length + bn.length ∨ 80 < ae.length + be.length → uniG ⟨an, ae⟩ ⟨bn, be⟩ = (⟨[], []⟩, ⟨[], []⟩, ⟨[], []⟩, 3) := fun h => by
    simp only [uniG, c1, c2, ne_eq, not_true_eq_false, if_false, if_pos h]
   refine bran_dec (fun c3 => ?_) (fun c3 => ?_)
   ·simp (disch := omega) only [go_sem, ↓reduceIte, c3]
    rw [big (by omega)]
    simp [uniD, gA, mA, ints, eds]
   ·simp (disch := omega) only [go_sem, ↓reduceIte, c3]
    refine bran_dec (fun c4 => ?_) (fun c4 => ?_)
    ·simp (disch := omega) only [go_sem, ↓reduceIte]
     rw [big (by omega)]
     simp [uniD, gA, mA, ints, eds]
    ·have hg : uniG ⟨an, ae⟩ ⟨bn, be⟩ = (⟨an ++ bn, ae ++ be.map (shE1 an.length)⟩, ⟨nums 0 an.length, nums 0 ae.length⟩, ⟨nums an.length bn.length, nums ae.length be.length⟩, 0) := by
      simp only [uniG, c1, c2, ne_eq, not_true_eq_false, if_false]
      rw [if_neg (by omega)]
     simp (disch := omega) only [go_sem, ↓reduceIte]
     refine call_by (hc an bn (by omega) (by omega)) ?_
     simp (disch := omega) only [go_sem, ↓reduceIte]
     refine call_by (hcl ae (by omega)) ?_
     simp (disch := omega) only [go_sem, ↓reduceIte]
     refine W_loop (fun i : Nat => ⟨[(3, D.pt 0 0), (4, D.pt 3 0), (5, D.pt 6 0), (6, D.pt 9 0), (11, D.int IntKind.i64 an.length),
       (12, D.int IntKind.i64 ae.length), (13, D.pt 12 0), (69, D.lst 3 (eds be)), (70, D.int IntKind.i64 be.length), (71, D.int IntKind.i64 i)],
      [(0, Ent.box [D.lst 1 (ints bn), D.lst 3 (eds be)]), (1, Ent.arr 1 []), (2, Ent.arr 3 []), (3, Ent.box [D.sl 1 0 0, D.sl 2 0 0]), (4, Ent.arr 1 []), (5, Ent.arr 1 []), (6, Ent.box [D.sl 4 0 0, D.sl 5 0 0]),
       (7, Ent.arr 1 []), (8, Ent.arr 1 []), (9, Ent.box [D.sl 7 0 0, D.sl 8 0 0]), (10, Ent.arr 1 (ints (an ++ bn))), (11, Ent.arr 3 (eds (ae ++ (be.take i).map (shE1 an.length)))),
       (12, Ent.box [D.sl 10 0 (an.length + bn.length), D.sl 11 0 (ae.length + i)])], 13⟩) (fun i => i ≤ be.length) (fun i => be.length - i) 0 ?_ ?_ ?_
     ·simp (disch := omega) only [go_sem, ↓reduceIte]
      simp
     ·omega
     ·intro i hi
      have el : (ae ++ (be.take i).map (shE1 an.length)).length = ae.length + i := by simp; omega
      simp (disch := omega) only [go_sem, ↓reduceIte, c_graph_Union_b18]
      refine bran_dec (fun c => ?_) (fun c => ?_)
      ·have hf := fits_spec (u4 _ (gt_mem (by omega) c))
       simp (disch := omega) only [go_sem, ↓reduceIte, el]
       exact ⟨i + 1, by rw [take_gt (by omega)]; simp [shE1, Nat.add_assoc], by omega, by omega⟩
      ·obtain rfl : i = be.length := by omega
       simp (disch := omega) only [go_sem, ↓reduceIte, el]
       refine call_by (hn _ _ (by omega) (by omega) (by omega)) ?_
       simp (disch := omega) only [go_sem, ↓reduceIte, nums_len]
       refine call_by (hn _ _ (by omega) (by omega) (by omega)) ?_
       simp (disch := omega) only [go_sem, ↓reduceIte, nums_len]
       refine call_by (hn _ _ (by omega) (by omega) (by omega)) ?_
       simp (disch := omega) only [go_sem, ↓reduceIte, nums_len]
       refine call_by (hn _ _ (by omega) (by omega) (by omega)) ?_
       simp (disch := omega) only [go_sem, ↓reduceIte, nums_len, List.length_map]
       rw [hg]
       simp [uniD, gA, mA]
end
end Go.Am
