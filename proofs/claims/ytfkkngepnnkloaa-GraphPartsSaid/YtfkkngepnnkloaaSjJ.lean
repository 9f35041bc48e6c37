/- Connected components: as many passes as nodes reach the end. -/
import Derived.Test.YtfkkngepnnkloaaSjI
namespace Go.Am
open Go
set_option linter.unusedVariables false
set_option linter.unusedSimpArgs false
/-- Ends within range. -/
def Ends (n : Nat) (es : List E) : Prop := ∀ x ∈ es, (0 ≤ x.f ∧ x.f < n) ∧ (0 ≤ x.o ∧ x.o < n)
def Le (a b : List Int) : Prop := ∀ i : Nat, gt a (i : Int) ≤ gt b (i : Int)
theorem stepC_gt {l : List Int} {x : E} (hx : (0 ≤ x.f ∧ x.f < l.length) ∧ (0 ≤ x.o ∧ x.o < l.length)) (i : Nat) :
    gt (stepC l x) (i : Int) = if (i : Int) = x.f ∨ (i : Int) = x.o then mn2 (gt l x.f) (gt l x.o) else gt l (i : Int) := by
  unfold stepC
  rw [gt_set, gt_set]
  by_cases h1 : (i : Int) = x.o
  · rw [if_pos ⟨by omega, by rw [List.length_set]; omega⟩, if_pos (.inr h1)]
  · rw [if_neg (fun h => h1 (by omega))]
    by_cases h2 : (i : Int) = x.f
    · rw [if_pos ⟨by omega, by omega⟩, if_pos (.inl h2)]
    · rw [if_neg (fun h => h2 (by omega)), if_neg (fun h => h.elim h2 h1)]
theorem Ends.tail {n : Nat} {x : E} {es : List E} (h : Ends n (x :: es)) : Ends n es := fun y hy => h y (by simp [hy])
theorem gt_f {l : List Int} {n : Int} (h : 0 ≤ n) : gt l n = gt l ((n.toNat : Nat) : Int) := by rw [gt_toNat]
/-- What one edge does. -/
theorem stepC_le {l : List Int} {x : E} (hx : (0 ≤ x.f ∧ x.f < l.length) ∧ (0 ≤ x.o ∧ x.o < l.length)) : Le (stepC l x) l := by
  intro i
  rw [stepC_gt hx]
  have := mn2_spec (gt l x.f) (gt l x.o)
  split
  · rename_i h
    rcases h with h | h <;> rw [h] <;> omega
  · exact Int.le_refl _
theorem foldC_le : ∀ {es : List E} {l : List Int}, Ends l.length es → Le (es.foldl stepC l) l
  | [], l, _ => fun _ => Int.le_refl _
  | x :: es, l, h => fun i => by
    rw [List.foldl_cons]
    exact Int.le_trans (foldC_le (by rw [stepC_len]; exact h.tail) i) (stepC_le (h x (by simp)) i)
def Flat (es : List E) (m : List Int) : Prop := ∀ x ∈ es, gt m x.f = gt m x.o
theorem stepC_ge {l m : List Int} {x : E} (hx : (0 ≤ x.f ∧ x.f < l.length) ∧ (0 ≤ x.o ∧ x.o < l.length)) (hm : Le m l) (hf : gt m x.f = gt m x.o) : Le m (stepC l x) := by
  intro i
  rw [stepC_gt hx]
  have h := mn2_spec (gt l x.f) (gt l x.o)
  have h1 := hm x.f.toNat
  have h2 := hm x.o.toNat
  rw [gt_toNat, gt_toNat] at h1 h2
  split
  · rename_i e
    rcases e with e | e <;> rw [e] <;> omega
  · exact hm i
theorem foldC_ge : ∀ {es : List E} {l m : List Int}, Ends l.length es → Le m l → Flat es m → Le m (es.foldl stepC l)
  | [], _, _, _, h, _ => h
  | x :: es, l, m, he, h, hf => by
    rw [List.foldl_cons]
    exact foldC_ge (by rw [stepC_len]; exact he.tail) (stepC_ge (he x (by simp)) h (hf x (by simp))) fun y hy => hf y (by simp [hy])
/-- One end is at the end: so is the other one, after the pass. -/
theorem foldC_cross : ∀ {es : List E} {l m : List Int} {x : E}, Ends l.length es → Le m l → Flat es m → x ∈ es → gt l x.f = gt m x.f ∨ gt l x.o = gt m x.o →
    gt (es.foldl stepC l) x.f = gt m x.f ∧ gt (es.foldl stepC l) x.o = gt m x.o
  | y :: es, l, m, x, he, h, hf, hx, hc => by
    rw [List.foldl_cons]
    have hy := he y (by simp)
    have hl : Ends (stepC l y).length es := by rw [stepC_len]; exact he.tail
    have hge := stepC_ge hy h (hf y (by simp))
    have hle := stepC_le hy
    have hxr := he x hx
    have hfx := hf x hx
    have keep : ∀ v : Int, 0 ≤ v → gt l v = gt m v → gt (stepC l y) v = gt m v := fun v hv e => by
      rw [gt_f hv] at e ⊢
      rw [gt_f (l := m) hv] at e ⊢
      exact Int.le_antisymm (Int.le_trans (hle _) (Int.le_of_eq e)) (hge _)
    by_cases hin : x ∈ es
    · refine foldC_cross hl hge (fun z hz => hf z (by simp [hz])) hin ?_
      rcases hc with hc | hc
      · exact .inl (keep _ hxr.1.1 hc)
      · exact .inr (keep _ hxr.2.1 hc)
    · have hxy : x = y := by simpa [hin] using hx
      subst hxy
      have h1 := h x.f.toNat
      have h2 := h x.o.toNat
      rw [gt_toNat, gt_toNat] at h1 h2
      have hm := mn2_spec (gt l x.f) (gt l x.o)
      have hmin : mn2 (gt l x.f) (gt l x.o) = gt m x.f := by omega
      have hge2 := foldC_ge hl hge fun z hz => hf z (by simp [hz])
      have hle2 := foldC_le hl
      have k1 : gt (stepC l x) x.f = gt m x.f := by
        rw [gt_f hxr.1.1, stepC_gt hy, if_pos (.inl (by omega)), hmin]
      have k2 : gt (stepC l x) x.o = gt m x.o := by
        rw [gt_f hxr.2.1, stepC_gt hy, if_pos (.inr (by omega)), hmin, hfx]
      have fin : ∀ v : Int, 0 ≤ v → gt (stepC l x) v = gt m v → gt (es.foldl stepC (stepC l x)) v = gt m v := fun v hv e => by
        rw [gt_f hv] at e ⊢
        rw [gt_f (l := m) hv] at e ⊢
        exact Int.le_antisymm (Int.le_trans (hle2 _) (Int.le_of_eq e)) (hge2 _)
      exact ⟨fin _ hxr.1.1 k1, fin _ hxr.2.1 k2⟩
/-- Nodes that no edge leaves keep above. -/
theorem foldC_above (T : Int → Prop) (c : Int) : ∀ {es : List E} {l : List Int}, Ends l.length es → (∀ x ∈ es, T x.f ↔ T x.o) → (∀ i : Nat, T (i : Int) → c < gt l (i : Int)) → ∀ i : Nat, T (i : Int) → c < gt (es.foldl stepC l) (i : Int)
  | [], _, _, _, h => h
  | x :: es, l, he, ht, h => by
    rw [List.foldl_cons]
    refine foldC_above T c (by rw [stepC_len]; exact he.tail) (fun y hy => ht y (by simp [hy])) fun i hi => ?_
    have hx := he x (by simp)
    rw [stepC_gt hx]
    have hm := mn2_spec (gt l x.f) (gt l x.o)
    have hT := ht x (by simp)
    split
    · rename_i e
      have hf : T x.f := by
        rcases e with e | e <;> rw [e] at hi
        · exact hi
        · exact hT.2 hi
      have ho : T x.o := hT.1 hf
      have h1 := h x.f.toNat (by rw [Int.toNat_of_nonneg hx.1.1]; exact hf)
      have h2 := h x.o.toNat (by rw [Int.toNat_of_nonneg hx.2.1]; exact ho)
      rw [gt_toNat] at h1 h2
      omega
    · exact h i hi
def itC (es : List E) (l : List Int) : Nat → List Int
  | 0 => l
  | k + 1 => passC es (itC es l k)
theorem itC_len (es : List E) (l : List Int) : ∀ k, (itC es l k).length = l.length
  | 0 => rfl
  | k + 1 => by simp only [itC, passC, foldC_len, itC_len es l k]
theorem passC_nn {es : List E} {l : List Int} (h : NN0 l) : NN0 (passC es l) := (foldC_sum es h).1
theorem itC_nn {es : List E} {l : List Int} (h : NN0 l) : ∀ k, NN0 (itC es l k)
  | 0 => h
  | k + 1 => passC_nn (itC_nn h k)
/-- The end is reached, and it is a fixed point. -/
theorem limC_reach {es : List E} : ∀ (n : Nat) {l : List Int}, NN0 l → sumN l ≤ n → (∃ k, limC es l = itC es l k) ∧ passC es (limC es l) = limC es l := by
  intro n
  induction n with
  | zero =>
    intro l h hn
    rw [limC_eq h]
    have hs := foldC_sum es h
    have : passC es l = l := hs.2.2 (by have := hs.2.1; omega)
    rw [if_pos this]
    exact ⟨⟨0, rfl⟩, this⟩
  | succ n ih =>
    intro l h hn
    rw [limC_eq h]
    split
    · rename_i e
      exact ⟨⟨0, rfl⟩, e⟩
    · rename_i e
      have hs := foldC_sum es h
      have hlt : sumN (passC es l) < sumN l := Nat.lt_of_le_of_ne hs.2.1 (fun e' => e (hs.2.2 e'))
      obtain ⟨⟨k, hk⟩, h2⟩ := ih (passC_nn (es := es) h) (by omega)
      refine ⟨⟨k + 1, ?_⟩, h2⟩
      rw [hk]
      clear hk h2 ih
      induction k with
      | zero => rfl
      | succ k ih => simp only [itC] at ih ⊢; rw [ih]
theorem fold_fix_flat : ∀ {es : List E} {m : List Int}, NN0 m → Ends m.length es → es.foldl stepC m = m → Flat es m
  | [], m, _, _, _ => fun x hx => by cases hx
  | x :: es, m, hn, he, h => by
    rw [List.foldl_cons] at h
    have s1 := stepC_sum hn x
    have s2 := foldC_sum es (stepC_nn hn x)
    have e1 : stepC m x = m := s1.2 (by have := s2.2.1; rw [h] at this; omega)
    rw [e1] at h
    intro y hy
    simp only [List.mem_cons] at hy
    rcases hy with rfl | hy
    · have hx := he y (by simp)
      by_cases hd : gt m y.f = mn2 (gt m y.f) (gt m y.o) ∧ gt m y.o = mn2 (gt m y.f) (gt m y.o)
      · exact hd.1.trans hd.2.symm
      · exact absurd e1 (stepC_diff hx.1 hx.2 hd)
    · exact fold_fix_flat hn he.tail h y hy
theorem gt_ext {a b : List Int} (hl : a.length = b.length) (h : ∀ i : Nat, i < a.length → gt a (i : Int) = gt b (i : Int)) : a = b := by
  refine List.ext_getElem hl fun i h1 h2 => ?_
  have := h i h1
  rw [gt_nat h1, gt_nat h2] at this
  exact this
/-- A pass that brings nobody to the end is over. -/
theorem stuck {es : List E} {l : List Int} (hn : NN0 l) (he : Ends l.length es) (h : ∀ i : Nat, gt (passC es l) (i : Int) = gt (limC es l) (i : Int) → gt l (i : Int) = gt (limC es l) (i : Int)) : l = limC es l := by
  obtain ⟨⟨k, hk⟩, hfix⟩ := limC_reach (es := es) (sumN l) hn (Nat.le_refl _)
  have hlen : (limC es l).length = l.length := by rw [hk, itC_len]
  have hmn : NN0 (limC es l) := by rw [hk]; exact itC_nn hn k
  have hflat : Flat es (limC es l) := fold_fix_flat hmn (by rw [hlen]; exact he) hfix
  have hle : ∀ k, Le (itC es l k) l := fun k => by
    induction k with
    | zero => exact fun _ => Int.le_refl _
    | succ k ih => exact fun i => Int.le_trans (foldC_le (by rw [itC_len]; exact he) i) (ih i)
  have hm : Le (limC es l) l := by rw [hk]; exact hle k
  refine gt_ext hlen.symm fun i hi => ?_
  refine Classical.byContradiction fun hne => ?_
  have hc := hm i
  have key : ∀ k, ∀ j : Nat, gt l (j : Int) ≠ gt (limC es l) (j : Int) ∧ gt (limC es l) (j : Int) = gt (limC es l) (i : Int) → gt (limC es l) (i : Int) < gt (itC es l k) (j : Int) := fun k => by
    induction k with
    | zero => intro j hj; have := hm j; simp only [itC]; omega
    | succ k ih =>
      refine foldC_above (fun v => gt l v ≠ gt (limC es l) v ∧ gt (limC es l) v = gt (limC es l) (i : Int)) _ (by rw [itC_len]; exact he) (fun x hx => ?_) ih
      have hxr := he x hx
      have hfx := hflat x hx
      have one : gt l x.f = gt (limC es l) x.f ↔ gt l x.o = gt (limC es l) x.o := by
        constructor
        · intro e
          have := (foldC_cross he hm hflat hx (.inl e)).2
          rw [gt_f hxr.2.1, gt_f (l := limC es l) hxr.2.1] at this
          have := h _ this
          rw [gt_toNat, gt_toNat] at this
          exact this
        · intro e
          have := (foldC_cross he hm hflat hx (.inr e)).1
          rw [gt_f hxr.1.1, gt_f (l := limC es l) hxr.1.1] at this
          have := h _ this
          rw [gt_toNat, gt_toNat] at this
          exact this
      simp only [ne_eq, hfx]
      rw [hfx] at one
      rw [one]
  have := key k i ⟨hne, rfl⟩
  rw [← hk] at this
  omega
theorem countP_lt {p q : Nat → Bool} {l : List Nat} (h : ∀ i ∈ l, p i = true → q i = true) {a : Nat} (ha : a ∈ l) (h1 : q a = true) (h2 : p a = false) : l.countP p < l.countP q := by
  induction l with
  | nil => cases ha
  | cons b l ih =>
    simp only [List.countP_cons]
    have hm := List.countP_mono_left (l := l) (p := p) (q := q) fun i hi => h i (by simp [hi])
    have hb := h b (by simp)
    simp only [List.mem_cons] at ha
    rcases ha with rfl | ha
    · simp only [h1, h2]
      simp
      omega
    · have := ih (fun i hi => h i (by simp [hi])) ha
      cases hp : p b
      · simp only [Bool.false_eq_true, if_false]; omega
      · simp only [hb hp, if_true]; omega
theorem itC_lim {es : List E} {l : List Int} (hn : NN0 l) : ∀ k, limC es (itC es l k) = limC es l
  | 0 => rfl
  | k + 1 => by
    have ih := itC_lim (es := es) hn k
    simp only [itC]
    rw [limC_eq (itC_nn hn k)] at ih
    split at ih
    · rename_i e; rw [e, limC_eq (itC_nn hn k), if_pos e, ih]
    · exact ih
theorem itC_end {es : List E} {l : List Int} (hn : NN0 l) (he : Ends l.length es) : itC es l l.length = limC es l := by
  have key : ∀ k, itC es l k = limC es l ∨ k ≤ (List.range l.length).countP fun i : Nat => decide (gt (itC es l k) (i : Int) = gt (limC es l) (i : Int)) := by
    intro k
    induction k with
    | zero => exact .inr (Nat.zero_le _)
    | succ k ih =>
      by_cases hk : itC es l k = limC es l
      · refine .inl ?_
        simp only [itC, hk]
        exact (limC_reach _ hn (Nat.le_refl _)).2
      · refine .inr ?_
        have hk2 := ih.resolve_left hk
        have hnk := itC_nn (es := es) hn k
        have hek : Ends (itC es l k).length es := by rw [itC_len]; exact he
        have hlk := itC_lim (es := es) hn k
        have hst : ¬ ∀ i : Nat, gt (passC es (itC es l k)) (i : Int) = gt (limC es (itC es l k)) (i : Int) → gt (itC es l k) (i : Int) = gt (limC es (itC es l k)) (i : Int) := fun h => by
          have := stuck hnk hek h
          rw [hlk] at this
          exact hk this
        simp only [Classical.not_forall] at hst
        obtain ⟨i, h1, h2⟩ := hst
        rw [hlk] at h1 h2
        obtain ⟨⟨k', hk'⟩, hfix⟩ := limC_reach (es := es) (sumN l) hn (Nat.le_refl _)
        have hlen : (limC es l).length = l.length := by rw [hk', itC_len]
        have hil : i < l.length := by
          refine Classical.byContradiction fun h => h2 ?_
          simp only [gt, Int.toNat_natCast, List.getD_eq_getElem?_getD]
          rw [List.getElem?_eq_none (by rw [itC_len]; omega), List.getElem?_eq_none (by rw [hlen]; omega)]
        have hmn : NN0 (limC es l) := by rw [hk']; exact itC_nn hn k'
        have hflat : Flat es (limC es l) := fold_fix_flat hmn (by rw [hlen]; exact he) hfix
        have hm : Le (limC es l) (itC es l k) := by
          rw [← hlk]
          obtain ⟨⟨k2, hk2⟩, _⟩ := limC_reach (es := es) (sumN (itC es l k)) hnk (Nat.le_refl _)
          rw [hk2]
          clear hk2
          induction k2 with
          | zero => exact fun _ => Int.le_refl _
          | succ k2 ih2 => exact fun i => Int.le_trans (foldC_le (by rw [itC_len]; exact hek) i) (ih2 i)
        have hle := foldC_le hek
        have hge := foldC_ge hek hm hflat
        have := countP_lt (p := fun i => decide (gt (itC es l k) (i : Int) = gt (limC es l) (i : Int))) (q := fun i => decide (gt (itC es l (k + 1)) (i : Int) = gt (limC es l) (i : Int))) (l := List.range l.length)
          (fun j _ hj => by
            simp only [decide_eq_true_eq] at hj ⊢
            exact Int.le_antisymm (Int.le_trans (hle j) (Int.le_of_eq hj)) (hge j)) (a := i) (by simpa using hil) (decide_eq_true h1) (decide_eq_false h2)
        omega
  rcases key l.length with h | h
  · exact h
  · obtain ⟨⟨k', hk'⟩, hfix⟩ := limC_reach (es := es) (sumN l) hn (Nat.le_refl _)
    have hlen : (limC es l).length = l.length := by rw [hk', itC_len]
    have hall : (List.range l.length).countP (fun i : Nat => decide (gt (itC es l l.length) (i : Int) = gt (limC es l) (i : Int))) = (List.range l.length).length := Nat.le_antisymm List.countP_le_length (by simpa using h)
    rw [List.countP_eq_length] at hall
    refine gt_ext (by rw [itC_len, hlen]) fun i hi => ?_
    rw [itC_len] at hi
    simpa using hall i (by simpa using hi)
end Go.Am
