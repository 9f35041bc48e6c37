/- Connected components: as many passes as nodes reach the end. -/
/- Incident, the reference's Components, and their law. -/
/- Components of a union; what a union leaves. -/
/- Parts without a boundary and connected components, plain. -/
/- Chapter 07: helpers of the laws; the laws Valid, Close, Join, Image, Adjoint, Extract, Boundary. -/
import Derived.Test.YtbpjoianghehmaaSpPa
import Derived.Test.YtbpjoianghehmaaSpPb
import Derived.Test.YtbpjoianghehmaaSpPc
import Derived.Test.YtbpjoianghehmaaSpXa
namespace Go.Am
open Go
set_option linter.unusedVariables false
set_option linter.unusedSimpArgs false
def Le (a b : List Int) : Prop := ∀ i : Nat, gt a (i : Int) ≤ gt b (i : Int)
theorem stepC_gt {l : List Int} {x : E} (hx : (0 ≤ x.f ∧ x.f < l.length) ∧ (0 ≤ x.o ∧ x.o < l.length)) (i : Nat) :
    gt (stepC l x) (i : Int) = if (i : Int) = x.f ∨ (i : Int) = x.o then mn2 (gt l x.f) (gt l x.o) else gt l (i : Int) := by
  unfold stepC
  rw [gt_setJ, gt_setJ]
  by_cases h1 : (i : Int) = x.o
  · rw [if_pos ⟨by omega, by rw [List.length_set]; omega⟩, if_pos (.inr h1)]
  · rw [if_neg (fun h => h1 (by omega))]
    by_cases h2 : (i : Int) = x.f
    · rw [if_pos ⟨by omega, by omega⟩, if_pos (.inl h2)]
    · rw [if_neg (fun h => h2 (by omega)), if_neg (fun h => h.elim h2 h1)]
theorem gt_f {l : List Int} {n : Int} (h : 0 ≤ n) : gt l n = gt l ((n.toNat : Nat) : Int) := by rw [gt_toNat]
/-- What one edge does. -/
theorem stepC_le {l : List Int} {x : E} (hx : (0 ≤ x.f ∧ x.f < l.length) ∧ (0 ≤ x.o ∧ x.o < l.length)) : Le (stepC l x) l := by
  intro i
  rw [stepC_gt hx]
  have := mn2_spec (gt l x.f) (gt l x.o)
  split
  · rename_i h
    rcases h with h | h <;> rw [h] <;> omega
  · exact Int.le_refl _
theorem foldC_le : ∀ {es : List E} {l : List Int}, Ends l.length es → Le (es.foldl stepC l) l
  | [], l, _ => fun _ => Int.le_refl _
  | x :: es, l, h => fun i => by
    rw [List.foldl_cons]
    exact Int.le_trans (foldC_le (by rw [stepC_len]; exact h.tail) i) (stepC_le (h x (by simp)) i)
def Flat (es : List E) (m : List Int) : Prop := ∀ x ∈ es, gt m x.f = gt m x.o
theorem stepC_ge {l m : List Int} {x : E} (hx : (0 ≤ x.f ∧ x.f < l.length) ∧ (0 ≤ x.o ∧ x.o < l.length)) (hm : Le m l) (hf : gt m x.f = gt m x.o) : Le m (stepC l x) := by
  intro i
  rw [stepC_gt hx]
  have h := mn2_spec (gt l x.f) (gt l x.o)
  have h1 := hm x.f.toNat
  have h2 := hm x.o.toNat
  rw [gt_toNat, gt_toNat] at h1 h2
  split
  · rename_i e
    rcases e with e | e <;> rw [e] <;> omega
  · exact hm i
theorem foldC_ge : ∀ {es : List E} {l m : List Int}, Ends l.length es → Le m l → Flat es m → Le m (es.foldl stepC l)
  | [], _, _, _, h, _ => h
  | x :: es, l, m, he, h, hf => by
    rw [List.foldl_cons]
    exact foldC_ge (by rw [stepC_len]; exact he.tail) (stepC_ge (he x (by simp)) h (hf x (by simp))) fun y hy => hf y (by simp [hy])
/-- One end is at the end: so is the other one, after the pass. -/
theorem foldC_cross : ∀ {es : List E} {l m : List Int} {x : E}, Ends l.length es → Le m l → Flat es m → x ∈ es → gt l x.f = gt m x.f ∨ gt l x.o = gt m x.o →
    gt (es.foldl stepC l) x.f = gt m x.f ∧ gt (es.foldl stepC l) x.o = gt m x.o
  | y :: es, l, m, x, he, h, hf, hx, hc => by
    rw [List.foldl_cons]
    have hy := he y (by simp)
    have hl : Ends (stepC l y).length es := by rw [stepC_len]; exact he.tail
    have hge := stepC_ge hy h (hf y (by simp))
    have hle := stepC_le hy
    have hxr := he x hx
    have hfx := hf x hx
    have keep : ∀ v : Int, 0 ≤ v → gt l v = gt m v → gt (stepC l y) v = gt m v := fun v hv e => by
      rw [gt_f hv] at e ⊢
      rw [gt_f (l := m) hv] at e ⊢
      exact Int.le_antisymm (Int.le_trans (hle _) (Int.le_of_eq e)) (hge _)
    by_cases hin : x ∈ es
    · refine foldC_cross hl hge (fun z hz => hf z (by simp [hz])) hin ?_
      rcases hc with hc | hc
      · exact .inl (keep _ hxr.1.1 hc)
      · exact .inr (keep _ hxr.2.1 hc)
    · have hxy : x = y := by simpa [hin] using hx
      subst hxy
      have h1 := h x.f.toNat
      have h2 := h x.o.toNat
      rw [gt_toNat, gt_toNat] at h1 h2
      have hm := mn2_spec (gt l x.f) (gt l x.o)
      have hmin : mn2 (gt l x.f) (gt l x.o) = gt m x.f := by omega
      have hge2 := foldC_ge hl hge fun z hz => hf z (by simp [hz])
      have hle2 := foldC_le hl
      have k1 : gt (stepC l x) x.f = gt m x.f := by
        rw [gt_f hxr.1.1, stepC_gt hy, if_pos (.inl (by omega)), hmin]
      have k2 : gt (stepC l x) x.o = gt m x.o := by
        rw [gt_f hxr.2.1, stepC_gt hy, if_pos (.inr (by omega)), hmin, hfx]
      have fin : ∀ v : Int, 0 ≤ v → gt (stepC l x) v = gt m v → gt (es.foldl stepC (stepC l x)) v = gt m v := fun v hv e => by
        rw [gt_f hv] at e ⊢
        rw [gt_f (l := m) hv] at e ⊢
        exact Int.le_antisymm (Int.le_trans (hle2 _) (Int.le_of_eq e)) (hge2 _)
      exact ⟨fin _ hxr.1.1 k1, fin _ hxr.2.1 k2⟩
/-- Nodes that no edge leaves keep above. -/
theorem foldC_above (T : Int → Prop) (c : Int) : ∀ {es : List E} {l : List Int}, Ends l.length es → (∀ x ∈ es, T x.f ↔ T x.o) → (∀ i : Nat, T (i : Int) → c < gt l (i : Int)) → ∀ i : Nat, T (i : Int) → c < gt (es.foldl stepC l) (i : Int)
  | [], _, _, _, h => h
  | x :: es, l, he, ht, h => by
    rw [List.foldl_cons]
    refine foldC_above T c (by rw [stepC_len]; exact he.tail) (fun y hy => ht y (by simp [hy])) fun i hi => ?_
    have hx := he x (by simp)
    rw [stepC_gt hx]
    have hm := mn2_spec (gt l x.f) (gt l x.o)
    have hT := ht x (by simp)
    split
    · rename_i e
      have hf : T x.f := by
        rcases e with e | e <;> rw [e] at hi
        · exact hi
        · exact hT.2 hi
      have ho : T x.o := hT.1 hf
      have h1 := h x.f.toNat (by rw [Int.toNat_of_nonneg hx.1.1]; exact hf)
      have h2 := h x.o.toNat (by rw [Int.toNat_of_nonneg hx.2.1]; exact ho)
      rw [gt_toNat] at h1 h2
      omega
    · exact h i hi
def itC (es : List E) (l : List Int) : Nat → List Int
  | 0 => l
  | k + 1 => passC es (itC es l k)
theorem itC_len (es : List E) (l : List Int) : ∀ k, (itC es l k).length = l.length
  | 0 => rfl
  | k + 1 => by simp only [itC, passC, foldC_len, itC_len es l k]
theorem passC_nn {es : List E} {l : List Int} (h : NN0 l) : NN0 (passC es l) := (foldC_sum es h).1
theorem itC_nn {es : List E} {l : List Int} (h : NN0 l) : ∀ k, NN0 (itC es l k)
  | 0 => h
  | k + 1 => passC_nn (itC_nn h k)
/-- The end is reached, and it is a fixed point. -/
theorem limC_reach {es : List E} : ∀ (n : Nat) {l : List Int}, NN0 l → sumN l ≤ n → (∃ k, limC es l = itC es l k) ∧ passC es (limC es l) = limC es l := by
  intro n
  induction n with
  | zero =>
    intro l h hn
    rw [limC_eq h]
    have hs := foldC_sum es h
    have : passC es l = l := hs.2.2 (by have := hs.2.1; omega)
    rw [if_pos this]
    exact ⟨⟨0, rfl⟩, this⟩
  | succ n ih =>
    intro l h hn
    rw [limC_eq h]
    split
    · rename_i e
      exact ⟨⟨0, rfl⟩, e⟩
    · rename_i e
      have hs := foldC_sum es h
      have hlt : sumN (passC es l) < sumN l := Nat.lt_of_le_of_ne hs.2.1 (fun e' => e (hs.2.2 e'))
      obtain ⟨⟨k, hk⟩, h2⟩ := ih (passC_nn (es := es) h) (by omega)
      refine ⟨⟨k + 1, ?_⟩, h2⟩
      rw [hk]
      clear hk h2 ih
      induction k with
      | zero => rfl
      | succ k ih => simp only [itC] at ih ⊢; rw [ih]
theorem fold_fix_flat : ∀ {es : List E} {m : List Int}, NN0 m → Ends m.length es → es.foldl stepC m = m → Flat es m
  | [], m, _, _, _ => fun x hx => by cases hx
  | x :: es, m, hn, he, h => by
    rw [List.foldl_cons] at h
    have s1 := stepC_sum hn x
    have s2 := foldC_sum es (stepC_nn hn x)
    have e1 : stepC m x = m := s1.2 (by have := s2.2.1; rw [h] at this; omega)
    rw [e1] at h
    intro y hy
    simp only [List.mem_cons] at hy
    rcases hy with rfl | hy
    · have hx := he y (by simp)
      by_cases hd : gt m y.f = mn2 (gt m y.f) (gt m y.o) ∧ gt m y.o = mn2 (gt m y.f) (gt m y.o)
      · exact hd.1.trans hd.2.symm
      · exact absurd e1 (stepC_diff hx.1 hx.2 hd)
    · exact fold_fix_flat hn he.tail h y hy
theorem gt_ext {a b : List Int} (hl : a.length = b.length) (h : ∀ i : Nat, i < a.length → gt a (i : Int) = gt b (i : Int)) : a = b := by
  refine List.ext_getElem hl fun i h1 h2 => ?_
  have := h i h1
  rw [gt_nat h1, gt_nat h2] at this
  exact this
/-- A pass that brings nobody to the end is over. -/
theorem stuck {es : List E} {l : List Int} (hn : NN0 l) (he : Ends l.length es) (h : ∀ i : Nat, gt (passC es l) (i : Int) = gt (limC es l) (i : Int) → gt l (i : Int) = gt (limC es l) (i : Int)) : l = limC es l := by
  obtain ⟨⟨k, hk⟩, hfix⟩ := limC_reach (es := es) (sumN l) hn (Nat.le_refl _)
  have hlen : (limC es l).length = l.length := by rw [hk, itC_len]
  have hmn : NN0 (limC es l) := by rw [hk]; exact itC_nn hn k
  have hflat : Flat es (limC es l) := fold_fix_flat hmn (by rw [hlen]; exact he) hfix
  have hle : ∀ k, Le (itC es l k) l := fun k => by
    induction k with
    | zero => exact fun _ => Int.le_refl _
    | succ k ih => exact fun i => Int.le_trans (foldC_le (by rw [itC_len]; exact he) i) (ih i)
  have hm : Le (limC es l) l := by rw [hk]; exact hle k
  refine gt_ext hlen.symm fun i hi => ?_
  refine Classical.byContradiction fun hne => ?_
  have hc := hm i
  have key : ∀ k, ∀ j : Nat, gt l (j : Int) ≠ gt (limC es l) (j : Int) ∧ gt (limC es l) (j : Int) = gt (limC es l) (i : Int) → gt (limC es l) (i : Int) < gt (itC es l k) (j : Int) := fun k => by
    induction k with
    | zero => intro j hj; have := hm j; simp only [itC]; omega
    | succ k ih =>
      refine foldC_above (fun v => gt l v ≠ gt (limC es l) v ∧ gt (limC es l) v = gt (limC es l) (i : Int)) _ (by rw [itC_len]; exact he) (fun x hx => ?_) ih
      have hxr := he x hx
      have hfx := hflat x hx
      have one : gt l x.f = gt (limC es l) x.f ↔ gt l x.o = gt (limC es l) x.o := by
        constructor
        · intro e
          have := (foldC_cross he hm hflat hx (.inl e)).2
          rw [gt_f hxr.2.1, gt_f (l := limC es l) hxr.2.1] at this
          have := h _ this
          rw [gt_toNat, gt_toNat] at this
          exact this
        · intro e
          have := (foldC_cross he hm hflat hx (.inr e)).1
          rw [gt_f hxr.1.1, gt_f (l := limC es l) hxr.1.1] at this
          have := h _ this
          rw [gt_toNat, gt_toNat] at this
          exact this
      simp only [ne_eq, hfx]
      rw [hfx] at one
      rw [one]
  have := key k i ⟨hne, rfl⟩
  rw [← hk] at this
  omega
theorem countP_lt {p q : Nat → Bool} {l : List Nat} (h : ∀ i ∈ l, p i = true → q i = true) {a : Nat} (ha : a ∈ l) (h1 : q a = true) (h2 : p a = false) : l.countP p < l.countP q := by
  induction l with
  | nil => cases ha
  | cons b l ih =>
    simp only [List.countP_cons]
    have hm := List.countP_mono_left (l := l) (p := p) (q := q) fun i hi => h i (by simp [hi])
    have hb := h b (by simp)
    simp only [List.mem_cons] at ha
    rcases ha with rfl | ha
    · simp only [h1, h2]
      simp
      omega
    · have := ih (fun i hi => h i (by simp [hi])) ha
      cases hp : p b
      · simp only [Bool.false_eq_true, if_false]; omega
      · simp only [hb hp, if_true]; omega
theorem itC_lim {es : List E} {l : List Int} (hn : NN0 l) : ∀ k, limC es (itC es l k) = limC es l
  | 0 => rfl
  | k + 1 => by
    have ih := itC_lim (es := es) hn k
    simp only [itC]
    rw [limC_eq (itC_nn hn k)] at ih
    split at ih
    · rename_i e; rw [e, limC_eq (itC_nn hn k), if_pos e, ih]
    · exact ih
theorem itC_end {es : List E} {l : List Int} (hn : NN0 l) (he : Ends l.length es) : itC es l l.length = limC es l := by
  have key : ∀ k, itC es l k = limC es l ∨ k ≤ (List.range l.length).countP fun i : Nat => decide (gt (itC es l k) (i : Int) = gt (limC es l) (i : Int)) := by
    intro k
    induction k with
    | zero => exact .inr (Nat.zero_le _)
    | succ k ih =>
      by_cases hk : itC es l k = limC es l
      · refine .inl ?_
        simp only [itC, hk]
        exact (limC_reach _ hn (Nat.le_refl _)).2
      · refine .inr ?_
        have hk2 := ih.resolve_left hk
        have hnk := itC_nn (es := es) hn k
        have hek : Ends (itC es l k).length es := by rw [itC_len]; exact he
        have hlk := itC_lim (es := es) hn k
        have hst : ¬ ∀ i : Nat, gt (passC es (itC es l k)) (i : Int) = gt (limC es (itC es l k)) (i : Int) → gt (itC es l k) (i : Int) = gt (limC es (itC es l k)) (i : Int) := fun h => by
          have := stuck hnk hek h
          rw [hlk] at this
          exact hk this
        simp only [Classical.not_forall] at hst
        obtain ⟨i, h1, h2⟩ := hst
        rw [hlk] at h1 h2
        obtain ⟨⟨k', hk'⟩, hfix⟩ := limC_reach (es := es) (sumN l) hn (Nat.le_refl _)
        have hlen : (limC es l).length = l.length := by rw [hk', itC_len]
        have hil : i < l.length := by
          refine Classical.byContradiction fun h => h2 ?_
          simp only [gt, Int.toNat_natCast, List.getD_eq_getElem?_getD]
          rw [List.getElem?_eq_none (by rw [itC_len]; omega), List.getElem?_eq_none (by rw [hlen]; omega)]
        have hmn : NN0 (limC es l) := by rw [hk']; exact itC_nn hn k'
        have hflat : Flat es (limC es l) := fold_fix_flat hmn (by rw [hlen]; exact he) hfix
        have hm : Le (limC es l) (itC es l k) := by
          rw [← hlk]
          obtain ⟨⟨k2, hk2⟩, _⟩ := limC_reach (es := es) (sumN (itC es l k)) hnk (Nat.le_refl _)
          rw [hk2]
          clear hk2
          induction k2 with
          | zero => exact fun _ => Int.le_refl _
          | succ k2 ih2 => exact fun i => Int.le_trans (foldC_le (by rw [itC_len]; exact hek) i) (ih2 i)
        have hle := foldC_le hek
        have hge := foldC_ge hek hm hflat
        have := countP_lt (p := fun i => decide (gt (itC es l k) (i : Int) = gt (limC es l) (i : Int))) (q := fun i => decide (gt (itC es l (k + 1)) (i : Int) = gt (limC es l) (i : Int))) (l := List.range l.length)
          (fun j _ hj => by
            simp only [decide_eq_true_eq] at hj ⊢
            exact Int.le_antisymm (Int.le_trans (hle j) (Int.le_of_eq hj)) (hge j)) (a := i) (by simpa using hil) (decide_eq_true h1) (decide_eq_false h2)
        omega
  rcases key l.length with h | h
  · exact h
  · obtain ⟨⟨k', hk'⟩, hfix⟩ := limC_reach (es := es) (sumN l) hn (Nat.le_refl _)
    have hlen : (limC es l).length = l.length := by rw [hk', itC_len]
    have hall : (List.range l.length).countP (fun i : Nat => decide (gt (itC es l l.length) (i : Int) = gt (limC es l) (i : Int))) = (List.range l.length).length := Nat.le_antisymm List.countP_le_length (by simpa using h)
    rw [List.countP_eq_length] at hall
    refine gt_ext (by rw [itC_len, hlen]) fun i hi => ?_
    rw [itC_len] at hi
    simpa using hall i (by simpa using hi)
end Go.Am
namespace Go.Am
open Go
set_option linter.unusedVariables false
set_option linter.unusedSimpArgs false
/- r05.Components -/
def c_r05_Components_r0 (F : String → Nat) : List LI := [⟨some 1, .bx (.t 0), none⟩,
  ⟨some 2, .mov (.k (.nl 2)), none⟩,
  ⟨some 3, .mov (.k (.int .i64 (0))), none⟩]
def c_r05_Components_r1 (F : String → Nat) : List LI := [⟨some 16, .load true 2 (.t 1), none⟩,
  ⟨some 17, .call (F "r05.Valid") [.t 16] [], none⟩,
  ⟨some 4, .mov (.t 17), none⟩]
def c_r05_Components_r2 (F : String → Nat) : List LI := [⟨some 18, .mov (.t 4), none⟩,
  ⟨some 19, .bin .neq (.t 18) (.k (.int .i64 (0))), none⟩]
def c_r05_Components_r3 (F : String → Nat) : List LI := [⟨some 20, .mov (.t 4), none⟩,
  ⟨some 2, .mov (.k (.nl 2)), none⟩,
  ⟨some 3, .mov (.t 20), none⟩]
def c_r05_Components_r4 (F : String → Nat) : List LI := [⟨some 21, .fad 0 (.t 1), none⟩,
  ⟨some 22, .load false 1 (.t 21), none⟩,
  ⟨some 23, .len (.t 22), none⟩,
  ⟨some 24, .call (F "r05.Numbers") [.k (.int .i64 (0)), .t 23] [], none⟩,
  ⟨some 5, .mov (.t 24), none⟩]
def c_r05_Components_r5 (F : String → Nat) : List LI := [⟨some 6, .mov (.k (.int .i64 (0))), none⟩]
def c_r05_Components_r6 (F : String → Nat) : List LI := [⟨some 25, .mov (.t 6), none⟩,
  ⟨some 26, .fad 0 (.t 1), none⟩,
  ⟨some 27, .load false 1 (.t 26), none⟩,
  ⟨some 28, .len (.t 27), none⟩,
  ⟨some 29, .bin .lss (.t 25) (.t 28), none⟩]
def c_r05_Components_r7 (F : String → Nat) : List LI := [⟨some 7, .mov (.k (.int .i64 (0))), none⟩]
def c_r05_Components_r8 (F : String → Nat) : List LI := [⟨some 32, .mov (.t 7), none⟩,
  ⟨some 33, .fad 1 (.t 1), none⟩,
  ⟨some 34, .load false 1 (.t 33), none⟩,
  ⟨some 35, .len (.t 34), none⟩,
  ⟨some 36, .bin .lss (.t 32) (.t 35), none⟩]
def c_r05_Components_r9 (F : String → Nat) : List LI := [⟨some 39, .fad 1 (.t 1), none⟩,
  ⟨some 40, .load false 1 (.t 39), none⟩,
  ⟨some 41, .mov (.t 7), none⟩,
  ⟨some 42, .iad 3 (.t 40) (.t 41), none⟩,
  ⟨some 43, .fad 1 (.t 42), none⟩,
  ⟨some 44, .load false 1 (.t 43), none⟩,
  ⟨some 45, .fad 1 (.t 1), none⟩,
  ⟨some 46, .load false 1 (.t 45), none⟩,
  ⟨some 47, .mov (.t 7), none⟩,
  ⟨some 48, .iad 3 (.t 46) (.t 47), none⟩,
  ⟨some 49, .fad 2 (.t 48), none⟩,
  ⟨some 50, .load false 1 (.t 49), none⟩,
  ⟨some 8, .mov (.t 44), none⟩,
  ⟨some 9, .mov (.t 50), none⟩]
def c_r05_Components_r10 (F : String → Nat) : List LI := [⟨some 51, .mov (.t 5), none⟩,
  ⟨some 52, .mov (.t 8), none⟩,
  ⟨some 53, .iad 1 (.t 51) (.t 52), none⟩,
  ⟨some 54, .load false 1 (.t 53), none⟩,
  ⟨some 55, .mov (.t 5), none⟩,
  ⟨some 56, .mov (.t 9), none⟩,
  ⟨some 57, .iad 1 (.t 55) (.t 56), none⟩,
  ⟨some 58, .load false 1 (.t 57), none⟩,
  ⟨some 59, .mn [.t 54, .t 58], none⟩,
  ⟨some 10, .mov (.t 59), none⟩]
def c_r05_Components_r11 (F : String → Nat) : List LI := [⟨some 60, .mov (.t 5), none⟩,
  ⟨some 61, .mov (.t 8), none⟩,
  ⟨some 62, .mov (.t 5), none⟩,
  ⟨some 63, .mov (.t 9), none⟩,
  ⟨some 64, .mov (.t 10), none⟩,
  ⟨some 65, .mov (.t 10), none⟩,
  ⟨some 66, .iad 1 (.t 60) (.t 61), none⟩,
  ⟨none, .store 1 (.t 66) (.t 64), none⟩,
  ⟨some 67, .iad 1 (.t 62) (.t 63), none⟩,
  ⟨none, .store 1 (.t 67) (.t 65), none⟩]
def c_r05_Components_r12 (F : String → Nat) : List LI := [⟨some 37, .mov (.t 7), none⟩,
  ⟨some 38, .bin .add (.t 37) (.k (.int .i64 (1))), none⟩,
  ⟨some 7, .mov (.t 38), none⟩]
def c_r05_Components_b13 (F : String → Nat) : LC := (.seq (.seq (.reg (c_r05_Components_r8 F) [1, 5, 6, 7, 36]) (.cond (.t 36) .skip (.exit 2))) (.seq (.block 3 (.seq (.dreg [] (c_r05_Components_r9 F) [1, 5, 6, 7, 8, 9]) (.seq (.dreg [] (c_r05_Components_r10 F) [1, 5, 6, 7, 8, 9, 10]) (.reg (c_r05_Components_r11 F) [1, 5, 6, 7])))) (.reg (c_r05_Components_r12 F) [1, 5, 6, 7])))
def c_r05_Components_r14 (F : String → Nat) : List LI := [⟨some 30, .mov (.t 6), none⟩,
  ⟨some 31, .bin .add (.t 30) (.k (.int .i64 (1))), none⟩,
  ⟨some 6, .mov (.t 31), none⟩]
def c_r05_Components_b15 (F : String → Nat) : LC := (.seq (.seq (.reg (c_r05_Components_r6 F) [1, 5, 6, 29]) (.cond (.t 29) .skip (.exit 0))) (.seq (.block 1 (.seq (.reg (c_r05_Components_r7 F) [1, 5, 6, 7]) (.block 2 (.loop [1, 5, 6, 7] (c_r05_Components_b13 F))))) (.reg (c_r05_Components_r14 F) [1, 5, 6])))
def c_r05_Components_r16 (F : String → Nat) : List LI := [⟨some 11, .mov (.k (.nl 2)), none⟩]
def c_r05_Components_r17 (F : String → Nat) : List LI := [⟨some 12, .mov (.k (.int .i64 (0))), none⟩]
def c_r05_Components_r18 (F : String → Nat) : List LI := [⟨some 68, .mov (.t 12), none⟩,
  ⟨some 69, .fad 0 (.t 1), none⟩,
  ⟨some 70, .load false 1 (.t 69), none⟩,
  ⟨some 71, .len (.t 70), none⟩,
  ⟨some 72, .bin .lss (.t 68) (.t 71), none⟩]
def c_r05_Components_r19 (F : String → Nat) : List LI := [⟨some 75, .mov (.t 5), none⟩,
  ⟨some 76, .mov (.t 12), none⟩,
  ⟨some 77, .iad 1 (.t 75) (.t 76), none⟩,
  ⟨some 78, .load false 1 (.t 77), none⟩,
  ⟨some 79, .mov (.t 12), none⟩,
  ⟨some 80, .bin .neq (.t 78) (.t 79), none⟩]
def c_r05_Components_r20 (F : String → Nat) : List LI := [⟨some 13, .alloc [.nl 1, .nl 1], none⟩]
def c_r05_Components_r21 (F : String → Nat) : List LI := [⟨some 14, .mov (.k (.int .i64 (0))), none⟩]
def c_r05_Components_r22 (F : String → Nat) : List LI := [⟨some 81, .mov (.t 14), none⟩,
  ⟨some 82, .fad 0 (.t 1), none⟩,
  ⟨some 83, .load false 1 (.t 82), none⟩,
  ⟨some 84, .len (.t 83), none⟩,
  ⟨some 85, .bin .lss (.t 81) (.t 84), none⟩]
def c_r05_Components_r23 (F : String → Nat) : List LI := [⟨some 88, .mov (.t 5), none⟩,
  ⟨some 89, .mov (.t 14), none⟩,
  ⟨some 90, .iad 1 (.t 88) (.t 89), none⟩,
  ⟨some 91, .load false 1 (.t 90), none⟩,
  ⟨some 92, .mov (.t 12), none⟩,
  ⟨some 93, .bin .eql (.t 91) (.t 92), none⟩]
def c_r05_Components_r24 (F : String → Nat) : List LI := [⟨some 94, .fad 0 (.t 13), none⟩,
  ⟨some 95, .load false 1 (.t 94), none⟩,
  ⟨some 96, .mov (.t 14), none⟩,
  ⟨some 97, .buildSl 1 8 (.int .i64 (0)) 1 [(0, .t 96)], none⟩,
  ⟨some 98, .app 1 8 (.t 95) (.t 97), none⟩,
  ⟨some 99, .fad 0 (.t 13), none⟩,
  ⟨none, .store 1 (.t 99) (.t 98), none⟩]
def c_r05_Components_r25 (F : String → Nat) : List LI := [⟨some 86, .mov (.t 14), none⟩,
  ⟨some 87, .bin .add (.t 86) (.k (.int .i64 (1))), none⟩,
  ⟨some 14, .mov (.t 87), none⟩]
def c_r05_Components_b26 (F : String → Nat) : LC := (.seq (.seq (.reg (c_r05_Components_r22 F) [1, 5, 11, 12, 13, 14, 85]) (.cond (.t 85) .skip (.exit 6))) (.seq (.block 7 (.seq (.reg (c_r05_Components_r23 F) [1, 5, 11, 12, 13, 14, 93]) (.cond (.t 93) (.reg (c_r05_Components_r24 F) [1, 5, 11, 12, 13, 14]) .skip))) (.reg (c_r05_Components_r25 F) [1, 5, 11, 12, 13, 14])))
def c_r05_Components_r27 (F : String → Nat) : List LI := [⟨some 15, .mov (.k (.int .i64 (0))), none⟩]
def c_r05_Components_r28 (F : String → Nat) : List LI := [⟨some 100, .mov (.t 15), none⟩,
  ⟨some 101, .fad 1 (.t 1), none⟩,
  ⟨some 102, .load false 1 (.t 101), none⟩,
  ⟨some 103, .len (.t 102), none⟩,
  ⟨some 104, .bin .lss (.t 100) (.t 103), none⟩]
def c_r05_Components_r29 (F : String → Nat) : List LI := [⟨some 107, .mov (.t 5), none⟩,
  ⟨some 108, .fad 1 (.t 1), none⟩,
  ⟨some 109, .load false 1 (.t 108), none⟩,
  ⟨some 110, .mov (.t 15), none⟩,
  ⟨some 111, .iad 3 (.t 109) (.t 110), none⟩,
  ⟨some 112, .fad 1 (.t 111), none⟩,
  ⟨some 113, .load false 1 (.t 112), none⟩,
  ⟨some 114, .iad 1 (.t 107) (.t 113), none⟩,
  ⟨some 115, .load false 1 (.t 114), none⟩,
  ⟨some 116, .mov (.t 12), none⟩,
  ⟨some 117, .bin .eql (.t 115) (.t 116), none⟩]
def c_r05_Components_r30 (F : String → Nat) : List LI := [⟨some 118, .fad 1 (.t 13), none⟩,
  ⟨some 119, .load false 1 (.t 118), none⟩,
  ⟨some 120, .mov (.t 15), none⟩,
  ⟨some 121, .buildSl 1 8 (.int .i64 (0)) 1 [(0, .t 120)], none⟩,
  ⟨some 122, .app 1 8 (.t 119) (.t 121), none⟩,
  ⟨some 123, .fad 1 (.t 13), none⟩,
  ⟨none, .store 1 (.t 123) (.t 122), none⟩]
def c_r05_Components_r31 (F : String → Nat) : List LI := [⟨some 105, .mov (.t 15), none⟩,
  ⟨some 106, .bin .add (.t 105) (.k (.int .i64 (1))), none⟩,
  ⟨some 15, .mov (.t 106), none⟩]
def c_r05_Components_b32 (F : String → Nat) : LC := (.seq (.seq (.reg (c_r05_Components_r28 F) [1, 5, 11, 12, 13, 15, 104]) (.cond (.t 104) .skip (.exit 8))) (.seq (.block 9 (.seq (.reg (c_r05_Components_r29 F) [1, 5, 11, 12, 13, 15, 117]) (.cond (.t 117) (.reg (c_r05_Components_r30 F) [1, 5, 11, 12, 13, 15]) .skip))) (.reg (c_r05_Components_r31 F) [1, 5, 11, 12, 13, 15])))
def c_r05_Components_r33 (F : String → Nat) : List LI := [⟨some 124, .mov (.t 11), none⟩,
  ⟨some 125, .load true 2 (.t 13), none⟩,
  ⟨some 126, .buildSl 2 48 (.agg [.lst 1 [], .lst 1 []]) 1 [(0, .t 125)], none⟩,
  ⟨some 127, .app 2 48 (.t 124) (.t 126), none⟩,
  ⟨some 11, .mov (.t 127), none⟩]
def c_r05_Components_r34 (F : String → Nat) : List LI := [⟨some 73, .mov (.t 12), none⟩,
  ⟨some 74, .bin .add (.t 73) (.k (.int .i64 (1))), none⟩,
  ⟨some 12, .mov (.t 74), none⟩]
def c_r05_Components_b35 (F : String → Nat) : LC := (.seq (.seq (.reg (c_r05_Components_r18 F) [1, 5, 11, 12, 72]) (.cond (.t 72) .skip (.exit 4))) (.seq (.block 5 (.seq (.seq (.reg (c_r05_Components_r19 F) [1, 5, 11, 12, 80]) (.cond (.t 80) (.exit 5) .skip)) (.seq (.reg (c_r05_Components_r20 F) [1, 5, 11, 12, 13]) (.seq (.seq (.reg (c_r05_Components_r21 F) [1, 5, 11, 12, 13, 14]) (.block 6 (.loop [1, 5, 11, 12, 13, 14] (c_r05_Components_b26 F)))) (.seq (.seq (.reg (c_r05_Components_r27 F) [1, 5, 11, 12, 13, 15]) (.block 8 (.loop [1, 5, 11, 12, 13, 15] (c_r05_Components_b32 F)))) (.reg (c_r05_Components_r33 F) [1, 5, 11, 12])))))) (.reg (c_r05_Components_r34 F) [1, 5, 11, 12])))
def c_r05_Components_r36 (F : String → Nat) : List LI := [⟨some 128, .mov (.t 11), none⟩,
  ⟨some 2, .mov (.t 128), none⟩,
  ⟨some 3, .mov (.k (.int .i64 (0))), none⟩]
def c_r05_Components (F : String → Nat) : LC := (.seq (.reg (c_r05_Components_r0 F) [1]) (.seq (.seq (.reg (c_r05_Components_r1 F) [1, 4]) (.seq (.reg (c_r05_Components_r2 F) [1, 4, 19]) (.cond (.t 19) (.seq (.reg (c_r05_Components_r3 F) [2, 3]) .ret) .skip))) (.seq (.reg (c_r05_Components_r4 F) [1, 5]) (.seq (.seq (.reg (c_r05_Components_r5 F) [1, 5, 6]) (.block 0 (.loop [1, 5, 6] (c_r05_Components_b15 F)))) (.seq (.reg (c_r05_Components_r16 F) [1, 5, 11]) (.seq (.seq (.reg (c_r05_Components_r17 F) [1, 5, 11, 12]) (.block 4 (.loop [1, 5, 11, 12] (c_r05_Components_b35 F)))) (.seq (.reg (c_r05_Components_r36 F) [2, 3]) .ret)))))))
def h_r05_Components : Hints := ⟨[], fun _ => [], tab [(0, [1]), (1, [1, 4]), (2, [1, 4, 19]), (3, [2, 3]), (4, [1, 5]), (5, [1, 5, 6]), (6, [1, 5, 6, 29]), (7, [1, 5, 6]), (8, [1, 5, 6, 7]), (9, [1, 5, 6, 7, 36]), (10, [1, 5, 6, 7]), (11, [1, 5, 6, 7, 8, 9]), (12, [1, 5, 6, 7, 8, 9, 10]), (13, [1, 5, 6, 7]), (14, [1, 5, 11]), (15, [1, 5, 11, 12]), (16, [1, 5, 11, 12, 72]), (17, [1, 5, 11, 12]), (18, [1, 5, 11, 12, 80]), (19, [1, 5, 11, 12, 13]), (20, [1, 5, 11, 12, 13, 14]), (21, [1, 5, 11, 12, 13, 14, 85]), (22, [1, 5, 11, 12, 13, 14]), (23, [1, 5, 11, 12, 13, 14, 93]), (24, [1, 5, 11, 12, 13, 14]), (25, [1, 5, 11, 12, 13, 15]), (26, [1, 5, 11, 12, 13, 15, 104]), (27, [1, 5, 11, 12, 13, 15]), (28, [1, 5, 11, 12, 13, 15, 117]), (29, [1, 5, 11, 12, 13, 15]), (30, [1, 5, 11, 12]), (31, [2, 3])], tab [(6, [1, 5, 6]), (9, [1, 5, 6, 7]), (16, [1, 5, 11, 12]), (21, [1, 5, 11, 12, 13, 14]), (26, [1, 5, 11, 12, 13, 15])]⟩

attribute [go_sem] c_r05_Components_r0 c_r05_Components_r1 c_r05_Components_r2 c_r05_Components_r3 c_r05_Components_r4 c_r05_Components_r5 c_r05_Components_r6 c_r05_Components_r7 c_r05_Components_r8 c_r05_Components_r9 c_r05_Components_r10 c_r05_Components_r11 c_r05_Components_r12 c_r05_Components_r14 c_r05_Components_r16 c_r05_Components_r17 c_r05_Components_r18 c_r05_Components_r19 c_r05_Components_r20 c_r05_Components_r21 c_r05_Components_r22 c_r05_Components_r23 c_r05_Components_r24 c_r05_Components_r25 c_r05_Components_r27 c_r05_Components_r28 c_r05_Components_r29 c_r05_Components_r30 c_r05_Components_r31 c_r05_Components_r33 c_r05_Components_r34 c_r05_Components_r36 c_r05_Components
section
variable (P : Program) (F : String → Nat)
def K_r05_Components : Prop := ∀ g : G, FC P (F "r05.Components") [gD g] (.tup [.arr 2 (pts (compsG g).1), .int .i64 (compsG g).2]) []
def Small (l : List Mo) : Prop := ∀ m ∈ l, m.n.length ≤ maxL ∧ m.e.length ≤ maxL
end
section
variable {P : Program} {F : String → Nat} {α : Type}
theorem w_r05_Components (hv : K_r05_Valid P F) (hn : K_r05_Numbers P F) (g : G) : W P (c_r05_Components F) (Done [.t 2, .t 3] [] (.tup [.arr 2 (pts (compsG g).1), .int .i64 (compsG g).2]) []) (init [gD g]) := by
  refine W_of ?_
  obtain ⟨gn, ge⟩ := g
  simp (config := { maxSteps := 1000000 }) (disch := first | omega | (simp only [go_sem]; omega)) only [go_sem, ↓reduceIte, gD]
  refine call_by (hv ⟨gn, ge⟩) ?_
  simp (config := { maxSteps := 1000000 }) (disch := first | omega | (simp only [go_sem]; omega)) only [go_sem, ↓reduceIte]
  refine bran_ndec (fun c1 => ?_) (fun c1 => ?_)
  · simp (config := { maxSteps := 1000000 }) (disch := first | omega | (simp only [go_sem]; omega)) only [go_sem, ↓reduceIte]
    simp [compsG, c1, pts]
  · obtain ⟨v1, v2, v3, v4⟩ := valid_spec c1
    simp only at v1 v2 v3 v4
    have hc : compsG ⟨gn, ge⟩ = (partsC ge (limC ge (nums 0 gn.length)) gn.length, 0) := by simp [compsG, c1]
    rw [hc]
    have e1 := nums_len 0 gn.length
    have hn0 : NN0 (nums 0 gn.length) := fun i => by
      by_cases h : i < gn.length
      · rw [gt_nat (by rw [e1]; exact h)]; simp [nums]
      · simp [gt, e1, h]
    have hen : Ends gn.length ge := fun x hx => by have := fits_spec (v4 x hx); omega
    have hend := itC_end hn0 (es := ge) (by rw [e1]; exact hen)
    rw [e1] at hend
    rw [← hend]
    have hil : ∀ k, (itC ge (nums 0 gn.length) k).length = gn.length := fun k => by rw [itC_len, e1]
    simp (config := { maxSteps := 1000000 }) (disch := first | omega | (simp only [go_sem]; omega)) only [go_sem, ↓reduceIte]
    refine call_by (hn _ _ (by omega) (by omega) (by omega)) ?_
    simp (config := { maxSteps := 1000000 }) (disch := first | omega | (simp only [go_sem]; omega)) only [go_sem, ↓reduceIte, e1]
    refine W_loop (fun i : Nat => ⟨[(1, .pt 0 0), (5, .sl 1 0 gn.length), (6, .int .i64 i)], [(0, .box [.lst 1 (ints gn), .lst 3 (eds ge)]), (1, .arr 1 (ints (itC ge (nums 0 gn.length) i)))], 2⟩)
      (fun i => i ≤ gn.length) (fun i => gn.length - i) 0 ?_ ?_ ?_
    · simp (config := { maxSteps := 1000000 }) (disch := first | omega | (simp only [go_sem]; omega)) only [go_sem, ↓reduceIte, e1, itC]
      rfl
    · omega
    · intro i hi
      have hli := hil i
      simp (config := { maxSteps := 1000000 }) (disch := first | omega | (simp only [go_sem]; omega)) only [go_sem, ↓reduceIte, c_r05_Components_b15]
      refine bran_dec (fun c => ?_) (fun c => ?_)
      · simp (config := { maxSteps := 1000000 }) (disch := first | omega | (simp only [go_sem]; omega)) only [go_sem, ↓reduceIte, hli]
        refine W_loop (fun j : Nat => ⟨[(1, .pt 0 0), (5, .sl 1 0 gn.length), (6, .int .i64 i), (7, .int .i64 j)], [(0, .box [.lst 1 (ints gn), .lst 3 (eds ge)]), (1, .arr 1 (ints ((ge.take j).foldl stepC (itC ge (nums 0 gn.length) i))))], 2⟩)
          (fun j => j ≤ ge.length) (fun j => ge.length - j) 0 ?_ ?_ ?_
        · simp (config := { maxSteps := 1000000 }) (disch := first | omega | (simp only [go_sem]; omega)) only [go_sem, ↓reduceIte, hli]
          rfl
        · omega
        · intro j hj
          have hlj : ((ge.take j).foldl stepC (itC ge (nums 0 gn.length) i)).length = gn.length := by rw [foldC_len, hli]
          simp (config := { maxSteps := 1000000 }) (disch := first | omega | (simp only [go_sem]; omega)) only [go_sem, ↓reduceIte, c_r05_Components_b13]
          refine bran_dec (fun d => ?_) (fun d => ?_)
          · have hf := fits_spec (v4 _ (gt_mem (by omega) d))
            have hst := take_gt (l := ge) (i := j) (by omega)
            have hfold : (ge.take (j + 1)).foldl stepC (itC ge (nums 0 gn.length) i) = stepC ((ge.take j).foldl stepC (itC ge (nums 0 gn.length) i)) (gt ge j) := by rw [hst, List.foldl_append]; rfl
            have hmn : ∀ a b : Int, (if b < a then b else a) = mn2 a b := fun _ _ => rfl
            simp (config := { maxSteps := 1000000 }) (disch := first | omega | (simp only [go_sem]; omega)) only [go_sem, ↓reduceIte, hlj, hmn]
            exact ⟨j + 1, by rw [hfold]; simp [stepC], by omega, by omega⟩
          · obtain rfl : j = ge.length := by omega
            simp (config := { maxSteps := 1000000 }) (disch := first | omega | (simp only [go_sem]; omega)) only [go_sem, ↓reduceIte, hlj]
            exact ⟨i + 1, by simp [itC, passC], by omega, by omega⟩
      · obtain rfl : i = gn.length := by omega
        have q1 := hil gn.length
        generalize itC ge (nums 0 gn.length) gn.length = l at q1
        have hb := idxs_len
        have hpl := partsC_len ge l
        simp (config := { maxSteps := 1000000 }) (disch := first | omega | (simp only [go_sem]; omega)) only [go_sem, ↓reduceIte, q1]
        refine W_loop (fun i : Nat => ⟨[(1, .pt 0 0), (5, .sl 1 0 gn.length), (11, .sl 2 0 (partsC ge l i).length), (12, .int .i64 i)],
          [(0, .box [.lst 1 (ints gn), .lst 3 (eds ge)]), (1, .arr 1 (ints l)), (2, .arr 2 (pts (partsC ge l i)))], 3⟩) (fun i => i ≤ gn.length) (fun i => gn.length - i) 0 ?_ ?_ ?_
        · simp (config := { maxSteps := 1000000 }) (disch := first | omega | (simp only [go_sem]; omega)) only [go_sem, ↓reduceIte, q1]
          rfl
        · omega
        · intro i hi
          have hpi := hpl i
          simp (config := { maxSteps := 1000000 }) (disch := first | omega | (simp only [go_sem]; omega)) only [go_sem, ↓reduceIte, c_r05_Components_b35]
          refine bran_dec (fun c => ?_) (fun c => ?_)
          · simp (config := { maxSteps := 1000000 }) (disch := first | omega | (simp only [go_sem]; omega)) only [go_sem, ↓reduceIte, q1]
            refine bran_ndec (fun d => ?_) (fun d => ?_)
            · simp (config := { maxSteps := 1000000 }) (disch := first | omega | (simp only [go_sem]; omega)) only [go_sem, ↓reduceIte, q1]
              exact ⟨i + 1, by simp [partsC, d], by omega, by omega⟩
            · simp (config := { maxSteps := 1000000 }) (disch := first | omega | (simp only [go_sem]; omega)) only [go_sem, ↓reduceIte, q1]
              refine W_loop (fun m : Nat => ⟨[(1, D.pt 0 0), (5, D.sl 1 0 gn.length), (11, D.sl 2 0 (partsC ge l i).length), (12, D.int IntKind.i64 i), (13, D.pt 5 0), (14, D.int IntKind.i64 m)],
                [(0, Ent.box [D.lst 1 (ints gn), D.lst 3 (eds ge)]), (1, Ent.arr 1 (ints l)), (2, Ent.arr 2 (pts (partsC ge l i))), (3, Ent.arr 1 (ints (idxs (fun n => decide (gt l n = (i : Int))) m))), (4, Ent.arr 1 []),
                  (5, Ent.box [D.sl 3 0 (idxs (fun n => decide (gt l n = (i : Int))) m).length, D.sl 4 0 0])], 6⟩) (fun m => m ≤ gn.length) (fun m => gn.length - m) 0 ?_ ?_ ?_
              · simp (config := { maxSteps := 1000000 }) (disch := first | omega | (simp only [go_sem]; omega)) only [go_sem, ↓reduceIte, q1, idxs, ints_nil]
                rfl
              · omega
              · intro m hm
                have hbm := hb (fun n => decide (gt l n = (i : Int))) m
                simp (config := { maxSteps := 1000000 }) (disch := first | omega | (simp only [go_sem]; omega)) only [go_sem, ↓reduceIte, c_r05_Components_b26]
                refine bran_dec (fun e => ?_) (fun e => ?_)
                · simp (config := { maxSteps := 1000000 }) (disch := first | omega | (simp only [go_sem]; omega)) only [go_sem, ↓reduceIte, q1]
                  refine bran_dec (fun f => ?_) (fun f => ?_)
                  · simp (config := { maxSteps := 1000000 }) (disch := first | omega | (simp only [go_sem]; omega)) only [go_sem, ↓reduceIte, q1]
                    exact ⟨m + 1, by simp [idxs, f], by omega, by omega⟩
                  · simp (config := { maxSteps := 1000000 }) (disch := first | omega | (simp only [go_sem]; omega)) only [go_sem, ↓reduceIte, q1]
                    exact ⟨m + 1, by simp [idxs, f], by omega, by omega⟩
                · obtain rfl : m = gn.length := by omega
                  simp (config := { maxSteps := 1000000 }) (disch := first | omega | (simp only [go_sem]; omega)) only [go_sem, ↓reduceIte, q1]
                  refine W_loop (fun k : Nat => ⟨[(1, D.pt 0 0), (5, D.sl 1 0 gn.length), (11, D.sl 2 0 (partsC ge l i).length), (12, D.int IntKind.i64 i), (13, D.pt 5 0), (15, D.int IntKind.i64 k)],
                    [(0, Ent.box [D.lst 1 (ints gn), D.lst 3 (eds ge)]), (1, Ent.arr 1 (ints l)), (2, Ent.arr 2 (pts (partsC ge l i))), (3, Ent.arr 1 (ints (idxs (fun n => decide (gt l n = (i : Int))) gn.length))),
                      (4, Ent.arr 1 (ints (idxs (fun m => decide (gt l (gt ge m).f = (i : Int))) k))),
                      (5, Ent.box [D.sl 3 0 (idxs (fun n => decide (gt l n = (i : Int))) gn.length).length, D.sl 4 0 (idxs (fun m => decide (gt l (gt ge m).f = (i : Int))) k).length])], 6⟩) (fun k => k ≤ ge.length) (fun k => ge.length - k) 0 ?_ ?_ ?_
                  · simp (config := { maxSteps := 1000000 }) (disch := first | omega | (simp only [go_sem]; omega)) only [go_sem, ↓reduceIte, q1, idxs, ints_nil]
                    rfl
                  · omega
                  · intro k hk
                    have hbk := hb (fun m => decide (gt l (gt ge m).f = (i : Int))) k
                    simp (config := { maxSteps := 1000000 }) (disch := first | omega | (simp only [go_sem]; omega)) only [go_sem, ↓reduceIte, c_r05_Components_b32]
                    refine bran_dec (fun e => ?_) (fun e => ?_)
                    · have hf := fits_spec (v4 _ (gt_mem (by omega) e))
                      simp (config := { maxSteps := 1000000 }) (disch := first | omega | (simp only [go_sem]; omega)) only [go_sem, ↓reduceIte, q1]
                      refine bran_dec (fun f => ?_) (fun f => ?_)
                      · simp (config := { maxSteps := 1000000 }) (disch := first | omega | (simp only [go_sem]; omega)) only [go_sem, ↓reduceIte, q1]
                        exact ⟨k + 1, by simp [idxs, f], by omega, by omega⟩
                      · simp (config := { maxSteps := 1000000 }) (disch := first | omega | (simp only [go_sem]; omega)) only [go_sem, ↓reduceIte, q1]
                        exact ⟨k + 1, by simp [idxs, f], by omega, by omega⟩
                    · obtain rfl : k = ge.length := by omega
                      simp (config := { maxSteps := 1000000 }) (disch := first | omega | (simp only [go_sem]; omega)) only [go_sem, ↓reduceIte, q1]
                      exact ⟨i + 1, by simp [partsC, d, partC, q1], by omega, by omega⟩
          · obtain rfl : i = gn.length := by omega
            simp (config := { maxSteps := 1000000 }) (disch := first | omega | (simp only [go_sem]; omega)) only [go_sem, ↓reduceIte, q1]
theorem small_parts (es : List E) (l : List Int) (h1 : es.length ≤ maxL) (h2 : l.length ≤ maxL) : ∀ i, Small (partsC es l i)
  | 0 => fun m hm => by simp [partsC] at hm
  | i + 1 => by
    simp only [partsC]
    split
    · intro m hm
      simp only [List.mem_append, List.mem_singleton] at hm
      rcases hm with hm | rfl
      · exact small_parts es l h1 h2 i m hm
      · have a := idxs_len (fun n => decide (gt l n = (i : Int))) l.length
        have b := idxs_len (fun m => decide (gt l (gt es m).f = (i : Int))) es.length
        exact ⟨by simp only [partC]; omega, by simp only [partC]; omega⟩
    · exact small_parts es l h1 h2 i
theorem comps_small (g : G) (h1 : g.n.length ≤ 45) (h2 : g.e.length ≤ 90) : Small (compsG g).1 ∧ (compsG g).1.length ≤ 45 := by
  unfold compsG
  split
  · exact ⟨fun m hm => by simp at hm, by simp⟩
  · rename_i h
    obtain ⟨v1, v2, v3, v4⟩ := valid_spec (g := g) (by simpa using h)
    have hn0 : NN0 (nums 0 g.n.length) := fun i => by
      have e1 := nums_len 0 g.n.length
      by_cases h : i < g.n.length
      · rw [gt_nat (by rw [e1]; exact h)]; simp [nums]
      · simp [gt, e1, h]
    obtain ⟨⟨k, hk⟩, _⟩ := limC_reach (es := g.e) _ hn0 (Nat.le_refl _)
    have hl : (limC g.e (nums 0 g.n.length)).length = g.n.length := by rw [hk, itC_len, nums_len]
    have := partsC_len g.e (limC g.e (nums 0 g.n.length)) g.n.length
    exact ⟨small_parts _ _ (by unfold maxL; omega) (by unfold maxL; omega) _, by simp only; omega⟩
end
end Go.Am
namespace Go.Am
open Go
set_option linter.unusedVariables false
set_option linter.unusedSimpArgs false
section
variable {α : Type} [Inhabited α]
end
theorem NN0_mem {l : List Int} : (∀ x ∈ l, 0 ≤ x) → NN0 l := fun h i => by
  by_cases c : i < l.length
  · exact h _ (gt_mem (by omega) (by omega))
  · simp only [gt, List.getD_eq_getElem?_getD, Int.toNat_natCast]
    rw [List.getElem?_eq_none (by omega)]
    exact Int.le_refl _
theorem compsG_ok {g : G} (h : validG g = 0) : compsG g = (partsC g.e (limC g.e (nums 0 g.n.length)) g.n.length, 0) := by unfold compsG; rw [if_neg (by simp [h])]
/-- Numbers stay within their component. -/
def Rep (m l : List Int) : Prop := ∀ i : Nat, i < l.length → (0 ≤ gt l i ∧ gt l i < l.length) ∧ gt m (gt l i) = gt m i
theorem stepC_rep {m l : List Int} {x : E} (hf : gt m x.f = gt m x.o) (hx : (0 ≤ x.f ∧ x.f < l.length) ∧ (0 ≤ x.o ∧ x.o < l.length)) (h : Rep m l) : Rep m (stepC l x) := fun i hi => by
  rw [stepC_len] at hi ⊢
  obtain ⟨a, a1, a2⟩ := gtI hx.1
  obtain ⟨b, b1, b2⟩ := gtI hx.2
  have ha := h a a1
  have hb := h b b1
  rw [a2, b2] at hf
  have hmin : (0 ≤ mn2 (gt l x.f) (gt l x.o) ∧ mn2 (gt l x.f) (gt l x.o) < l.length) ∧ gt m (mn2 (gt l x.f) (gt l x.o)) = gt m a := by
    rw [a2, b2]
    unfold mn2
    split
    · exact ⟨hb.1, by rw [hb.2, hf]⟩
    · exact ⟨ha.1, ha.2⟩
  unfold stepC
  generalize mn2 (gt l x.f) (gt l x.o) = v at *
  rw [gt_setJ, gt_setJ]
  split
  · rename_i c
    refine ⟨hmin.1, ?_⟩
    rw [hmin.2, hf, show i = b by omega]
  · split
    · rename_i c
      refine ⟨hmin.1, ?_⟩
      rw [hmin.2, show i = a by omega]
    · exact h i hi
theorem foldC_rep {m : List Int} : ∀ {es : List E} {l : List Int}, Flat es m → Ends l.length es → Rep m l → Rep m (es.foldl stepC l)
  | [], _, _, _, h => h
  | x :: es, l, hf, he, h => by
    rw [List.foldl_cons]
    exact foldC_rep (fun y hy => hf y (by simp [hy])) (by rw [stepC_len]; exact he.tail) (stepC_rep (hf x (by simp)) (he x (by simp)) h)
theorem itC_rep {m : List Int} {es : List E} {l : List Int} (hf : Flat es m) (he : Ends l.length es) (h : Rep m l) : ∀ k, Rep m (itC es l k)
  | 0 => h
  | k + 1 => foldC_rep hf (by rw [itC_len]; exact he) (itC_rep hf he h k)
/-- The numbers at the end are roots. -/
theorem lim_root {es : List E} {n : Nat} (he : Ends n es) : (limC es (nums 0 n)).length = n ∧ Flat es (limC es (nums 0 n)) ∧ ∀ i : Nat, i < n → (0 ≤ gt (limC es (nums 0 n)) i ∧ gt (limC es (nums 0 n)) i < n) ∧ gt (limC es (nums 0 n)) (gt (limC es (nums 0 n)) i) = gt (limC es (nums 0 n)) i := by
  have ln : (nums 0 n).length = n := nums_len _ _
  have hn : NN0 (nums 0 n) := NN0_mem fun x hx => (nums_mem.1 hx).1
  have he' : Ends (nums 0 n).length es := by rw [ln]; exact he
  obtain ⟨⟨k, hk⟩, hfix⟩ := limC_reach (es := es) _ hn (Nat.le_refl _)
  have hl : (limC es (nums 0 n)).length = n := by rw [hk, itC_len, ln]
  have hflat : Flat es (limC es (nums 0 n)) := fold_fix_flat (by rw [hk]; exact itC_nn hn k) (by rw [hl]; exact he) hfix
  refine ⟨hl, hflat, fun i hi => ?_⟩
  have h0 : Rep (limC es (nums 0 n)) (nums 0 n) := fun i hi => by
    rw [ln] at hi ⊢
    rw [nums_gt hi]
    exact ⟨by omega, rfl⟩
  have := itC_rep hflat he' h0 k
  rw [← hk] at this
  have := this i (by omega)
  rw [hl] at this
  exact this
theorem idxs_sel (p : Nat → Bool) : ∀ n, idxs p n = sel p n
  | 0 => rfl
  | n + 1 => by rw [idxs, sel_succ, idxs_sel p n]
theorem partsC_mem {es : List E} {l : List Int} {m : Mo} : ∀ {i : Nat}, m ∈ partsC es l i ↔ ∃ r : Nat, r < i ∧ gt l r = (r : Int) ∧ m = partC es l r
  | 0 => by simp [partsC]
  | i + 1 => by
    rw [partsC]
    have ih := partsC_mem (es := es) (l := l) (m := m) (i := i)
    split
    · rename_i h
      rw [List.mem_append, ih, List.mem_singleton]
      constructor
      · rintro (⟨r, h1, h2⟩ | rfl)
        · exact ⟨r, by omega, h2⟩
        · exact ⟨i, by omega, h, rfl⟩
      · rintro ⟨r, h1, h2, h3⟩
        by_cases e : r = i
        · subst e; exact .inr h3
        · exact .inl ⟨r, by omega, h2, h3⟩
    · rename_i h
      rw [ih]
      constructor
      · rintro ⟨r, h1, h2⟩; exact ⟨r, by omega, h2⟩
      · rintro ⟨r, h1, h2, h3⟩
        by_cases e : r = i
        · subst e; exact absurd h2 h
        · exact ⟨r, by omega, h2, h3⟩
end Go.Am
namespace Go.Am
open Go
set_option linter.unusedVariables false
set_option linter.unusedSimpArgs false
theorem lim_rep {es : List E} {n : Nat} {m : List Int} (he : Ends n es) (hf : Flat es m) {i : Nat} (hi : i < n) : gt m (gt (limC es (nums 0 n)) i) = gt m i := by
  have ln : (nums 0 n).length = n := nums_len _ _
  have hn : NN0 (nums 0 n) := NN0_mem fun x hx => (nums_mem.1 hx).1
  obtain ⟨⟨k, hk⟩, _⟩ := limC_reach (es := es) _ hn (Nat.le_refl _)
  have h0 : Rep m (nums 0 n) := fun i hi => by
    rw [ln] at hi ⊢
    rw [nums_gt hi]
    exact ⟨by omega, rfl⟩
  have := itC_rep hf (by rw [ln]; exact he) h0 k
  rw [← hk] at this
  have hl : (limC es (nums 0 n)).length = n := by rw [hk, itC_len, ln]
  exact (this i (by omega)).2
/-- Which nodes lie in a part. -/
def chi (n : Nat) (p : List Int) : List Int := (List.range n).map fun i : Nat => if (i : Int) ∈ p then 1 else 0
theorem chi_gt {n i : Nat} {p : List Int} (h : i < n) : gt (chi n p) i = if (i : Int) ∈ p then 1 else 0 := by
  rw [gt_nat (by simpa [chi] using h)]
  simp [chi]
theorem comp_mem {g : G} (hv : validG g = 0) {c : Mo} : c ∈ (compsG g).1 ↔ ∃ r : Nat, r < g.n.length ∧ gt (limC g.e (nums 0 g.n.length)) r = (r : Int) ∧ c = partC g.e (limC g.e (nums 0 g.n.length)) r := by
  rw [compsG_ok hv]
  exact partsC_mem
/-- Whether each component that meets a part lies in it. -/
def wholeB (g : G) (p : Mo) : Bool := (compsG g).1.all fun c => decide ((meetP c p).n = []) || inP c p
theorem whole_bd {g : G} {p : Mo} (hp : PK g p) : wholeB g p = decide (bdL g p = []) := by
  have hE : Ends g.n.length g.e := fun x hx => (fits_spec ((valid_spec hp.v).2.2.2 x hx)).2
  obtain ⟨hl, hflat, hroot⟩ := lim_root hE
  have rep := fun {m : List Int} (hf : Flat g.e m) {i : Nat} (hi : i < g.n.length) => lim_rep hE hf hi
  have cm := fun c => comp_mem hp.v (c := c)
  generalize limC g.e (nums 0 g.n.length) = L at *
  have pn : ∀ r k : Nat, (k : Int) ∈ (partC g.e L r).n ↔ k < g.n.length ∧ gt L k = r := fun r k => by
    simp only [partC]
    rw [idxs_sel, sel_memN, hl]
    simp
  have pe : ∀ r k : Nat, (k : Int) ∈ (partC g.e L r).e ↔ k < g.e.length ∧ gt L (gt g.e k).f = r := fun r k => by
    simp only [partC]
    rw [idxs_sel, sel_memN]
    simp
  have isn : ∀ r : Nat, ∀ x ∈ (partC g.e L r).n, ∃ k : Nat, x = k := fun r x hx => by
    simp only [partC] at hx
    rw [idxs_sel] at hx
    obtain ⟨k, _, _, rfl⟩ := sel_mem.1 hx
    exact ⟨k, rfl⟩
  have ise : ∀ r : Nat, ∀ x ∈ (partC g.e L r).e, ∃ k : Nat, x = k := fun r x hx => by
    simp only [partC] at hx
    rw [idxs_sel] at hx
    obtain ⟨k, _, _, rfl⟩ := sel_mem.1 hx
    exact ⟨k, rfl⟩
  rw [Bool.eq_iff_iff, wholeB, List.all_eq_true, decide_eq_true_eq]
  constructor
  · intro h
    rw [List.eq_nil_iff_forall_not_mem]
    intro x hx
    obtain ⟨⟨k, k1, k2, k3⟩, hxp⟩ := bd_mem.1 hx
    have hek := gt_mem (l := g.e) (j := (k : Int)) (by omega) (by omega)
    obtain ⟨a, a1, a2⟩ := gtI (hE _ hek).1
    obtain ⟨b, b1, b2⟩ := gtI (hE _ hek).2
    have hfl := hflat _ hek
    obtain ⟨r, hr⟩ : ∃ r : Nat, gt L (gt g.e k).f = (r : Int) := ⟨(gt L (gt g.e k).f).toNat, by rw [a2]; have := (hroot a a1).1; omega⟩
    have hr2 : r < g.n.length := by have := (hroot a a1).1; rw [← a2, hr] at this; omega
    have hrr : gt L (r : Int) = (r : Int) := by rw [← hr, a2]; exact (hroot a a1).2
    have hc := h _ ((cm _).2 ⟨r, hr2, hrr, rfl⟩)
    rw [Bool.or_eq_true, decide_eq_true_eq] at hc
    rcases hc with hc | hc
    · have : x ∈ (meetP (partC g.e L r) p).n := com_mem.2 ⟨by
        rcases k3 with k3 | k3
        · rw [← k3, a2]; exact (pn r a).2 ⟨a1, by rw [← a2, hr]⟩
        · rw [← k3, b2]; exact (pn r b).2 ⟨b1, by rw [← b2, ← hfl, hr]⟩, hxp⟩
      rw [hc] at this
      simp at this
    · exact k2 ((inP_iff.1 hc).2 _ ((pe r k).2 ⟨k1, hr⟩))
  · intro h c hc
    obtain ⟨r, r1, r2, rfl⟩ := (cm c).1 hc
    rw [Bool.or_eq_true, decide_eq_true_eq]
    have nob : ∀ k : Nat, k < g.e.length → ¬ (k : Int) ∈ p.e → ¬ (gt g.e k).f ∈ p.n ∧ ¬ (gt g.e k).o ∈ p.n := fun k hk hn => by
      constructor
      · intro hm
        have := bd_mem.2 ⟨⟨k, hk, hn, .inl rfl⟩, hm⟩
        rw [h] at this; simp at this
      · intro hm
        have := bd_mem.2 ⟨⟨k, hk, hn, .inr rfl⟩, hm⟩
        rw [h] at this; simp at this
    have hchi : Flat g.e (chi g.n.length p.n) := fun e he => by
      obtain ⟨k, k1, rfl⟩ := mem_gt he
      obtain ⟨a, a1, a2⟩ := gtI (hE _ he).1
      obtain ⟨b, b1, b2⟩ := gtI (hE _ he).2
      rw [a2, b2, chi_gt a1, chi_gt b1]
      by_cases c : (k : Int) ∈ p.e
      · have := hp.d _ c
        rw [a2, b2] at this
        rw [if_pos this.1, if_pos this.2]
      · have := nob k k1 c
        rw [a2, b2] at this
        rw [if_neg this.1, if_neg this.2]
    by_cases c : (meetP (partC g.e L r) p).n = []
    · exact .inl c
    · refine .inr (inP_iff.2 ?_)
      obtain ⟨x, hx⟩ := List.exists_mem_of_ne_nil _ c
      obtain ⟨x1, x2⟩ := com_mem.1 hx
      obtain ⟨k, rfl⟩ := isn r x x1
      obtain ⟨k1, k2⟩ := (pn r k).1 x1
      have hrp : gt (chi g.n.length p.n) (r : Int) = 1 := by
        have := rep hchi k1
        rw [k2, chi_gt k1, if_pos x2] at this
        exact this
      have inN : ∀ j : Nat, j < g.n.length → gt L j = r → (j : Int) ∈ p.n := fun j j1 j2 => by
        have := rep hchi j1
        rw [j2, hrp, chi_gt j1] at this
        refine Decidable.byContradiction fun hn => ?_
        rw [if_neg hn] at this
        omega
      refine ⟨fun y hy => ?_, fun y hy => ?_⟩
      · obtain ⟨j, rfl⟩ := isn r y hy
        obtain ⟨j1, j2⟩ := (pn r j).1 hy
        exact inN j j1 j2
      · obtain ⟨j, rfl⟩ := ise r y hy
        obtain ⟨j1, j2⟩ := (pe r j).1 hy
        refine Decidable.byContradiction fun hn => ?_
        obtain ⟨a, a1, a2⟩ := gtI (hE _ (gt_mem (l := g.e) (j := (j : Int)) (by omega) (by omega))).1
        refine (nob j j1 hn).1 ?_
        rw [a2] at j2 ⊢
        exact inN a a1 j2
end Go.Am
namespace Go.Am
open Go
set_option linter.unusedVariables false
set_option linter.unusedSimpArgs false
attribute [local irreducible] W
/- slices.IndexFunc.apiPart -/
def c_slices_IndexFunc_apiPart_r0 (F : String → Nat) : List LI := [⟨some 4, .mov (.k (.int .i64 (0))), none⟩]
def c_slices_IndexFunc_apiPart_r1 (F : String → Nat) : List LI := [⟨some 6, .mov (.t 0), none⟩,
  ⟨some 7, .len (.t 6), none⟩,
  ⟨some 8, .mov (.k (.int .i64 (0))), none⟩]
def c_slices_IndexFunc_apiPart_r2 (F : String → Nat) : List LI := [⟨some 9, .bin .lss (.t 8) (.t 7), none⟩]
def c_slices_IndexFunc_apiPart_r3 (F : String → Nat) : List LI := [⟨some 10, .mov (.t 8), none⟩,
  ⟨some 5, .mov (.t 10), none⟩]
def c_slices_IndexFunc_apiPart_r4 (F : String → Nat) : List LI := [⟨some 11, .mov (.t 1), none⟩,
  ⟨some 12, .mov (.t 0), none⟩,
  ⟨some 13, .mov (.t 5), none⟩,
  ⟨some 14, .iad 2 (.t 12) (.t 13), none⟩,
  ⟨some 15, .load true 2 (.t 14), none⟩,
  ⟨some 16, .callv (.t 11) [.t 15], none⟩]
def c_slices_IndexFunc_apiPart_r5 (F : String → Nat) : List LI := [⟨some 17, .mov (.t 5), none⟩,
  ⟨some 4, .mov (.t 17), none⟩]
def c_slices_IndexFunc_apiPart_r6 (F : String → Nat) : List LI := [⟨some 18, .bin .add (.t 8) (.k (.int .i64 (1))), none⟩,
  ⟨some 8, .mov (.t 18), none⟩]
def c_slices_IndexFunc_apiPart_b7 (F : String → Nat) : LC := (.seq (.reg (c_slices_IndexFunc_apiPart_r2 F) [0, 1, 7, 8, 9]) (.seq (.cond (.t 9) .skip (.exit 0)) (.seq (.block 1 (.seq (.reg (c_slices_IndexFunc_apiPart_r3 F) [0, 1, 5, 7, 8]) (.seq (.reg (c_slices_IndexFunc_apiPart_r4 F) [0, 1, 5, 7, 8, 16]) (.cond (.t 16) (.seq (.reg (c_slices_IndexFunc_apiPart_r5 F) [4]) .ret) .skip)))) (.reg (c_slices_IndexFunc_apiPart_r6 F) [0, 1, 7, 8]))))
def c_slices_IndexFunc_apiPart_r8 (F : String → Nat) : List LI := [⟨some 4, .mov (.k (.int .i64 (-1))), none⟩]
def c_slices_IndexFunc_apiPart (F : String → Nat) : LC := (.seq (.reg (c_slices_IndexFunc_apiPart_r0 F) [0, 1]) (.seq (.seq (.reg (c_slices_IndexFunc_apiPart_r1 F) [0, 1, 7, 8]) (.block 0 (.loop [0, 1, 7, 8] (c_slices_IndexFunc_apiPart_b7 F)))) (.seq (.reg (c_slices_IndexFunc_apiPart_r8 F) [4]) .ret)))
def h_slices_IndexFunc_apiPart : Hints := ⟨[], fun _ => [], tab [(0, [0, 1]), (1, [0, 1, 7, 8]), (2, [0, 1, 7, 8, 9]), (3, [0, 1, 5, 7, 8]), (4, [0, 1, 5, 7, 8, 16]), (5, [4]), (6, [0, 1, 7, 8]), (7, [4])], tab [(2, [0, 1, 7, 8])]⟩

/- slices.ContainsFunc.apiPart -/
def c_slices_ContainsFunc_apiPart_r0 (F : String → Nat) : List LI := [⟨some 4, .mov (.k (.bool false)), none⟩]
def c_slices_ContainsFunc_apiPart_r1 (F : String → Nat) : List LI := [⟨some 5, .mov (.t 0), none⟩,
  ⟨some 6, .mov (.t 1), none⟩,
  ⟨some 7, .call (F "slices.IndexFunc.apiPart") [.t 5, .t 6] [], none⟩,
  ⟨some 8, .bin .geq (.t 7) (.k (.int .i64 (0))), none⟩,
  ⟨some 4, .mov (.t 8), none⟩]
def c_slices_ContainsFunc_apiPart (F : String → Nat) : LC := (.seq (.reg (c_slices_ContainsFunc_apiPart_r0 F) [0, 1]) (.seq (.reg (c_slices_ContainsFunc_apiPart_r1 F) [4]) .ret))
def h_slices_ContainsFunc_apiPart : Hints := ⟨[], fun _ => [], tab [(0, [0, 1]), (1, [4])], tab []⟩

/- l07.small -/
def c_l07_small_r0 (F : String → Nat) : List LI := [⟨some 2, .bx (.t 0), none⟩,
  ⟨some 4, .mov (.k (.bool false)), none⟩]
def c_l07_small_r1 (F : String → Nat) : List LI := [⟨some 5, .load true 2 (.t 2), none⟩,
  ⟨some 6, .call (F "r05.Few") [.t 5] [], none⟩,
  ⟨some 7, .mov (.t 6), none⟩,
  ⟨some 8, .mov (.t 1), some (7, true)⟩,
  ⟨some 9, .call (F "slices.ContainsFunc.apiPart") [.t 8, .k (.clo (F "l07.small.1") [])] [], some (7, true)⟩,
  ⟨some 10, .not (.t 9), some (7, true)⟩,
  ⟨some 11, .pick (.t 7) (.t 10) (.k (.bool false)), none⟩,
  ⟨some 4, .mov (.t 11), none⟩]
def c_l07_small (F : String → Nat) : LC := (.seq (.reg (c_l07_small_r0 F) [1, 2]) (.seq (.reg (c_l07_small_r1 F) [4]) .ret))
def h_l07_small : Hints := ⟨[], fun _ => [], tab [(0, [1, 2]), (1, [4])], tab []⟩

/- l07.small.1 -/
def c_l07_small_1_r0 (F : String → Nat) : List LI := [⟨some 1, .bx (.t 0), none⟩,
  ⟨some 2, .mov (.k (.bool false)), none⟩]
def c_l07_small_1_r1 (F : String → Nat) : List LI := [⟨some 3, .load true 2 (.t 1), none⟩,
  ⟨some 4, .call (F "r07.Few") [.t 3, .k (.int .i64 (150))] [], none⟩,
  ⟨some 5, .not (.t 4), none⟩,
  ⟨some 2, .mov (.t 5), none⟩]
def c_l07_small_1 (F : String → Nat) : LC := (.seq (.reg (c_l07_small_1_r0 F) [1]) (.seq (.reg (c_l07_small_1_r1 F) [2]) .ret))
def h_l07_small_1 : Hints := ⟨[], fun _ => [], tab [(0, [1]), (1, [2])], tab []⟩

/- l07.SubgraphBoundary -/
def c_l07_SubgraphBoundary_r0 (F : String → Nat) : List LI := [⟨some 2, .bx (.t 0), none⟩,
  ⟨some 4, .mov (.k (.bool false)), none⟩]
def c_l07_SubgraphBoundary_r1 (F : String → Nat) : List LI := [⟨some 15, .call (F "l07.awake") [] [], none⟩,
  ⟨some 16, .not (.t 15), none⟩,
  ⟨some 17, .mov (.t 16), none⟩,
  ⟨some 18, .load true 2 (.t 2), some (17, false)⟩,
  ⟨some 19, .call (F "l07.small") [.t 18, .k (.nl 0)] [], some (17, false)⟩,
  ⟨some 20, .not (.t 19), some (17, false)⟩,
  ⟨some 21, .pick (.t 17) (.k (.bool true)) (.t 20), none⟩,
  ⟨some 22, .mov (.t 21), none⟩,
  ⟨some 23, .load true 2 (.t 2), some (22, false)⟩,
  ⟨some 24, .call (F "r05.Valid") [.t 23] [], some (22, false)⟩,
  ⟨some 25, .bin .neq (.t 24) (.k (.int .i64 (0))), some (22, false)⟩,
  ⟨some 26, .pick (.t 22) (.k (.bool true)) (.t 25), none⟩]
def c_l07_SubgraphBoundary_r2 (F : String → Nat) : List LI := [⟨some 27, .call (F "l07.awake") [] [], none⟩,
  ⟨some 4, .mov (.t 27), none⟩]
def c_l07_SubgraphBoundary_r3 (F : String → Nat) : List LI := [⟨some 28, .load true 2 (.t 2), none⟩,
  ⟨some 29, .mov (.t 1), none⟩,
  ⟨some 30, .call (F "r07.Made") [.t 28, .t 29] [], none⟩,
  ⟨some 5, .alloc [.nl 1, .nl 1], none⟩,
  ⟨none, .store 2 (.t 5) (.t 30), none⟩]
def c_l07_SubgraphBoundary_r4 (F : String → Nat) : List LI := [⟨some 32, .load true 2 (.t 2), none⟩,
  ⟨some 33, .load true 2 (.t 5), none⟩,
  ⟨some 34, .call (F "subgraph.Boundary") [.t 32, .t 33] [], none⟩,
  ⟨some 31, .mov (.t 34), none⟩,
  ⟨some 35, .ext (.t 31) 0, none⟩,
  ⟨some 36, .ext (.t 31) 1, none⟩,
  ⟨some 6, .mov (.t 35), none⟩,
  ⟨some 7, .mov (.t 36), none⟩]
def c_l07_SubgraphBoundary_r5 (F : String → Nat) : List LI := [⟨some 38, .load true 2 (.t 2), none⟩,
  ⟨some 39, .call (F "r05.Components") [.t 38] [], none⟩,
  ⟨some 37, .mov (.t 39), none⟩,
  ⟨some 40, .ext (.t 37) 0, none⟩,
  ⟨some 41, .ext (.t 37) 1, none⟩,
  ⟨some 8, .mov (.t 40), none⟩,
  ⟨some 9, .mov (.t 41), none⟩]
def c_l07_SubgraphBoundary_r6 (F : String → Nat) : List LI := [⟨some 42, .mov (.t 7), none⟩,
  ⟨some 43, .bin .neq (.t 42) (.k (.int .i64 (0))), none⟩,
  ⟨some 44, .mov (.t 43), none⟩,
  ⟨some 45, .mov (.t 9), some (44, false)⟩,
  ⟨some 46, .bin .neq (.t 45) (.k (.int .i64 (0))), some (44, false)⟩,
  ⟨some 47, .pick (.t 44) (.k (.bool true)) (.t 46), none⟩]
def c_l07_SubgraphBoundary_r7 (F : String → Nat) : List LI := [⟨some 4, .mov (.k (.bool false)), none⟩]
def c_l07_SubgraphBoundary_r8 (F : String → Nat) : List LI := [⟨some 10, .mov (.k (.bool true)), none⟩]
def c_l07_SubgraphBoundary_r9 (F : String → Nat) : List LI := [⟨some 48, .mov (.t 8), none⟩,
  ⟨some 49, .len (.t 48), none⟩,
  ⟨some 50, .mov (.k (.int .i64 (0))), none⟩]
def c_l07_SubgraphBoundary_r10 (F : String → Nat) : List LI := [⟨some 51, .bin .lss (.t 50) (.t 49), none⟩]
def c_l07_SubgraphBoundary_r11 (F : String → Nat) : List LI := [⟨some 52, .iad 2 (.t 48) (.t 50), none⟩,
  ⟨some 53, .load true 2 (.t 52), none⟩,
  ⟨some 12, .alloc [.nl 1, .nl 1], none⟩,
  ⟨none, .store 2 (.t 12) (.t 53), none⟩]
def c_l07_SubgraphBoundary_r12 (F : String → Nat) : List LI := [⟨some 55, .load true 2 (.t 2), none⟩,
  ⟨some 56, .load true 2 (.t 12), none⟩,
  ⟨some 57, .load true 2 (.t 5), none⟩,
  ⟨some 58, .call (F "r07.Meet") [.t 55, .t 56, .t 57] [], none⟩,
  ⟨some 54, .mov (.t 58), none⟩,
  ⟨some 59, .ext (.t 54) 0, none⟩,
  ⟨some 60, .ext (.t 54) 1, none⟩,
  ⟨some 13, .alloc [.nl 1, .nl 1], none⟩,
  ⟨none, .store 2 (.t 13) (.t 59), none⟩,
  ⟨some 14, .mov (.t 60), none⟩]
def c_l07_SubgraphBoundary_r13 (F : String → Nat) : List LI := [⟨some 61, .mov (.t 14), none⟩,
  ⟨some 62, .bin .eql (.t 61) (.k (.int .i64 (0))), none⟩,
  ⟨some 63, .mov (.t 62), none⟩,
  ⟨some 64, .fad 0 (.t 13), some (63, true)⟩,
  ⟨some 65, .load false 1 (.t 64), some (63, true)⟩,
  ⟨some 66, .len (.t 65), some (63, true)⟩,
  ⟨some 67, .bin .gtr (.t 66) (.k (.int .i64 (0))), some (63, true)⟩,
  ⟨some 68, .pick (.t 63) (.t 67) (.k (.bool false)), none⟩,
  ⟨some 69, .mov (.t 68), none⟩,
  ⟨some 70, .load true 2 (.t 12), some (69, true)⟩,
  ⟨some 71, .load true 2 (.t 5), some (69, true)⟩,
  ⟨some 72, .call (F "r07.In") [.t 70, .t 71] [], some (69, true)⟩,
  ⟨some 73, .not (.t 72), some (69, true)⟩,
  ⟨some 74, .pick (.t 69) (.t 73) (.k (.bool false)), none⟩]
def c_l07_SubgraphBoundary_r14 (F : String → Nat) : List LI := [⟨some 10, .mov (.k (.bool false)), none⟩]
def c_l07_SubgraphBoundary_r15 (F : String → Nat) : List LI := [⟨some 75, .bin .add (.t 50) (.k (.int .i64 (1))), none⟩,
  ⟨some 50, .mov (.t 75), none⟩]
def c_l07_SubgraphBoundary_b16 (F : String → Nat) : LC := (.seq (.reg (c_l07_SubgraphBoundary_r10 F) [2, 5, 6, 10, 48, 49, 50, 51]) (.seq (.cond (.t 51) .skip (.exit 0)) (.seq (.block 1 (.seq (.reg (c_l07_SubgraphBoundary_r11 F) [2, 5, 6, 10, 12, 48, 49, 50]) (.seq (.reg (c_l07_SubgraphBoundary_r12 F) [2, 5, 6, 10, 12, 13, 14, 48, 49, 50]) (.seq (.reg (c_l07_SubgraphBoundary_r13 F) [2, 5, 6, 10, 48, 49, 50, 74]) (.cond (.t 74) (.reg (c_l07_SubgraphBoundary_r14 F) [2, 5, 6, 10, 48, 49, 50]) .skip))))) (.reg (c_l07_SubgraphBoundary_r15 F) [2, 5, 6, 10, 48, 49, 50]))))
def c_l07_SubgraphBoundary_r17 (F : String → Nat) : List LI := [⟨some 76, .mov (.t 10), none⟩,
  ⟨some 77, .mov (.t 6), none⟩,
  ⟨some 78, .len (.t 77), none⟩,
  ⟨some 79, .bin .eql (.t 78) (.k (.int .i64 (0))), none⟩,
  ⟨some 80, .eqB false (.t 76) (.t 79), none⟩,
  ⟨some 4, .mov (.t 80), none⟩]
def c_l07_SubgraphBoundary (F : String → Nat) : LC := (.seq (.reg (c_l07_SubgraphBoundary_r0 F) [1, 2]) (.seq (.seq (.reg (c_l07_SubgraphBoundary_r1 F) [1, 2, 26]) (.cond (.t 26) (.seq (.reg (c_l07_SubgraphBoundary_r2 F) [4]) .ret) .skip)) (.seq (.reg (c_l07_SubgraphBoundary_r3 F) [2, 5]) (.seq (.reg (c_l07_SubgraphBoundary_r4 F) [2, 5, 6, 7]) (.seq (.reg (c_l07_SubgraphBoundary_r5 F) [2, 5, 6, 7, 8, 9]) (.seq (.seq (.reg (c_l07_SubgraphBoundary_r6 F) [2, 5, 6, 8, 47]) (.cond (.t 47) (.seq (.reg (c_l07_SubgraphBoundary_r7 F) [4]) .ret) .skip)) (.seq (.reg (c_l07_SubgraphBoundary_r8 F) [2, 5, 6, 8, 10]) (.seq (.seq (.reg (c_l07_SubgraphBoundary_r9 F) [2, 5, 6, 10, 48, 49, 50]) (.block 0 (.loop [2, 5, 6, 10, 48, 49, 50] (c_l07_SubgraphBoundary_b16 F)))) (.seq (.reg (c_l07_SubgraphBoundary_r17 F) [4]) .ret)))))))))
def h_l07_SubgraphBoundary : Hints := ⟨[], fun _ => [], tab [(0, [1, 2]), (1, [1, 2, 26]), (2, [4]), (3, [2, 5]), (4, [2, 5, 6, 7]), (5, [2, 5, 6, 7, 8, 9]), (6, [2, 5, 6, 8, 47]), (7, [4]), (8, [2, 5, 6, 8, 10]), (9, [2, 5, 6, 10, 48, 49, 50]), (10, [2, 5, 6, 10, 48, 49, 50, 51]), (11, [2, 5, 6, 10, 12, 48, 49, 50]), (12, [2, 5, 6, 10, 12, 13, 14, 48, 49, 50]), (13, [2, 5, 6, 10, 48, 49, 50, 74]), (14, [2, 5, 6, 10, 48, 49, 50]), (15, [2, 5, 6, 10, 48, 49, 50]), (16, [4])], tab [(10, [2, 5, 6, 10, 48, 49, 50])]⟩

attribute [go_sem] c_slices_IndexFunc_apiPart_r0 c_slices_IndexFunc_apiPart_r1 c_slices_IndexFunc_apiPart_r2 c_slices_IndexFunc_apiPart_r3 c_slices_IndexFunc_apiPart_r4 c_slices_IndexFunc_apiPart_r5 c_slices_IndexFunc_apiPart_r6 c_slices_IndexFunc_apiPart_r8 c_slices_IndexFunc_apiPart c_slices_ContainsFunc_apiPart_r0 c_slices_ContainsFunc_apiPart_r1 c_slices_ContainsFunc_apiPart c_l07_small_r0 c_l07_small_r1 c_l07_small c_l07_small_1_r0 c_l07_small_1_r1 c_l07_small_1 c_l07_SubgraphBoundary_r0 c_l07_SubgraphBoundary_r1 c_l07_SubgraphBoundary_r2 c_l07_SubgraphBoundary_r3 c_l07_SubgraphBoundary_r4 c_l07_SubgraphBoundary_r5 c_l07_SubgraphBoundary_r6 c_l07_SubgraphBoundary_r7 c_l07_SubgraphBoundary_r8 c_l07_SubgraphBoundary_r9 c_l07_SubgraphBoundary_r10 c_l07_SubgraphBoundary_r11 c_l07_SubgraphBoundary_r12 c_l07_SubgraphBoundary_r13 c_l07_SubgraphBoundary_r14 c_l07_SubgraphBoundary_r15 c_l07_SubgraphBoundary_r17 c_l07_SubgraphBoundary
def smallL (g : G) (l : List Mo) : Bool := few g && l.all fun m => fewM m 150
section
variable (P : Program) (F : String → Nat)
def K_slices_IndexFunc_apiPart : Prop := ∀ (l : List Mo), l.length ≤ maxL → ∀ (g : Nat) (cs : List D), cs.all okC2 = true → ∀ p : Mo → Bool, (∀ x, x ∈ l → FC P g (mD x :: cs) (.bool (p x)) []) → FC P (F "slices.IndexFunc.apiPart") [.lst 2 (pts l), .clo g cs] (.int .i64 (idx p l 0)) []
def K_slices_ContainsFunc_apiPart : Prop := ∀ (l : List Mo), l.length ≤ maxL → ∀ (g : Nat) (cs : List D), cs.all okC2 = true → ∀ p : Mo → Bool, (∀ x, x ∈ l → FC P g (mD x :: cs) (.bool (p x)) []) → FC P (F "slices.ContainsFunc.apiPart") [.lst 2 (pts l), .clo g cs] (.bool (l.any p)) []
def K_l07_small_1 : Prop := ∀ m : Mo, m.sm → FC P (F "l07.small.1") [mD m] (.bool (!fewM m 150)) []
def K_l07_small : Prop := ∀ (g : G) (l : List Mo), l.length ≤ 1000 → (∀ m ∈ l, m.sm) → FC P (F "l07.small") [gD g, .lst 2 (pts l)] (.bool (smallL g l)) []
def K_l07_SubgraphBoundary : Prop := ∀ (g : G) (s : Int), FC P (F "l07.SubgraphBoundary") [gD g, .int .u64 s] (.bool true) []
end
section
variable {P : Program} {F : String → Nat} {α : Type}
theorem w_slices_IndexFunc_apiPart (l : List Mo) (hl : l.length ≤ maxL) (g : Nat) (cs : List D) (hcs : cs.all okC2 = true) (p : Mo → Bool) (hg : ∀ x, x ∈ l → FC P g (mD x :: cs) (.bool (p x)) []) : W P (c_slices_IndexFunc_apiPart F) (Done [.t 4] [] (.int .i64 (idx p l 0)) []) (init [.lst 2 (pts l), .clo g cs]) := by
  refine W_of ?_
  unfold maxL at hl
  have e1 := caps_lend2 hcs
  have e2 := caps_ren hcs
  have pl := pts_length l
  simp (config := { maxSteps := 1000000 }) (disch := first | omega | (simp only [go_sem]; omega)) only [go_sem, ↓reduceIte, pl]
  refine W_loop (fun i : Nat => ⟨[(0, .lst 2 (pts l)), (1, .clo g cs), (7, .int .i64 l.length), (8, .int .i64 i)], [], 0⟩) (fun i => i ≤ l.length ∧ idx p l 0 = idx p (l.drop i) i) (fun i => l.length - i) 0 ?_ ?_ ?_
  · simp (config := { maxSteps := 1000000 }) (disch := first | omega | (simp only [go_sem]; omega)) only [go_sem, ↓reduceIte, e2, pl]
    rfl
  · simp
  · intro i hi
    by_cases h : i < l.length
    · have d1 : decide ((i : Int) < l.length) = true := decide_eq_true (by omega)
      have hd := idx_drop p l i (by omega)
      have r := hg _ (gt_mem (l := l) (j := (i : Int)) (by omega) (by omega))
      simp only [mD] at r
      simp (config := { maxSteps := 1000000 }) (disch := first | omega | (simp only [go_sem]; omega)) only [go_sem, ↓reduceIte, c_slices_IndexFunc_apiPart_b7, d1, e1, pl]
      refine call_by r ?_
      simp (config := { maxSteps := 1000000 }) (disch := first | omega | (simp only [go_sem]; omega)) only [go_sem, ↓reduceIte]
      refine bran_by (fun h2 => ?_) (fun h2 => ?_)
      · simp (config := { maxSteps := 1000000 }) (disch := first | omega | (simp only [go_sem]; omega)) only [go_sem, ↓reduceIte]
        rw [hi.2, hd, if_pos h2]
      · simp (config := { maxSteps := 1000000 }) (disch := first | omega | (simp only [go_sem]; omega)) only [go_sem, ↓reduceIte, e2]
        exact ⟨i + 1, by simp, ⟨by omega, by rw [hi.2, hd, if_neg (by simp [h2])]⟩, by omega⟩
    · have d1 : decide ((i : Int) < l.length) = false := decide_eq_false (by omega)
      simp (config := { maxSteps := 1000000 }) (disch := first | omega | (simp only [go_sem]; omega)) only [go_sem, ↓reduceIte, c_slices_IndexFunc_apiPart_b7, d1]
      rw [hi.2, List.drop_of_length_le (by omega)]
      rfl
theorem w_slices_ContainsFunc_apiPart (hi : K_slices_IndexFunc_apiPart P F) (l : List Mo) (hl : l.length ≤ maxL) (g : Nat) (cs : List D) (hcs : cs.all okC2 = true) (p : Mo → Bool) (hg : ∀ x, x ∈ l → FC P g (mD x :: cs) (.bool (p x)) []) : W P (c_slices_ContainsFunc_apiPart F) (Done [.t 4] [] (.bool (l.any p)) []) (init [.lst 2 (pts l), .clo g cs]) := by
  refine W_of ?_
  have r := hi l hl g cs hcs p hg
  have hge := idx_ge p l 0 (by omega)
  have e0 := caps_lend hcs
  generalize idx p l 0 = ix at *
  simp (config := { maxSteps := 1000000 }) (disch := first | omega | (simp only [go_sem]; omega)) only [go_sem, ↓reduceIte, e0]
  refine call_by r ?_
  simp (config := { maxSteps := 1000000 }) (disch := first | omega | (simp only [go_sem]; omega)) only [go_sem, ↓reduceIte]
  try rw [hge]
theorem w_l07_small_1 (hf : K_r07_Few P F) (m : Mo) (h : m.sm) : W P (c_l07_small_1 F) (Done [.t 2] [] (.bool (!fewM m 150)) []) (init [mD m]) := by
  refine W_of ?_
  have r1 := hf m 150 h.1 h.2
  generalize fewM m 150 = b at *
  simp only [mD] at *
  simp (config := { maxSteps := 1000000 }) (disch := first | omega | (simp only [go_sem]; omega)) only [go_sem, ↓reduceIte]
  refine call_by r1 ?_
  simp (config := { maxSteps := 1000000 }) (disch := first | omega | (simp only [go_sem]; omega)) only [go_sem, ↓reduceIte]
theorem w_l07_small (hg : K_r05_Few P F) (hc : K_slices_ContainsFunc_apiPart P F) (h1 : K_l07_small_1 P F) (g : G) (l : List Mo) (hl : l.length ≤ 1000) (hm : ∀ m ∈ l, m.sm) : W P (c_l07_small F) (Done [.t 4] [] (.bool (smallL g l)) []) (init [gD g, .lst 2 (pts l)]) := by
  refine W_of ?_
  have r1 := hg g
  have r2 := hc l (by unfold maxL; omega) (F "l07.small.1") [] rfl _ (fun x hx => h1 x (hm x hx))
  have e : smallL g l = (few g && !l.any fun m => !fewM m 150) := by
    unfold smallL
    rw [List.all_eq_not_any_not]
  rw [e]
  generalize few g = b1 at *
  generalize (l.any fun m => !fewM m 150) = b2 at *
  simp only [gD] at *
  cases b1
  · simp (config := { maxSteps := 1000000 }) (disch := first | omega | (simp only [go_sem]; omega)) only [go_sem, ↓reduceIte]
    refine call_by r1 ?_
    simp (config := { maxSteps := 1000000 }) (disch := first | omega | (simp only [go_sem]; omega)) only [go_sem, ↓reduceIte]
    try simp
  · simp (config := { maxSteps := 1000000 }) (disch := first | omega | (simp only [go_sem]; omega)) only [go_sem, ↓reduceIte]
    refine call_by r1 ?_
    simp (config := { maxSteps := 1000000 }) (disch := first | omega | (simp only [go_sem]; omega)) only [go_sem, ↓reduceIte]
    refine call_by r2 ?_
    simp (config := { maxSteps := 1000000 }) (disch := first | omega | (simp only [go_sem]; omega)) only [go_sem, ↓reduceIte]
    try simp
theorem few_len {g : G} (h : few g = true) : g.n.length ≤ 45 ∧ g.e.length ≤ 90 := by
  simp only [few, Bool.and_eq_true, decide_eq_true_eq] at h
  exact h
theorem bdR_len (g : G) (p : Mo) : (bdR g p).1.length ≤ 1000 := by
  unfold bdR
  split
  · simp
  · rename_i h
    have hk := validP_ok.1 (Decidable.not_not.1 h)
    have := valid_spec hk.v
    have h1 := outE_len g p.e g.e.length
    have h2 := imgs_len (outE g p.e g.e.length)
    have h3 : (comL (imgs (outE g p.e g.e.length)) p.n).length ≤ (imgs (outE g p.e g.e.length)).length := List.length_filter_le _ _
    simp only [bdL]
    omega
theorem meetR_ok {g : G} {p q : Mo} (h1 : PK g p) (h2 : PK g q) : meetR g p q = (meetP p q, 0) := by
  unfold meetR
  rw [if_neg (by simp [joinE_ok.2 ⟨h1, h2⟩])]
theorem comp_PK {g : G} (hv : validG g = 0) {c : Mo} (hc : c ∈ (compsG g).1) : PK g c := by
  have hE : Ends g.n.length g.e := fun x hx => (fits_spec ((valid_spec hv).2.2.2 x hx)).2
  obtain ⟨hl, hflat, hroot⟩ := lim_root hE
  obtain ⟨r, r1, r2, rfl⟩ := (comp_mem hv).1 hc
  generalize limC g.e (nums 0 g.n.length) = L at *
  have e1 : (partC g.e L r).n = sel (fun n : Nat => decide (gt L n = (r : Int))) g.n.length := by
    simp only [partC]; rw [idxs_sel, hl]
  have e2 : (partC g.e L r).e = sel (fun m : Nat => decide (gt L (gt g.e m).f = (r : Int))) g.e.length := by
    simp only [partC]; rw [idxs_sel]
  refine ⟨hv, by rw [e1]; exact sel_asc _ _, by rw [e2]; exact sel_asc _ _, fun x hx => ?_⟩
  rw [e2] at hx
  obtain ⟨k, k1, k2, rfl⟩ := sel_mem.1 hx
  have hek := gt_mem (l := g.e) (j := (k : Int)) (by omega) (by omega)
  have k2 := of_decide_eq_true k2
  obtain ⟨a, a1, a2⟩ := gtI (hE _ hek).1
  obtain ⟨b, b1, b2⟩ := gtI (hE _ hek).2
  have hfl := hflat _ hek
  rw [e1]
  refine ⟨?_, ?_⟩
  · rw [a2]; exact sel_memN.2 ⟨a1, by rw [← a2]; exact decide_eq_true k2⟩
  · rw [b2]; exact sel_memN.2 ⟨b1, by rw [← b2, ← hfl]; exact decide_eq_true k2⟩
set_option maxHeartbeats 2000000 in
theorem w_l07_SubgraphBoundary (hw : K_l07_awake P F) (hf : K_l07_small P F) (hv : K_r05_Valid P F) (hm : K_r07_Made P F) (hb : K_subgraph_Boundary P F) (hc : K_r05_Components P F) (hme : K_r07_Meet P F) (hi : K_r07_In P F)
    (g : G) (s : Int) : W P (c_l07_SubgraphBoundary F) (Done [.t 4] [] (.bool true) []) (init [gD g, .int .u64 s]) := by
  refine W_of ?_
  have r1 := FC.nils (a := [gD g, .nl 0]) (hf g [] (by simp) (by simp)) (by simp [NilW, pts])
  have e1 : smallL g [] = few g := by simp [smallL]
  rw [e1] at r1
  cases c : few g
  · rw [c] at r1
    simp only [gD] at *
    simp (config := { maxSteps := 1000000 }) (disch := first | omega | (simp only [go_sem]; omega)) only [go_sem, ↓reduceIte]
    refine call_by hw ?_
    simp (config := { maxSteps := 1000000 }) (disch := first | omega | (simp only [go_sem]; omega)) only [go_sem, ↓reduceIte]
    refine call_by r1 ?_
    simp (config := { maxSteps := 1000000 }) (disch := first | omega | (simp only [go_sem]; omega)) only [go_sem, ↓reduceIte]
    refine call_by hw ?_
    simp (config := { maxSteps := 1000000 }) (disch := first | omega | (simp only [go_sem]; omega)) only [go_sem, ↓reduceIte]
  rw [c] at r1
  have r2 := hv g
  by_cases d : validG g = 0
  case neg =>
    generalize validG g = v at *
    simp only [gD] at *
    simp (config := { maxSteps := 1000000 }) (disch := first | omega | (simp only [go_sem]; omega)) only [go_sem, ↓reduceIte]
    refine call_by hw ?_
    simp (config := { maxSteps := 1000000 }) (disch := first | omega | (simp only [go_sem]; omega)) only [go_sem, ↓reduceIte]
    refine call_by r1 ?_
    simp (config := { maxSteps := 1000000 }) (disch := first | omega | (simp only [go_sem]; omega)) only [go_sem, ↓reduceIte]
    refine call_by r2 ?_
    simp (config := { maxSteps := 1000000 }) (disch := first | omega | (simp only [go_sem]; omega)) only [go_sem, ↓reduceIte, d]
    refine call_by hw ?_
    simp (config := { maxSteps := 1000000 }) (disch := first | omega | (simp only [go_sem]; omega)) only [go_sem, ↓reduceIte]
  have ka := partP_ok (s := s) d
  have r3 := hm g s d
  generalize partP g s = p at *
  have r4 := hb g p ka.sm
  have hB : bdR g p = (bdL g p, 0) := by unfold bdR; rw [if_neg (by simp [validP_ok.2 ka])]
  rw [hB] at r4
  have r5 := hc g
  have hC : (compsG g).2 = 0 := by rw [compsG_ok d]
  have hwh := whole_bd ka
  have cl := few_len c
  obtain ⟨cs, cl2⟩ := comps_small g cl.1 cl.2
  have hpk := fun c (h : c ∈ (compsG g).1) => comp_PK d h
  have la := ka.len
  have r6 := fun c (h : c ∈ (compsG g).1) => hme g c p (hpk c h).sm ka.sm
  have r6 : ∀ c ∈ (compsG g).1, FC P (F "r07.Meet") [gD g, mD c, mD p] (.tup [mA (meetP c p), .int .i64 0]) [] := fun c h => by
    have := r6 c h
    rw [meetR_ok (hpk c h) ka] at this
    exact this
  have r7 := fun c (h : c ∈ (compsG g).1) => hi c p (by have := (hpk c h).len; omega) (by have := (hpk c h).len; omega) ka.sm
  unfold wholeB at hwh
  have hbl := bdR_len g p
  rw [hB] at hbl
  simp only at hbl
  rw [d] at r2
  rw [hC] at r5
  have pl := pts_length (compsG g).1
  clear hB hC ka hpk d c cs e1
  generalize bdL g p = bd at *
  generalize (compsG g).1 = C at *
  obtain ⟨gn, ge⟩ := g
  obtain ⟨pn, pe⟩ := p
  simp only [gD, gA, mD, mA] at *
  simp (config := { maxSteps := 1000000 }) (disch := first | omega | (simp only [go_sem]; omega)) only [go_sem, ↓reduceIte]
  refine call_by hw ?_
  simp (config := { maxSteps := 1000000 }) (disch := first | omega | (simp only [go_sem]; omega)) only [go_sem, ↓reduceIte]
  refine call_by r1 ?_
  simp (config := { maxSteps := 1000000 }) (disch := first | omega | (simp only [go_sem]; omega)) only [go_sem, ↓reduceIte]
  refine call_by r2 ?_
  simp (config := { maxSteps := 1000000 }) (disch := first | omega | (simp only [go_sem]; omega)) only [go_sem, ↓reduceIte]
  refine call_by r3 ?_
  simp (config := { maxSteps := 1000000 }) (disch := first | omega | (simp only [go_sem]; omega)) only [go_sem, ↓reduceIte]
  refine call_by r4 ?_
  simp (config := { maxSteps := 1000000 }) (disch := first | omega | (simp only [go_sem]; omega)) only [go_sem, ↓reduceIte]
  refine call_by r5 ?_
  simp (config := { maxSteps := 1000000 }) (disch := first | omega | (simp only [go_sem]; omega)) only [go_sem, ↓reduceIte, pl, ite_self]
  refine W_loop (fun i : Nat => ⟨[(2, .pt 0 0), (5, .pt 3 0), (6, .sl 4 0 bd.length), (10, .bool ((C.take i).all fun c => decide ((meetP c ⟨pn, pe⟩).n = []) || inP c ⟨pn, pe⟩)), (48, .sl 5 0 C.length), (49, .int .i64 C.length), (50, .int .i64 i)],
    [(0, .box [.lst 1 (ints gn), .lst 3 (eds ge)]), (1, .arr 1 (ints pn)), (2, .arr 1 (ints pe)), (3, .box [.sl 1 0 pn.length, .sl 2 0 pe.length]), (4, .arr 1 (ints bd)), (5, .arr 2 (pts C))], 6⟩) (fun i => i ≤ C.length) (fun i => C.length - i) 0 ?_ ?_ ?_
  · simp (config := { maxSteps := 1000000 }) (disch := first | omega | (simp only [go_sem]; omega)) only [go_sem, ↓reduceIte, pl]
    rfl
  · simp
  · intro i hi
    by_cases e : i < C.length
    · have d1 : decide ((i : Int) < C.length) = true := decide_eq_true (by omega)
      have hm := gt_mem (l := C) (j := (i : Int)) (by omega) (by omega)
      have r6 := r6 _ hm
      have r7 := r7 _ hm
      have st : ((C.take (i + 1)).all fun c => decide ((meetP c ⟨pn, pe⟩).n = []) || inP c ⟨pn, pe⟩) = (((C.take i).all fun c => decide ((meetP c ⟨pn, pe⟩).n = []) || inP c ⟨pn, pe⟩) && (decide ((meetP (gt C i) ⟨pn, pe⟩).n = []) || inP (gt C i) ⟨pn, pe⟩)) := by
        rw [take_gt e, List.all_append]
        simp
      have pg := pts_get e
      generalize ((C.take i).all fun c => decide ((meetP c ⟨pn, pe⟩).n = []) || inP c ⟨pn, pe⟩) = w at *
      generalize meetP (gt C i) ⟨pn, pe⟩ = me at *
      generalize inP (gt C i) ⟨pn, pe⟩ = b at *
      obtain ⟨mn, mm⟩ := me
      simp only at r6 st
      cases hmn : mn
      · subst hmn
        have d2 : decide ((0 : Int) < ([] : List Int).length) = false := by simp
        simp (config := { maxSteps := 1000000 }) (disch := first | omega | (simp only [go_sem]; omega)) only [go_sem, ↓reduceIte, c_l07_SubgraphBoundary_b16, d1, pg, pl]
        refine call_by r6 ?_
        have d0 : decide ((0 : Int) < ((0 : Nat) : Int)) = false := rfl
        simp (config := { maxSteps := 1000000 }) (disch := first | omega | (simp only [go_sem]; omega)) only [go_sem, ↓reduceIte, d2, d0]
        exact ⟨i + 1, by simp [st], by omega, by omega⟩
      · rename_i y ys
        have d2 : decide ((0 : Int) < mn.length) = true := decide_eq_true (by rw [hmn]; simp only [List.length_cons]; omega)
        have d3 : decide (mn = []) = false := decide_eq_false (by rw [hmn]; simp)
        rw [d3] at st
        clear hmn
        simp (config := { maxSteps := 1000000 }) (disch := first | omega | (simp only [go_sem]; omega)) only [go_sem, ↓reduceIte, c_l07_SubgraphBoundary_b16, d1, pg, pl]
        refine call_by r6 ?_
        simp (config := { maxSteps := 1000000 }) (disch := first | omega | (simp only [go_sem]; omega)) only [go_sem, ↓reduceIte, d2]
        refine call_by r7 ?_
        cases b
        · simp (config := { maxSteps := 1000000 }) (disch := first | omega | (simp only [go_sem]; omega)) only [go_sem, ↓reduceIte]
          exact ⟨i + 1, by simp [st], by omega, by omega⟩
        · simp (config := { maxSteps := 1000000 }) (disch := first | omega | (simp only [go_sem]; omega)) only [go_sem, ↓reduceIte]
          exact ⟨i + 1, by simp [st], by omega, by omega⟩
    · have d1 : decide ((i : Int) < C.length) = false := decide_eq_false (by omega)
      obtain rfl : i = C.length := by omega
      rw [List.take_length, hwh]
      simp (config := { maxSteps := 1000000 }) (disch := first | omega | (simp only [go_sem]; omega)) only [go_sem, ↓reduceIte, c_l07_SubgraphBoundary_b16, d1]
      cases bd with
      | nil => simp
      | cons => simp; omega
theorem x_l07_SubgraphBoundary (h : K_l07_SubgraphBoundary P F) (args : List D) (ha : HasEls [shG, shU64] args) : FC P (F "l07.SubgraphBoundary") args (.bool true) [] := by
  simp only [HasEls] at ha
  obtain ⟨_, _, rfl, h1, _, _, rfl, h2, rfl⟩ := ha
  obtain ⟨g, rfl⟩ := rd_graph h1
  obtain ⟨s, rfl⟩ := rd_u64 h2
  exact h g s
end
end Go.Am
