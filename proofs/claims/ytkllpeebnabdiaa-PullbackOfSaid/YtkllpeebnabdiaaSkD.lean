/- Pullbacks: places, comparison, injectivity. -/
import Derived.Test.YtkllpeebnabdiaaSkC
namespace Go.Am
open Go
set_option linter.unusedVariables false
set_option linter.unusedSimpArgs false
section
variable {P : Program} {F : String → Nat} {α : Type}
theorem eqDec_pr (x : Pr) (a b : Int) : (decide (x.a = a) && decide (x.b = b)) = decide (x = ⟨a, b⟩) := by
  rw [Bool.eq_iff_iff]; simp [eqPr]
theorem w_slices_Index_apiPair (l : List Pr) (a b : Int) (hl : l.length ≤ maxL) : W P (c_slices_Index_apiPair F) (Done [.t 4] [] (.int .i64 (idx (fun p => decide (p = ⟨a, b⟩)) l 0)) []) (init [.lst 2 (prs l), .agg [.int .i64 a, .int .i64 b]]) := by
  refine W_of ?_
  unfold maxL at hl
  simp (config := { maxSteps := 1000000 }) (disch := first | omega | (simp only [go_sem]; omega)) only [go_sem, ↓reduceIte]
  refine W_loop (fun i : Nat => ⟨[(0, .lst 2 (prs l)), (3, .pt 0 0), (7, .int .i64 l.length), (8, .int .i64 i)], [(0, .box [.int .i64 a, .int .i64 b])], 1⟩) (fun i => i ≤ l.length ∧ idx (fun p => decide (p = ⟨a, b⟩)) l 0 = idx (fun p => decide (p = ⟨a, b⟩)) (l.drop i) i) (fun i => l.length - i) 0 ?_ ?_ ?_
  · simp (config := { maxSteps := 1000000 }) (disch := first | omega | (simp only [go_sem]; omega)) only [go_sem, ↓reduceIte]
    rfl
  · simp
  · rintro i ⟨hi, he⟩
    simp (config := { maxSteps := 1000000 }) (disch := first | omega | (simp only [go_sem]; omega)) only [go_sem, ↓reduceIte, c_slices_Index_apiPair_b7]
    refine bran_dec (fun h => ?_) (fun h => ?_)
    · have hd := idx_drop (fun p => decide (p = ⟨a, b⟩)) l i (by omega)
      have hq : (decide (a = (gt l i).a) && decide (b = (gt l i).b)) = decide (gt l i = ⟨a, b⟩) := by
        rw [Bool.eq_iff_iff]; simp [eqPr]; constructor <;> rintro ⟨h, k⟩ <;> exact ⟨h.symm, k.symm⟩
      simp (config := { maxSteps := 1000000 }) (disch := first | omega | (simp only [go_sem]; omega)) only [go_sem, ↓reduceIte, hq]
      refine bran_dec (fun h2 => ?_) (fun h2 => ?_)
      · simp (config := { maxSteps := 1000000 }) (disch := first | omega | (simp only [go_sem]; omega)) only [go_sem, ↓reduceIte]
        rw [he, hd, if_pos (by simpa using h2)]
      · simp (config := { maxSteps := 1000000 }) (disch := first | omega | (simp only [go_sem]; omega)) only [go_sem, ↓reduceIte]
        exact ⟨i + 1, by simp, ⟨by omega, by rw [he, hd, if_neg (by simpa using h2)]⟩, by omega⟩
    · simp (config := { maxSteps := 1000000 }) (disch := first | omega | (simp only [go_sem]; omega)) only [go_sem, ↓reduceIte]
      rw [he, List.drop_of_length_le (by omega)]
      rfl
theorem w_r11_place (l : List Pr) (a b : Int) (hl : l.length ≤ maxL) : W P (c_r11_place F) (Done [.t 6] [] (.int .i64 (idx (fun p => decide (p = ⟨a, b⟩)) l 0)) []) (init [.lst 2 (prs l), .int .i64 a, .int .i64 b]) := by
  refine W_of ?_
  unfold maxL at hl
  simp (config := { maxSteps := 1000000 }) (disch := first | omega | (simp only [go_sem]; omega)) only [go_sem, ↓reduceIte]
  refine W_loop (fun i : Nat => ⟨[(0, .lst 2 (prs l)), (1, .int .i64 a), (2, .int .i64 b), (7, .int .i64 i)], [], 0⟩) (fun i => i ≤ l.length ∧ idx (fun p => decide (p = ⟨a, b⟩)) l 0 = idx (fun p => decide (p = ⟨a, b⟩)) (l.drop i) i) (fun i => l.length - i) 0 ?_ ?_ ?_
  · simp (config := { maxSteps := 1000000 }) (disch := first | omega | (simp only [go_sem]; omega)) only [go_sem, ↓reduceIte]
    rfl
  · simp
  · rintro i ⟨hi, he⟩
    simp (config := { maxSteps := 1000000 }) (disch := first | omega | (simp only [go_sem]; omega)) only [go_sem, ↓reduceIte, c_r11_place_b6]
    refine bran_dec (fun h => ?_) (fun h => ?_)
    · have hd := idx_drop (fun p => decide (p = ⟨a, b⟩)) l i (by omega)
      simp (config := { maxSteps := 1000000 }) (disch := first | omega | (simp only [go_sem]; omega)) only [go_sem, ↓reduceIte]
      refine bran_dec (fun h2 => ?_) (fun h2 => ?_)
      · simp (config := { maxSteps := 1000000 }) (disch := first | omega | (simp only [go_sem]; omega)) only [go_sem, ↓reduceIte, h2]
        refine bran_dec (fun h3 => ?_) (fun h3 => ?_)
        · simp (config := { maxSteps := 1000000 }) (disch := first | omega | (simp only [go_sem]; omega)) only [go_sem, ↓reduceIte]
          rw [he, hd, if_pos (by simp [eqPr, h2, h3])]
        · simp (config := { maxSteps := 1000000 }) (disch := first | omega | (simp only [go_sem]; omega)) only [go_sem, ↓reduceIte]
          exact ⟨i + 1, by simp, ⟨by omega, by rw [he, hd, if_neg (by simp [eqPr, h3])]⟩, by omega⟩
      · simp (config := { maxSteps := 1000000 }) (disch := first | omega | (simp only [go_sem]; omega)) only [go_sem, ↓reduceIte, h2]
        exact ⟨i + 1, by simp, ⟨by omega, by rw [he, hd, if_neg (by simp [eqPr, h2])]⟩, by omega⟩
    · simp (config := { maxSteps := 1000000 }) (disch := first | omega | (simp only [go_sem]; omega)) only [go_sem, ↓reduceIte]
      rw [he, List.drop_of_length_le (by omega)]
      rfl
theorem at2_step (p q : List Int) (a b : Int) (l : List Int) (i : Nat) (h : i < l.length) : at2 p q a b (l.drop i) i = if gt p i = a ∧ gt q i = b then (i : Int) else at2 p q a b (l.drop (i + 1)) ((i + 1 : Nat) : Int) := by
  rw [drop_gt h, at2]; rfl
theorem w_r11_first (p q : List Int) (a b : Int) (hp : p.length ≤ maxL) (hq : q.length = p.length) : W P (c_r11_first F) (Done [.t 8] [] (.int .i64 (at2 p q a b p 0)) []) (init [.lst 1 (ints p), .lst 1 (ints q), .int .i64 a, .int .i64 b]) := by
  refine W_of ?_
  unfold maxL at hp
  simp (config := { maxSteps := 1000000 }) (disch := first | omega | (simp only [go_sem]; omega)) only [go_sem, ↓reduceIte]
  refine W_loop (fun i : Nat => ⟨[(0, .lst 1 (ints p)), (1, .lst 1 (ints q)), (2, .int .i64 a), (3, .int .i64 b), (9, .int .i64 i)], [], 0⟩) (fun i => i ≤ p.length ∧ at2 p q a b p 0 = at2 p q a b (p.drop i) i) (fun i => p.length - i) 0 ?_ ?_ ?_
  · simp (config := { maxSteps := 1000000 }) (disch := first | omega | (simp only [go_sem]; omega)) only [go_sem, ↓reduceIte]
    rfl
  · simp
  · rintro i ⟨hi, he⟩
    simp (config := { maxSteps := 1000000 }) (disch := first | omega | (simp only [go_sem]; omega)) only [go_sem, ↓reduceIte, c_r11_first_b6]
    refine bran_dec (fun h => ?_) (fun h => ?_)
    · have hd := at2_step p q a b p i (by omega)
      simp (config := { maxSteps := 1000000 }) (disch := first | omega | (simp only [go_sem]; omega)) only [go_sem, ↓reduceIte]
      refine bran_dec (fun h2 => ?_) (fun h2 => ?_)
      · simp (config := { maxSteps := 1000000 }) (disch := first | omega | (simp only [go_sem]; omega)) only [go_sem, ↓reduceIte, h2]
        refine bran_dec (fun h3 => ?_) (fun h3 => ?_)
        · simp (config := { maxSteps := 1000000 }) (disch := first | omega | (simp only [go_sem]; omega)) only [go_sem, ↓reduceIte]
          rw [he, hd, if_pos ⟨h2, h3⟩]
        · simp (config := { maxSteps := 1000000 }) (disch := first | omega | (simp only [go_sem]; omega)) only [go_sem, ↓reduceIte]
          exact ⟨i + 1, by simp, ⟨by omega, by rw [he, hd, if_neg (fun h => h3 h.2)]⟩, by omega⟩
      · simp (config := { maxSteps := 1000000 }) (disch := first | omega | (simp only [go_sem]; omega)) only [go_sem, ↓reduceIte, h2]
        exact ⟨i + 1, by simp, ⟨by omega, by rw [he, hd, if_neg (fun h => h2 h.1)]⟩, by omega⟩
    · simp (config := { maxSteps := 1000000 }) (disch := first | omega | (simp only [go_sem]; omega)) only [go_sem, ↓reduceIte]
      rw [he, List.drop_of_length_le (by omega)]
      rfl
theorem w_r11_SamePairs (a b : List Pr) (hl : a.length ≤ maxL) : W P (c_r11_SamePairs F) (Done [.t 4] [] (.bool (decide (a = b))) []) (init [.lst 2 (prs a), .lst 2 (prs b)]) := by
  refine W_of ?_
  unfold maxL at hl
  simp (config := { maxSteps := 1000000 }) (disch := first | omega | (simp only [go_sem]; omega)) only [go_sem, ↓reduceIte]
  refine bran_ndec (fun h => ?_) (fun h => ?_)
  · simp (config := { maxSteps := 1000000 }) (disch := first | omega | (simp only [go_sem]; omega)) only [go_sem, ↓reduceIte]
    have : a ≠ b := fun e => h (by rw [e])
    simp [this]
  · have h' : a.length = b.length := by omega
    simp (config := { maxSteps := 1000000 }) (disch := first | omega | (simp only [go_sem]; omega)) only [go_sem, ↓reduceIte]
    refine W_loop (fun i : Nat => ⟨[(0, .lst 2 (prs a)), (1, .lst 2 (prs b)), (5, .int .i64 i)], [], 0⟩) (fun i => i ≤ a.length ∧ a.take i = b.take i) (fun i => a.length - i) 0 ?_ ?_ ?_
    · simp (config := { maxSteps := 1000000 }) (disch := first | omega | (simp only [go_sem]; omega)) only [go_sem, ↓reduceIte]
      rfl
    · simp
    · rintro i ⟨hi, ht⟩
      simp (config := { maxSteps := 1000000 }) (disch := first | omega | (simp only [go_sem]; omega)) only [go_sem, ↓reduceIte, c_r11_SamePairs_b8]
      refine bran_dec (fun f => ?_) (fun f => ?_)
      · have he : (decide ((gt a i).a = (gt b i).a) && decide ((gt a i).b = (gt b i).b)) = decide (gt a i = gt b i) := by
          rw [Bool.eq_iff_iff]; simp [eqPr]
        simp (config := { maxSteps := 1000000 }) (disch := first | omega | (simp only [go_sem]; omega)) only [go_sem, ↓reduceIte, he]
        refine bran_ndec (fun d2 => ?_) (fun d2 => ?_)
        · simp (config := { maxSteps := 1000000 }) (disch := first | omega | (simp only [go_sem]; omega)) only [go_sem, ↓reduceIte]
          have : a ≠ b := fun e => d2 (by rw [e])
          simp [this]
        · simp (config := { maxSteps := 1000000 }) (disch := first | omega | (simp only [go_sem]; omega)) only [go_sem, ↓reduceIte]
          exact ⟨i + 1, by simp, ⟨by omega, by rw [take_gt (by omega), take_gt (by omega), ht, d2]⟩, by omega⟩
      · simp (config := { maxSteps := 1000000 }) (disch := first | omega | (simp only [go_sem]; omega)) only [go_sem, ↓reduceIte]
        obtain rfl : i = a.length := by omega
        rw [List.take_length, List.take_of_length_le (by omega)] at ht
        simp [ht]
theorem w_r07_Same (hs : K_r05_SameInts P F) (a b : Mo) (h1 : a.n.length ≤ maxL) (h2 : a.e.length ≤ maxL) : W P (c_r07_Same F) (Done [.t 4] [] (.bool (decide (a = b))) []) (init [mD a, mD b]) := by
  refine W_of ?_
  obtain ⟨an, ae⟩ := a
  obtain ⟨bn, be⟩ := b
  simp only at h1 h2
  simp (config := { maxSteps := 1000000 }) (disch := first | omega | (simp only [go_sem]; omega)) only [go_sem, ↓reduceIte, mD]
  refine call_by (hs _ _ h1) ?_
  simp (config := { maxSteps := 1000000 }) (disch := first | omega | (simp only [go_sem]; omega)) only [go_sem, ↓reduceIte]
  refine bran_dec (fun c => ?_) (fun c => ?_)
  · subst c
    simp (config := { maxSteps := 1000000 }) (disch := first | omega | (simp only [go_sem]; omega)) only [go_sem, ↓reduceIte]
    refine call_by (hs _ _ h2) ?_
    simp (config := { maxSteps := 1000000 }) (disch := first | omega | (simp only [go_sem]; omega)) only [go_sem, ↓reduceIte]
    simp
  · simp (config := { maxSteps := 1000000 }) (disch := first | omega | (simp only [go_sem]; omega)) only [go_sem, ↓reduceIte, c]
    simp [c]
/-- No element is equal to one ahead of it, up to here. -/
theorem nodup_take {l : List Int} {i : Nat} (h : i < l.length) : (l.take (i + 1)).Nodup ↔ (l.take i).Nodup ∧ ∀ k : Nat, k < i → gt l i ≠ gt l k := by
  rw [take_gt h, List.nodup_append]
  simp only [List.nodup_cons, List.not_mem_nil, not_false_eq_true, List.nodup_nil, and_self, true_and, List.mem_cons, or_false, forall_eq, ne_eq]
  refine and_congr_right fun _ => ⟨fun hh k hk e => ?_, fun hh x hx e => ?_⟩
  · refine hh (gt l k) ?_ e.symm
    rw [gt_nat (by omega)]
    exact List.mem_take_iff_getElem.2 ⟨k, by omega, rfl⟩
  · obtain ⟨k, hk, rfl⟩ := List.mem_take_iff_getElem.1 hx
    refine hh k (by omega) ?_
    rw [gt_nat (l := l) (i := k) (by omega)]
    exact e.symm
theorem w_r06_Distinct (l : List Int) (hl : l.length ≤ maxL) : W P (c_r06_Distinct F) (Done [.t 2] [] (.bool (distinct l)) []) (init [.lst 1 (ints l)]) := by
  refine W_of ?_
  unfold maxL at hl
  simp (config := { maxSteps := 1000000 }) (disch := first | omega | (simp only [go_sem]; omega)) only [go_sem, ↓reduceIte]
  refine W_loop (fun i : Nat => ⟨[(0, .lst 1 (ints l)), (3, .int .i64 i)], [], 0⟩) (fun i => i ≤ l.length ∧ (l.take i).Nodup) (fun i => l.length - i) 0 ?_ ?_ ?_
  · simp (config := { maxSteps := 1000000 }) (disch := first | omega | (simp only [go_sem]; omega)) only [go_sem, ↓reduceIte]
    rfl
  · simp
  · rintro i ⟨hi, hn⟩
    simp (config := { maxSteps := 1000000 }) (disch := first | omega | (simp only [go_sem]; omega)) only [go_sem, ↓reduceIte, c_r06_Distinct_b10]
    refine bran_dec (fun c => ?_) (fun c => ?_)
    · have ht := nodup_take (l := l) (i := i) (by omega)
      simp (config := { maxSteps := 1000000 }) (disch := first | omega | (simp only [go_sem]; omega)) only [go_sem, ↓reduceIte]
      refine W_loop (fun k : Nat => ⟨[(0, .lst 1 (ints l)), (3, .int .i64 i), (4, .int .i64 k)], [], 0⟩) (fun k => k ≤ i ∧ ∀ j : Nat, j < k → gt l i ≠ gt l j) (fun k => i - k) 0 ?_ ?_ ?_
      · simp (config := { maxSteps := 1000000 }) (disch := first | omega | (simp only [go_sem]; omega)) only [go_sem, ↓reduceIte]
        rfl
      · simp
      · rintro k ⟨hk, hd⟩
        simp (config := { maxSteps := 1000000 }) (disch := first | omega | (simp only [go_sem]; omega)) only [go_sem, ↓reduceIte, c_r06_Distinct_b8]
        refine bran_dec (fun d => ?_) (fun d => ?_)
        · simp (config := { maxSteps := 1000000 }) (disch := first | omega | (simp only [go_sem]; omega)) only [go_sem, ↓reduceIte]
          refine bran_dec (fun e => ?_) (fun e => ?_)
          · simp (config := { maxSteps := 1000000 }) (disch := first | omega | (simp only [go_sem]; omega)) only [go_sem, ↓reduceIte]
            have : ¬ l.Nodup := fun h => by
              have h2 := ht.1 (h.sublist (List.take_sublist _ _))
              exact h2.2 k (by omega) e
            simp [distinct, this]
          · simp (config := { maxSteps := 1000000 }) (disch := first | omega | (simp only [go_sem]; omega)) only [go_sem, ↓reduceIte]
            refine ⟨k + 1, by simp, ⟨by omega, fun j hj => ?_⟩, by omega⟩
            by_cases hjk : j = k
            · subst hjk; exact e
            · exact hd j (by omega)
        · simp (config := { maxSteps := 1000000 }) (disch := first | omega | (simp only [go_sem]; omega)) only [go_sem, ↓reduceIte]
          exact ⟨i + 1, by simp, ⟨by omega, ht.2 ⟨hn, fun j hj => hd j (by omega)⟩⟩, by omega⟩
    · simp (config := { maxSteps := 1000000 }) (disch := first | omega | (simp only [go_sem]; omega)) only [go_sem, ↓reduceIte]
      rw [List.take_of_length_le (by omega)] at hn
      simp [distinct, hn]
theorem w_r06_Injective (hv : K_r06_Valid P F) (hd : K_r06_Distinct P F) (a b : G) (m : Mo) (h1 : m.n.length ≤ maxL) (h2 : m.e.length ≤ maxL) : W P (c_r06_Injective F) (Done [.t 6] [] (.bool (injM a b m)) []) (init [gD a, gD b, mD m]) := by
  refine W_of ?_
  have rv := hv a b m
  have hi : injM a b m = (decide (validM a b m = 0) && (distinct m.n && distinct m.e)) := rfl
  rw [hi]
  generalize validM a b m = v at *
  have r1 := hd m.n h1
  have r2 := hd m.e h2
  obtain ⟨an, ae⟩ := a
  obtain ⟨bn, be⟩ := b
  obtain ⟨mn, me⟩ := m
  simp only [gD, mD] at rv r1 r2 ⊢
  simp (config := { maxSteps := 1000000 }) (disch := first | omega | (simp only [go_sem]; omega)) only [go_sem, ↓reduceIte]
  refine call_by rv ?_
  simp (config := { maxSteps := 1000000 }) (disch := first | omega | (simp only [go_sem]; omega)) only [go_sem, ↓reduceIte]
  refine bran_dec (fun c => ?_) (fun c => ?_)
  · simp (config := { maxSteps := 1000000 }) (disch := first | omega | (simp only [go_sem]; omega)) only [go_sem, ↓reduceIte, c]
    refine call_by r1 ?_
    simp (config := { maxSteps := 1000000 }) (disch := first | omega | (simp only [go_sem]; omega)) only [go_sem, ↓reduceIte]
    refine bran_by (fun d => ?_) (fun d => ?_)
    · simp (config := { maxSteps := 1000000 }) (disch := first | omega | (simp only [go_sem]; omega)) only [go_sem, ↓reduceIte, c, d]
      refine call_by r2 ?_
      simp (config := { maxSteps := 1000000 }) (disch := first | omega | (simp only [go_sem]; omega)) only [go_sem, ↓reduceIte, c, d]
    · simp (config := { maxSteps := 1000000 }) (disch := first | omega | (simp only [go_sem]; omega)) only [go_sem, ↓reduceIte, c, d]
  · simp (config := { maxSteps := 1000000 }) (disch := first | omega | (simp only [go_sem]; omega)) only [go_sem, ↓reduceIte, c]
end
end Go.Am
