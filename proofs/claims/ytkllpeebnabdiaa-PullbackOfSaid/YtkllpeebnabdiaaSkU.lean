/- Injective and surjective morphisms. -/
import Derived.Test.YtkllpeebnabdiaaSkT
namespace Go.Am
open Go
set_option linter.unusedVariables false
set_option linter.unusedSimpArgs false
section
variable {P : Program} {F : String → Nat} {α : Type}
theorem w_morphism_images (hc : K_slices_Clone_I P F) (hs : K_slices_Sort_I P F) (hp : K_slices_Compact_I P F) (l : List Int) (hl : l.length ≤ 1000000) : W P (c_morphism_images F) (Done [.t 2] [] (.int .i64 (imgs l).length) []) (init [.lst 1 (ints l)]) := by
  refine W_of ?_
  have e1 := srt_len l
  have e2 := imgs_len l
  have r1 := hc l (by omega)
  have r2 := hs l (by unfold maxL; omega)
  have r3 := hp (srt l) (by unfold maxL; omega)
  change FC P _ _ (.arr 1 (ints (imgs l))) _ at r3
  generalize imgs l = m at *
  generalize srt l = q at *
  simp (config := { maxSteps := 1000000 }) (disch := first | omega | (simp only [go_sem]; omega)) only [go_sem, ↓reduceIte]
  refine call_by r1 ?_
  simp (config := { maxSteps := 1000000 }) (disch := first | omega | (simp only [go_sem]; omega)) only [go_sem, ↓reduceIte]
  refine call_by r2 ?_
  simp (config := { maxSteps := 1000000 }) (disch := first | omega | (simp only [go_sem]; omega)) only [go_sem, ↓reduceIte, e1]
  refine call_by r3 ?_
  simp (config := { maxSteps := 1000000 }) (disch := first | omega | (simp only [go_sem]; omega)) only [go_sem, ↓reduceIte]
theorem inj_imgs (l : List Int) : decide (((imgs l).length : Int) = l.length) = distinct l := by
  rw [Bool.eq_iff_iff, distinct, decide_eq_true_eq, decide_eq_true_eq, ← imgs_inj]
  omega
theorem w_morphism_Injective (hv : K_morphism_Valid P F) (hi : K_morphism_images P F) (a b : G) (m : Mo) : W P (c_morphism_Injective F) (Done [.t 6] [] (.bool (injM a b m)) []) (init [gD a, gD b, mD m]) := by
  refine W_of ?_
  have rv := hv a b m
  have hl := @validM_len a b m
  have hd : injM a b m = (decide (validM a b m = 0) && (distinct m.n && distinct m.e)) := rfl
  rw [hd, ← inj_imgs m.n, ← inj_imgs m.e]
  generalize validM a b m = v at *
  obtain ⟨an, ae⟩ := a
  obtain ⟨bn, be⟩ := b
  obtain ⟨mn, me⟩ := m
  simp only [gD, mD] at rv ⊢
  simp (config := { maxSteps := 1000000 }) (disch := first | omega | (simp only [go_sem]; omega)) only [go_sem, ↓reduceIte]
  refine call_by rv ?_
  simp (config := { maxSteps := 1000000 }) (disch := first | omega | (simp only [go_sem]; omega)) only [go_sem, ↓reduceIte]
  refine bran_dec (fun c => ?_) (fun c => ?_)
  · subst c
    obtain ⟨l1, l2, _⟩ := hl rfl
    simp only at l1 l2
    have r1 := hi mn (by omega)
    have r2 := hi me (by omega)
    have e1 := imgs_len mn
    have e2 := imgs_len me
    generalize imgs mn = pn at *
    generalize imgs me = pe at *
    simp (config := { maxSteps := 1000000 }) (disch := first | omega | (simp only [go_sem]; omega)) only [go_sem, ↓reduceIte]
    refine call_by r1 ?_
    simp (config := { maxSteps := 1000000 }) (disch := first | omega | (simp only [go_sem]; omega)) only [go_sem, ↓reduceIte]
    refine bran_dec (fun d => ?_) (fun d => ?_)
    · simp (config := { maxSteps := 1000000 }) (disch := first | omega | (simp only [go_sem]; omega)) only [go_sem, ↓reduceIte, d]
      refine call_by r2 ?_
      simp (config := { maxSteps := 1000000 }) (disch := first | omega | (simp only [go_sem]; omega)) only [go_sem, ↓reduceIte, d]
      try simp
    · simp (config := { maxSteps := 1000000 }) (disch := first | omega | (simp only [go_sem]; omega)) only [go_sem, ↓reduceIte, d]
      try simp
  · simp (config := { maxSteps := 1000000 }) (disch := first | omega | (simp only [go_sem]; omega)) only [go_sem, ↓reduceIte, c]
    try simp
theorem w_r06_Covers (l : List Int) (n : Nat) (hl : l.length ≤ maxL) (hn : n ≤ 1000000) : W P (c_r06_Covers F) (Done [.t 4] [] (.bool (covers l n)) []) (init [.lst 1 (ints l), .int .i64 n]) := by
  refine W_of ?_
  unfold maxL at hl
  simp (config := { maxSteps := 1000000 }) (disch := first | omega | (simp only [go_sem]; omega)) only [go_sem, ↓reduceIte]
  refine W_loop (fun k : Nat => ⟨[(0, .lst 1 (ints l)), (1, .int .i64 n), (5, .int .i64 k)], [], 0⟩) (fun k => k ≤ n ∧ ∀ j : Nat, j < k → (j : Int) ∈ l) (fun k => n - k) 0 ?_ ?_ ?_
  · simp (config := { maxSteps := 1000000 }) (disch := first | omega | (simp only [go_sem]; omega)) only [go_sem, ↓reduceIte]
    rfl
  · simp
  · rintro k ⟨hk, ha⟩
    simp (config := { maxSteps := 1000000 }) (disch := first | omega | (simp only [go_sem]; omega)) only [go_sem, ↓reduceIte, c_r06_Covers_b12]
    refine bran_dec (fun c => ?_) (fun c => ?_)
    · simp (config := { maxSteps := 1000000 }) (disch := first | omega | (simp only [go_sem]; omega)) only [go_sem, ↓reduceIte]
      refine W_loop (fun i : Nat => ⟨[(0, .lst 1 (ints l)), (1, .int .i64 n), (5, .int .i64 k), (6, .bool (decide ((k : Int) ∈ l.take i))), (7, .int .i64 i)], [], 0⟩) (fun i => i ≤ l.length) (fun i => l.length - i) 0 ?_ ?_ ?_
      · simp (config := { maxSteps := 1000000 }) (disch := first | omega | (simp only [go_sem]; omega)) only [go_sem, ↓reduceIte]
        simp
      · simp
      · intro i hi
        simp (config := { maxSteps := 1000000 }) (disch := first | omega | (simp only [go_sem]; omega)) only [go_sem, ↓reduceIte, c_r06_Covers_b8]
        refine bran_dec (fun d => ?_) (fun d => ?_)
        · have ht := take_gt (l := l) (i := i) (by omega)
          have hm : decide ((k : Int) ∈ l.take (i + 1)) = (decide ((k : Int) ∈ l.take i) || decide (gt l i = k)) := by
            rw [Bool.eq_iff_iff, ht, Bool.or_eq_true, decide_eq_true_eq, decide_eq_true_eq, decide_eq_true_eq, List.mem_append, List.mem_singleton, eq_comm (a := gt l i)]
          simp (config := { maxSteps := 1000000 }) (disch := first | omega | (simp only [go_sem]; omega)) only [go_sem, ↓reduceIte]
          refine bran_dec (fun e => ?_) (fun e => ?_)
          · simp (config := { maxSteps := 1000000 }) (disch := first | omega | (simp only [go_sem]; omega)) only [go_sem, ↓reduceIte, e]
            exact ⟨i + 1, by simp [hm, e], by omega, by omega⟩
          · simp (config := { maxSteps := 1000000 }) (disch := first | omega | (simp only [go_sem]; omega)) only [go_sem, ↓reduceIte, e]
            exact ⟨i + 1, by simp [hm, e], by omega, by omega⟩
        · have hz : l.take i = l := List.take_of_length_le (by omega)
          simp (config := { maxSteps := 1000000 }) (disch := first | omega | (simp only [go_sem]; omega)) only [go_sem, ↓reduceIte, hz]
          refine bran_ndec (fun e => ?_) (fun e => ?_)
          · simp (config := { maxSteps := 1000000 }) (disch := first | omega | (simp only [go_sem]; omega)) only [go_sem, ↓reduceIte]
            have : covers l n = false := by
              rw [← Bool.not_eq_true, covers, List.all_eq_true]
              intro h
              have := h k (by simp; omega)
              simp at this
              exact e this
            rw [this]
          · simp (config := { maxSteps := 1000000 }) (disch := first | omega | (simp only [go_sem]; omega)) only [go_sem, ↓reduceIte]
            refine ⟨k + 1, by simp, ⟨by omega, fun j hj => ?_⟩, by omega⟩
            by_cases hjk : j = k
            · subst hjk; exact e
            · exact ha j (by omega)
    · simp (config := { maxSteps := 1000000 }) (disch := first | omega | (simp only [go_sem]; omega)) only [go_sem, ↓reduceIte]
      have : covers l n = true := by
        rw [covers, List.all_eq_true]
        intro j hj
        simpa using ha j (by simp at hj; omega)
      rw [this]
theorem nodeE_all {bn : List Int} : ∀ {ms as : List Int}, nodeE bn ms as = 0 → ms.length = as.length → ∀ i : Nat, i < ms.length → (0 ≤ gt ms i ∧ gt ms i < bn.length) ∧ gt bn (gt ms i) = gt as i
  | [], _, _, _, i, hi => by simp at hi
  | k :: ms, [], _, hl, _, _ => by simp at hl
  | k :: ms, t :: as, h, hl, i, hi => by
    rw [nodeE] at h
    split at h
    · rename_i h1
      split at h
      · rename_i h2
        cases i with
        | zero => exact ⟨h1, h2⟩
        | succ i =>
          have := nodeE_all h (by simpa using hl) i (by simpa using hi)
          have e1 : gt (k :: ms) ((i + 1 : Nat) : Int) = gt ms i := by simp [gt]
          have e2 : gt (t :: as) ((i + 1 : Nat) : Int) = gt as i := by simp [gt]
          rw [e1, e2]; exact this
      · simp at h
    · simp at h
theorem edgeE_all {be : List E} {mn : List Int} : ∀ {ms : List Int} {as : List E}, edgeE be mn ms as = 0 → ms.length = as.length → ∀ i : Nat, i < ms.length →
    (0 ≤ gt ms i ∧ gt ms i < be.length) ∧ (gt as i).t = (gt be (gt ms i)).t ∧ gt mn (gt as i).f = (gt be (gt ms i)).f ∧ gt mn (gt as i).o = (gt be (gt ms i)).o
  | [], _, _, _, i, hi => by simp at hi
  | k :: ms, [], _, hl, _, _ => by simp at hl
  | k :: ms, x :: as, h, hl, i, hi => by
    rw [edgeE] at h
    split at h
    · rename_i h1
      split at h
      · rename_i h2
        split at h
        · rename_i h3
          cases i with
          | zero => exact ⟨h1, h2, h3⟩
          | succ i =>
            have := edgeE_all h (by simpa using hl) i (by simpa using hi)
            have e1 : gt (k :: ms) ((i + 1 : Nat) : Int) = gt ms i := by simp [gt]
            have e2 : gt (x :: as) ((i + 1 : Nat) : Int) = gt as i := by simp [gt]
            rw [e1, e2]; exact this
        · simp at h
      · simp at h
    · simp at h
theorem mem_gt {α : Type} [Inhabited α] {l : List α} {x : α} (h : x ∈ l) : ∃ i : Nat, i < l.length ∧ gt l i = x := by
  obtain ⟨i, hi, rfl⟩ := List.getElem_of_mem h
  exact ⟨i, hi, gt_nat hi⟩
theorem validM_bd {a b : G} {m : Mo} (h : validM a b m = 0) : (∀ x ∈ m.n, 0 ≤ x ∧ x < b.n.length) ∧ ∀ x ∈ m.e, 0 ≤ x ∧ x < b.e.length := by
  obtain ⟨_, _, h3, h4, h5, h6⟩ := validM_spec h
  refine ⟨fun x hx => ?_, fun x hx => ?_⟩
  · obtain ⟨i, hi, rfl⟩ := mem_gt hx
    exact (nodeE_all h5 h3 i hi).1
  · obtain ⟨i, hi, rfl⟩ := mem_gt hx
    exact (edgeE_all h6 h4 i hi).1
theorem sur_imgs {l : List Int} {n : Nat} (hb : ∀ x ∈ l, 0 ≤ x ∧ x < n) : decide (((imgs l).length : Int) = n) = covers l n := by
  rw [Bool.eq_iff_iff, covers, decide_eq_true_eq, List.all_eq_true]
  simp only [List.mem_range, decide_eq_true_eq]
  rw [← imgs_sur hb]
  omega
theorem w_morphism_Surjective (hv : K_morphism_Valid P F) (hi : K_morphism_images P F) (a b : G) (m : Mo) : W P (c_morphism_Surjective F) (Done [.t 6] [] (.bool (surM a b m)) []) (init [gD a, gD b, mD m]) := by
  refine W_of ?_
  have rv := hv a b m
  have hl := @validM_len a b m
  have hbd := @validM_bd a b m
  have hd : surM a b m = (decide (validM a b m = 0) && (covers m.n b.n.length && covers m.e b.e.length)) := rfl
  rw [hd]
  generalize validM a b m = v at *
  obtain ⟨an, ae⟩ := a
  obtain ⟨bn, be⟩ := b
  obtain ⟨mn, me⟩ := m
  simp only [gD, mD] at rv ⊢
  simp (config := { maxSteps := 1000000 }) (disch := first | omega | (simp only [go_sem]; omega)) only [go_sem, ↓reduceIte]
  refine call_by rv ?_
  simp (config := { maxSteps := 1000000 }) (disch := first | omega | (simp only [go_sem]; omega)) only [go_sem, ↓reduceIte]
  refine bran_dec (fun c => ?_) (fun c => ?_)
  · subst c
    obtain ⟨l1, l2, _⟩ := hl rfl
    obtain ⟨b1, b2⟩ := hbd rfl
    simp only at l1 l2 b1 b2
    rw [← sur_imgs b1, ← sur_imgs b2]
    have r1 := hi mn (by omega)
    have r2 := hi me (by omega)
    have e1 := imgs_len mn
    have e2 := imgs_len me
    generalize imgs mn = pn at *
    generalize imgs me = pe at *
    simp (config := { maxSteps := 1000000 }) (disch := first | omega | (simp only [go_sem]; omega)) only [go_sem, ↓reduceIte]
    refine call_by r1 ?_
    simp (config := { maxSteps := 1000000 }) (disch := first | omega | (simp only [go_sem]; omega)) only [go_sem, ↓reduceIte]
    refine bran_dec (fun d => ?_) (fun d => ?_)
    · simp (config := { maxSteps := 1000000 }) (disch := first | omega | (simp only [go_sem]; omega)) only [go_sem, ↓reduceIte, d]
      refine call_by r2 ?_
      simp (config := { maxSteps := 1000000 }) (disch := first | omega | (simp only [go_sem]; omega)) only [go_sem, ↓reduceIte, d]
      try simp
    · simp (config := { maxSteps := 1000000 }) (disch := first | omega | (simp only [go_sem]; omega)) only [go_sem, ↓reduceIte, d]
      try simp
  · simp (config := { maxSteps := 1000000 }) (disch := first | omega | (simp only [go_sem]; omega)) only [go_sem, ↓reduceIte, c]
    try simp
theorem w_r06_Surjective (hv : K_r06_Valid P F) (hc : K_r06_Covers P F) (a b : G) (m : Mo) : W P (c_r06_Surjective F) (Done [.t 6] [] (.bool (surM a b m)) []) (init [gD a, gD b, mD m]) := by
  refine W_of ?_
  have rv := hv a b m
  have hl := @validM_len a b m
  have hd : surM a b m = (decide (validM a b m = 0) && (covers m.n b.n.length && covers m.e b.e.length)) := rfl
  rw [hd]
  generalize validM a b m = v at *
  obtain ⟨an, ae⟩ := a
  obtain ⟨bn, be⟩ := b
  obtain ⟨mn, me⟩ := m
  simp only [gD, mD] at rv ⊢
  simp (config := { maxSteps := 1000000 }) (disch := first | omega | (simp only [go_sem]; omega)) only [go_sem, ↓reduceIte]
  refine call_by rv ?_
  simp (config := { maxSteps := 1000000 }) (disch := first | omega | (simp only [go_sem]; omega)) only [go_sem, ↓reduceIte]
  refine bran_dec (fun c => ?_) (fun c => ?_)
  · subst c
    obtain ⟨l1, l2, _, _, l3, l4⟩ := hl rfl
    simp only at l1 l2 l3 l4
    have r1 := hc mn bn.length (by unfold maxL; omega) (by omega)
    have r2 := hc me be.length (by unfold maxL; omega) (by omega)
    generalize covers mn bn.length = o1 at *
    generalize covers me be.length = o2 at *
    simp (config := { maxSteps := 1000000 }) (disch := first | omega | (simp only [go_sem]; omega)) only [go_sem, ↓reduceIte]
    refine call_by r1 ?_
    cases o1
    · simp (config := { maxSteps := 1000000 }) (disch := first | omega | (simp only [go_sem]; omega)) only [go_sem, ↓reduceIte]
      try simp
    · simp (config := { maxSteps := 1000000 }) (disch := first | omega | (simp only [go_sem]; omega)) only [go_sem, ↓reduceIte]
      refine call_by r2 ?_
      simp (config := { maxSteps := 1000000 }) (disch := first | omega | (simp only [go_sem]; omega)) only [go_sem, ↓reduceIte]
      try simp
  · simp (config := { maxSteps := 1000000 }) (disch := first | omega | (simp only [go_sem]; omega)) only [go_sem, ↓reduceIte, c]
    try simp
end
end Go.Am
