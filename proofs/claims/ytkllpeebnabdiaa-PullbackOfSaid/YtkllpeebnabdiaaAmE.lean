/- Lemmas on how data lie in memory. -/
import Derived.Test.YtkllpeebnabdiaaAmD
namespace Go.Am
open Go

theorem Mem.nil {w : World} {b off : Nat} : Mem w b off [] := by intro j u h; simp at h
theorem Mem.append {w : World} {b off : Nat} {u v : List Value} : Mem w b off (u ++ v) ↔ Mem w b off u ∧ Mem w b (off + u.length) v := by
  constructor
  · intro h
    refine ⟨fun j x hj => h j x ?_, fun j x hj => ?_⟩
    · rw [List.getElem?_append_left (List.getElem?_eq_some_iff.1 hj).1]; exact hj
    · have := h (u.length + j) x (by rw [List.getElem?_append_right (by omega)]; simpa using hj)
      rw [← Nat.add_assoc] at this; exact this
  · rintro ⟨h1, h2⟩ j x hj
    by_cases hlt : j < u.length
    · rw [List.getElem?_append_left hlt] at hj; exact h1 j x hj
    · rw [List.getElem?_append_right (by omega)] at hj
      have := h2 _ x hj
      have e : off + u.length + (j - u.length) = off + j := by omega
      rw [e] at this; exact this
theorem Mem.of_cells {w : World} {b : Nat} {cur : Array Value} {e : TypeId} {fr : Nat × Nat} (hg : w.heap[b]? = some (.cells cur e fr)) {off : Nat} {us : List Value} (h : ∀ j u, us[j]? = some u → cur[off + j]? = some u) : Mem w b off us :=
  fun j u hj => by rw [cell_of_row w b _ cur e fr hg]; exact h j u hj
theorem Mem.cells {w : World} {b : Nat} {cur : Array Value} {e : TypeId} {fr : Nat × Nat} (hg : w.heap[b]? = some (.cells cur e fr)) {off : Nat} {us : List Value} (h : Mem w b off us) (j : Nat) (u : Value) (hj : us[j]? = some u) : cur[off + j]? = some u := by
  have := h j u hj
  rwa [cell_of_row w b _ cur e fr hg] at this
theorem Mem.le {w : World} {b : Nat} {cur : Array Value} {e : TypeId} {fr : Nat × Nat} (hg : w.heap[b]? = some (.cells cur e fr)) {off : Nat} {us : List Value} (h : Mem w b off us) (hne : 0 < us.length) : off + us.length ≤ cur.size := by
  have h1 : us[us.length - 1]? = some (us[us.length - 1]'(by omega)) := List.getElem?_eq_getElem (by omega)
  have := Mem.cells hg h _ _ h1
  have := (Array.getElem?_eq_some_iff.1 this).1
  omega

section
variable {w : World} {I : Nat → Prop}
theorem DR.lst_os {sz : Nat} {xs : List D} {v : Value} {os : List Nat} (h : DR w I (.lst sz xs) v os) : os = [] := by simp only [DR] at h; exact h.1
theorem PC.length {cs : List D} {us : List Value} (h : PC w I cs us) : us.length = cs.length := by
  induction cs generalizing us with
  | nil => simp only [PC] at h; subst h; rfl
  | cons c cs ih =>
    simp only [PC] at h
    obtain ⟨u, us', rfl, _, _, h⟩ := h
    simp [ih h]
theorem PC.one {cs : List D} {us : List Value} (h : PC w I cs us) : ∀ u ∈ us, u.oneCell' = true := by
  induction cs generalizing us with
  | nil => simp only [PC] at h; subst h; simp
  | cons c cs ih =>
    simp only [PC] at h
    obtain ⟨u, us', rfl, h1, _, h⟩ := h
    intro x hx
    rcases List.mem_cons.1 hx with rfl | hx
    · exact h1
    · exact ih h x hx
theorem PC.append {cs ds : List D} {us : List Value} : PC w I (cs ++ ds) us ↔ ∃ u v, us = u ++ v ∧ PC w I cs u ∧ PC w I ds v := by
  induction cs generalizing us with
  | nil => exact ⟨fun h => ⟨[], us, rfl, by simp [PC], h⟩, by rintro ⟨u, v, rfl, h, k⟩; simp only [PC] at h; subst h; exact k⟩
  | cons c cs ih =>
    simp only [List.cons_append, PC]
    constructor
    · rintro ⟨u, us', rfl, h1, h2, h3⟩
      obtain ⟨u', v, rfl, h4, h5⟩ := ih.1 h3
      exact ⟨u :: u', v, rfl, ⟨u, u', rfl, h1, h2, h4⟩, h5⟩
    · rintro ⟨u, v, rfl, ⟨u', us', rfl, h1, h2, h3⟩, h4⟩
      exact ⟨u', us' ++ v, rfl, h1, h2, ih.2 ⟨us', v, rfl, h3, h4⟩⟩
theorem PC.take {cs : List D} {us : List Value} (n : Nat) (h : PC w I cs us) : PC w I (cs.take n) (us.take n) := by
  have e := h
  rw [← List.take_append_drop n cs] at e
  obtain ⟨u, v, rfl, h1, h2⟩ := PC.append.1 e
  have hl := h1.length
  by_cases hn : n ≤ cs.length
  · have : u.length = n := by rw [hl]; simp; omega
    subst this; simpa using h1
  · have e2 : cs.drop n = [] := by simp; omega
    rw [e2] at h2; simp only [PC] at h2; subst h2
    have : u.length ≤ n := by rw [hl]; simp; omega
    simpa [List.take_of_length_le this] using h1
theorem PC.drop {cs : List D} {us : List Value} (n : Nat) (h : PC w I cs us) : PC w I (cs.drop n) (us.drop n) := by
  have e := h
  rw [← List.take_append_drop n cs] at e
  obtain ⟨u, v, rfl, h1, h2⟩ := PC.append.1 e
  have hl := h1.length
  by_cases hn : n ≤ cs.length
  · have : u.length = n := by rw [hl]; simp; omega
    subst this; simpa using h2
  · have e2 : cs.drop n = [] := by simp; omega
    rw [e2] at h2 ⊢; simp only [PC] at h2; subst h2
    have : u.length ≤ n := by rw [hl]; simp; omega
    simp [PC, this]

theorem PE.length {sz : Nat} {xs : List D} {us : List Value} (h : PE w I sz xs us) : us.length = xs.length * sz := by
  induction xs generalizing us with
  | nil => simp only [PE] at h; subst h; simp
  | cons c cs ih =>
    simp only [PE] at h
    obtain ⟨u, us', rfl, h1, _, h⟩ := h
    simp [ih h, h1, Nat.succ_mul]; omega
theorem PE.append {sz : Nat} {xs ys : List D} {us : List Value} : PE w I sz (xs ++ ys) us ↔ ∃ u v, us = u ++ v ∧ PE w I sz xs u ∧ PE w I sz ys v := by
  induction xs generalizing us with
  | nil => exact ⟨fun h => ⟨[], us, rfl, by simp [PE], h⟩, by rintro ⟨u, v, rfl, h, k⟩; simp only [PE] at h; subst h; exact k⟩
  | cons c cs ih =>
    simp only [List.cons_append, PE]
    constructor
    · rintro ⟨u, us', rfl, h1, h2, h3⟩
      obtain ⟨u', v, rfl, h4, h5⟩ := ih.1 h3
      exact ⟨u ++ u', v, by simp, ⟨u, u', rfl, h1, h2, h4⟩, h5⟩
    · rintro ⟨u, v, rfl, ⟨u', us', rfl, h1, h2, h3⟩, h4⟩
      exact ⟨u', us' ++ v, by simp, h1, h2, ih.2 ⟨us', v, rfl, h3, h4⟩⟩
theorem PE.get {sz : Nat} {xs : List D} {us : List Value} (h : PE w I sz xs us) {i : Nat} {x : D} (hx : xs[i]? = some x) :
    ∃ a u b, us = a ++ (u ++ b) ∧ a.length = i * sz ∧ u.length = sz ∧ P1 w I x u ∧ PE w I sz (xs.take i) a ∧ PE w I sz (xs.drop (i + 1)) b := by
  have hi := (List.getElem?_eq_some_iff.1 hx).1
  have e : xs = xs.take i ++ x :: xs.drop (i + 1) := by
    rw [(List.getElem?_eq_some_iff.1 hx).2.symm]; simp
  rw [e] at h
  obtain ⟨a, r, rfl, h1, h2⟩ := PE.append.1 h
  simp only [PE] at h2
  obtain ⟨u, b, rfl, h3, h4, h5⟩ := h2
  exact ⟨a, u, b, rfl, by rw [h1.length, List.length_take, Nat.min_eq_left (by omega)], h3, h4, h1, h5⟩
theorem P1.one {x : D} {us : List Value} (h : P1 w I x us) : ∀ u ∈ us, u.oneCell' = true := by
  cases x <;> simp only [P1] at h
  · subst h; simp [Value.oneCell']
  · subst h; simp [Value.oneCell']
  · obtain ⟨u, rfl, h1, _⟩ := h; simpa using h1
  · exact h.one
theorem PE.one {sz : Nat} {xs : List D} {us : List Value} (h : PE w I sz xs us) : ∀ u ∈ us, u.oneCell' = true := by
  induction xs generalizing us with
  | nil => simp only [PE] at h; subst h; simp
  | cons c cs ih =>
    simp only [PE] at h
    obtain ⟨u, us', rfl, h1, h2, h⟩ := h
    intro x hx
    rcases List.mem_append.1 hx with hx | hx
    · exact h2.one x hx
    · exact ih h x hx
theorem PE.take {sz : Nat} {xs : List D} {us : List Value} (n : Nat) (h : PE w I sz xs us) : ∃ u v, us = u ++ v ∧ PE w I sz (xs.take n) u ∧ PE w I sz (xs.drop n) v := by
  rw [← List.take_append_drop n xs] at h
  exact PE.append.1 h
theorem P1.cells {x : D} {us : List Value} (h : P1 w I x us) : PC w I x.cells us := by
  cases x <;> simp only [P1] at h <;> simp only [D.cells, PC]
  · subst h; exact ⟨_, _, rfl, rfl, by simp [DR], rfl⟩
  · subst h; exact ⟨_, _, rfl, rfl, by simp [DR], rfl⟩
  · obtain ⟨u, rfl, h1, h2, h3⟩ := h; exact ⟨_, _, rfl, h1, by simp only [DR]; exact ⟨trivial, h2, h3⟩, rfl⟩
  · exact h
theorem P1.of_cells {x : D} {us : List Value} {sz : Nat} (ho : okElem sz x = true) (h : PC w I x.cells us) : P1 w I x us ∧ us.length = sz := by
  have hl := h.length
  cases x <;> simp only [okElem, Bool.false_eq_true, Bool.and_eq_true, decide_eq_true_eq] at ho <;> simp only [D.cells, PC] at h <;> simp only [P1]
  · obtain ⟨u, us', rfl, h1, h2, rfl⟩ := h
    simp only [DR, and_true] at h2; subst h2; exact ⟨rfl, by simp [ho]⟩
  · obtain ⟨u, us', rfl, h1, h2, rfl⟩ := h
    simp only [DR, and_true] at h2; subst h2; exact ⟨rfl, by simp [ho]⟩
  · obtain ⟨u, us', rfl, h1, h2, rfl⟩ := h
    simp only [DR] at h2; exact ⟨⟨u, rfl, h1, h2.2⟩, by simp [ho]⟩
  · exact ⟨h, by rw [hl]; exact ho.1⟩
theorem PE.replicate {sz : Nat} {x : D} {us : List Value} (h : P1 w I x us) (hl : us.length = sz) (n : Nat) : PE w I sz (List.replicate n x) (List.replicate n us).flatten := by
  induction n with
  | zero => simp [PE]
  | succ n ih => simp only [List.replicate_succ, PE, List.flatten_cons]; exact ⟨us, _, rfl, hl, h, ih⟩
theorem PE.set {sz : Nat} {xs : List D} {us : List Value} (h : PE w I sz xs us) {i : Nat} {x y : D} (hx : xs[i]? = some x) {u' : List Value} (hy : P1 w I y u') (hl : u'.length = sz) :
    PE w I sz (xs.set i y) (us.take (i * sz) ++ (u' ++ us.drop (i * sz + sz))) := by
  obtain ⟨a, u, b, rfl, ha, hu, _, h1, h2⟩ := h.get hx
  have hi := (List.getElem?_eq_some_iff.1 hx).1
  have e : xs.set i y = xs.take i ++ y :: xs.drop (i + 1) := by
    rw [List.set_eq_take_append_cons_drop, if_pos hi]
  rw [e]
  refine PE.append.2 ⟨a, u' ++ b, ?_, h1, ?_⟩
  · rw [← ha, List.take_left, show a.length + sz = (a ++ u).length by simp [hu], ← List.append_assoc a u b, List.drop_left]
  · simp only [PE]; exact ⟨u', b, rfl, hl, hy, h2⟩

theorem DRs.length {ds : List D} {vs : List Value} {os : List Nat} (h : DRs w I ds vs os) : vs.length = ds.length := by
  induction ds generalizing vs os with
  | nil => simp only [DRs] at h; simp [h.1]
  | cons c cs ih =>
    simp only [DRs] at h
    obtain ⟨v, vs', o, o', rfl, rfl, _, h⟩ := h
    simp [ih h]
theorem PC.of_DRs {ds : List D} {vs : List Value} (h : DRs w I ds vs []) (h1 : ∀ u ∈ vs, u.oneCell' = true) : PC w I ds vs := by
  induction ds generalizing vs with
  | nil => simp only [DRs] at h; simpa [PC] using h
  | cons c cs ih =>
    simp only [DRs] at h
    obtain ⟨v, vs', o, o', rfl, ho, hd, h⟩ := h
    obtain ⟨rfl, rfl⟩ : o = [] ∧ o' = [] := by simpa using ho.symm
    simp only [PC]
    exact ⟨v, vs', rfl, h1 v (by simp), hd, ih h (fun u hu => h1 u (by simp [hu]))⟩
theorem PC.to_DRs {ds : List D} {vs : List Value} (h : PC w I ds vs) : DRs w I ds vs [] := by
  induction ds generalizing vs with
  | nil => simp only [PC] at h; subst h; simp [DRs]
  | cons c cs ih =>
    simp only [PC] at h
    obtain ⟨v, vs', rfl, h1, hd, h⟩ := h
    simp only [DRs]
    exact ⟨v, vs', [], [], rfl, rfl, hd, ih h⟩
end

section
variable {w : World} {I : Nat → Prop} {κ : Nat → Option KI}
theorem MRs.length {ds : List D} {vs : List Value} (h : MRs w I κ ds vs) : vs.length = ds.length := by
  induction ds generalizing vs with
  | nil => simp only [MRs] at h; simp [h]
  | cons c cs ih =>
    simp only [MRs] at h
    obtain ⟨v, vs', rfl, _, h⟩ := h
    simp [ih h]
theorem MRs.append {cs ds : List D} {us : List Value} : MRs w I κ (cs ++ ds) us ↔ ∃ u v, us = u ++ v ∧ MRs w I κ cs u ∧ MRs w I κ ds v := by
  induction cs generalizing us with
  | nil => exact ⟨fun h => ⟨[], us, rfl, by simp [MRs], h⟩, by rintro ⟨u, v, rfl, h, k⟩; simp only [MRs] at h; subst h; exact k⟩
  | cons c cs ih =>
    simp only [List.cons_append, MRs]
    constructor
    · rintro ⟨u, us', rfl, h2, h3⟩
      obtain ⟨u', v, rfl, h4, h5⟩ := ih.1 h3
      exact ⟨u :: u', v, rfl, ⟨u, u', rfl, h2, h4⟩, h5⟩
    · rintro ⟨u, v, rfl, ⟨u', us', rfl, h2, h3⟩, h4⟩
      exact ⟨u', us' ++ v, rfl, h2, ih.2 ⟨us', v, rfl, h3, h4⟩⟩
theorem MRs.take {cs : List D} {us : List Value} (n : Nat) (h : MRs w I κ cs us) : MRs w I κ (cs.take n) (us.take n) ∧ MRs w I κ (cs.drop n) (us.drop n) := by
  have e := h
  rw [← List.take_append_drop n cs] at e
  obtain ⟨u, v, rfl, h1, h2⟩ := MRs.append.1 e
  have hl := h1.length
  by_cases hn : n ≤ cs.length
  · have : u.length = n := by rw [hl]; simp; omega
    subst this; simpa using And.intro h1 h2
  · have e2 : cs.drop n = [] := by simp; omega
    rw [e2] at h2; simp only [MRs] at h2; subst h2
    have : u.length ≤ n := by rw [hl]; simp; omega
    simp [List.take_of_length_le this, h1, e2, MRs, this]
theorem MRs.get {ds : List D} {vs : List Value} (h : MRs w I κ ds vs) {i : Nat} {d : D} (hd : ds[i]? = some d) : ∃ v, vs[i]? = some v ∧ MR w I κ d v := by
  induction ds generalizing vs i with
  | nil => simp at hd
  | cons c cs ih =>
    simp only [MRs] at h
    obtain ⟨v, vs', rfl, hc, h⟩ := h
    cases i with
    | zero => simp at hd; subst hd; exact ⟨v, rfl, hc⟩
    | succ i => simpa using ih h (by simpa using hd)
theorem MRs.of_PC {ds : List D} {vs : List Value} (h : PC w I ds vs) : MRs w I κ ds vs := MRs.of_DRs _ _ h.to_DRs
end
end Go.Am
