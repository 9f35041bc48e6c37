/- Lists of bools as data; ascending lists; parts of graphs, plain. -/
import Derived.Test.YtfkkngepnnkloaaSkZ
import Derived.Test.YtfkkngepnnkloaaSkV
namespace Go.Am
open Go
set_option linter.unusedVariables false
set_option linter.unusedSimpArgs false
def bls (l : List Bool) : List D := l.map .bool
theorem bls_length (l : List Bool) : (bls l).length = l.length := by simp [bls]
theorem bls_at {l : List Bool} {j : Int} (h0 : 0 ≤ j) (h : j < l.length) : (bls l)[j.toNat]? = some (.bool (gt l j)) := by
  unfold bls
  rw [List.getElem?_map, get_gt h0 h]; rfl
theorem bls_atn {l : List Bool} {i : Nat} (h : i < l.length) : (bls l)[i]? = some (.bool (gt l i)) := by
  have := bls_at (l := l) (j := i) (by omega) (by omega)
  simpa using this
theorem bls_set {l : List Bool} {i : Nat} {b : Bool} : (bls l).set i (.bool b) = bls (l.set i b) := by simp [bls, List.map_set]
theorem bls_rep {n : Nat} {b : Bool} : List.replicate n (.bool b) = bls (List.replicate n b) := by simp [bls]
theorem bls_app (l m : List Bool) : bls l ++ bls m = bls (l ++ m) := by simp [bls]
theorem flat_bls (l : List Bool) : (bls l).all D.flatE = true := by simp [bls, D.flatE, D.flat0]
attribute [go_sem] bls_length bls_at bls_set bls_rep bls_app flat_bls
attribute [go_sem low] bls_atn
/-- An ascending list of numbers below a number. -/
structure AscL (l : List Int) (n : Nat) : Prop where
  p : l.Pairwise (· < ·)
  b : ∀ x ∈ l, 0 ≤ x ∧ x < n
/-- A part that is right. -/
structure PK (g : G) (p : Mo) : Prop where
  v : validG g = 0
  n : AscL p.n g.n.length
  e : AscL p.e g.e.length
  d : ∀ x ∈ p.e, (gt g.e x).f ∈ p.n ∧ (gt g.e x).o ∈ p.n
section
theorem sel_mem {p : Nat → Bool} {n : Nat} {x : Int} : x ∈ sel p n ↔ ∃ k : Nat, k < n ∧ p k = true ∧ x = k := by
  unfold sel
  simp only [List.mem_map, List.mem_filter, List.mem_range]
  exact ⟨fun ⟨k, ⟨h1, h2⟩, h3⟩ => ⟨k, h1, h2, h3.symm⟩, fun ⟨k, h1, h2, h3⟩ => ⟨k, ⟨h1, h2⟩, h3.symm⟩⟩
theorem sel_memN {p : Nat → Bool} {n k : Nat} : (k : Int) ∈ sel p n ↔ k < n ∧ p k = true := by
  rw [sel_mem]
  exact ⟨fun ⟨j, h1, h2, h3⟩ => by obtain rfl : k = j := by omega
                                   exact ⟨h1, h2⟩, fun ⟨h1, h2⟩ => ⟨k, h1, h2, rfl⟩⟩
theorem sel_pair (p : Nat → Bool) (n : Nat) : (sel p n).Pairwise (· < ·) := by
  unfold sel
  rw [List.pairwise_map]
  exact (List.pairwise_lt_range.sublist List.filter_sublist).imp fun h => by omega
theorem asc_ext : ∀ {a b : List Int}, a.Pairwise (· < ·) → b.Pairwise (· < ·) → (∀ x, x ∈ a ↔ x ∈ b) → a = b
  | [], [], _, _, _ => rfl
  | [], y :: b, _, _, h => absurd ((h y).2 (by simp)) (by simp)
  | x :: a, [], _, _, h => absurd ((h x).1 (by simp)) (by simp)
  | x :: a, y :: b, ha, hb, h => by
    rw [List.pairwise_cons] at ha hb
    have e : x = y := by
      have h1 := (h x).1 (by simp)
      have h2 := (h y).2 (by simp)
      simp only [List.mem_cons] at h1 h2
      rcases h1 with h1 | h1
      · exact h1
      rcases h2 with h2 | h2
      · exact h2.symm
      have := hb.1 x h1
      have := ha.1 y h2
      omega
    subst e
    rw [asc_ext ha.2 hb.2 fun z => ?_]
    have hz := h z
    simp only [List.mem_cons] at hz
    constructor
    · intro m
      rcases hz.1 (.inr m) with r | r
      · have := ha.1 z m; omega
      · exact r
    · intro m
      rcases hz.2 (.inr m) with r | r
      · have := hb.1 z m; omega
      · exact r
theorem asc_sub : ∀ {b a : List Int}, a.Pairwise (· < ·) → b.Pairwise (· < ·) → (∀ x ∈ a, x ∈ b) → a.length ≤ b.length ∧ (a.length = b.length → a = b)
  | [], a, _, _, h => by
    cases a with
    | nil => simp
    | cons x a => exact absurd (h x (by simp)) (by simp)
  | y :: b, [], _, _, _ => by simp
  | y :: b, x :: a, ha, hb, h => by
    have ha' := ha
    rw [List.pairwise_cons] at ha hb
    by_cases e : x = y
    · subst e
      have ih := asc_sub (b := b) (a := a) ha.2 hb.2 fun z hz => by
        have := h z (by simp [hz])
        simp only [List.mem_cons] at this
        rcases this with r | r
        · have := ha.1 z hz; omega
        · exact r
      simp only [List.length_cons]
      exact ⟨by omega, fun q => by rw [ih.2 (by omega)]⟩
    · have hx : x ∈ b := by
        have := h x (by simp)
        simp only [List.mem_cons] at this
        rcases this with r | r
        · exact absurd r e
        · exact r
      have hyx := hb.1 x hx
      have ih := asc_sub (b := b) (a := x :: a) ha' hb.2 fun z hz => by
        have := h z hz
        simp only [List.mem_cons] at this hz
        rcases this with r | r
        · rcases hz with s | s
          · omega
          · have := ha.1 z s; omega
        · exact r
      simp only [List.length_cons] at ih ⊢
      exact ⟨by omega, fun q => by omega⟩
theorem ascG_iff {n : Nat} : ∀ {l : List Int}, ascG n none l = 0 ↔ AscL l n := fun {l} => by
  constructor
  · intro h
    obtain ⟨h1, _, h3⟩ := asc_gt n l none h
    exact ⟨h3, fun x hx => by have := h1 x hx; omega⟩
  · rintro ⟨h1, h2⟩
    have gen : ∀ (l : List Int) (q : Option Int), l.Pairwise (· < ·) → (∀ x ∈ l, 0 ≤ x ∧ x < n) → (∀ z, q = some z → ∀ x ∈ l, z < x) → ascG n q l = 0 := by
      intro l
      induction l with
      | nil => intro q _ _ _; rfl
      | cons x l ih =>
        intro q hp hb hq
        rw [List.pairwise_cons] at hp
        have hx := hb x (by simp)
        have hle : leO x q = false := by
          cases q with
          | none => rfl
          | some z =>
            have := hq z rfl x (by simp)
            simp only [leO, decide_eq_false_iff_not]
            omega
        have := ih (some x) hp.2 (fun y hy => hb y (by simp [hy])) (fun z hz y hy => by cases hz; exact hp.1 y hy)
        simp only [ascG]
        rw [if_pos (by omega), hle]
        simpa using this
    exact gen l none h1 h2 (fun z hz => by cases hz)
theorem asc_len {l : List Int} {n : Nat} (h : AscL l n) : l.length ≤ n := by
  have := (asc_sub (b := nums 0 n) h.p (by
    unfold nums
    rw [List.pairwise_map]
    exact List.pairwise_lt_range.imp fun h => by omega) fun x hx => nums_mem.2 (h.b x hx)).1
  rwa [nums_len] at this
theorem PK.len {g : G} {p : Mo} (h : PK g p) : p.n.length ≤ 40 ∧ p.e.length ≤ 80 := by
  have := valid_spec h.v
  have := asc_len h.n
  have := asc_len h.e
  omega
end
end Go.Am
