/- Pairs of numbers; injective morphisms. -/
import Derived.Test.YtoeomfoohdheoaaSkB
namespace Go.Am
open Go
set_option linter.unusedVariables false
set_option linter.unusedSimpArgs false
/-- A pair. -/
structure Pr where
  a : Int
  b : Int
  deriving DecidableEq, Inhabited
def prD (x : Pr) : D := .agg [.int .i64 x.a, .int .i64 x.b]
def prs (l : List Pr) : List D := l.map prD
theorem prs_length (l : List Pr) : (prs l).length = l.length := by simp [prs]
theorem prs_snoc (l : List Pr) (a b : Int) : prs l ++ [.agg [.int .i64 a, .int .i64 b]] = prs (l ++ [⟨a, b⟩]) := by simp [prs, prD]
theorem prs_app (l m : List Pr) : prs l ++ prs m = prs (l ++ m) := by simp [prs]
theorem flat_prs (l : List Pr) : (prs l).all D.flatE = true := by simp [prs, prD, D.flatE, D.flat0]
theorem prs_at {l : List Pr} {j : Int} (h0 : 0 ≤ j) (h : j < l.length) : (prs l)[j.toNat]? = some (.agg [.int .i64 (gt l j).a, .int .i64 (gt l j).b]) := by
  unfold prs
  rw [List.getElem?_map, get_gt h0 h]; rfl
theorem prs_atn {l : List Pr} {i : Nat} (h : i < l.length) : (prs l)[i]? = some (.agg [.int .i64 (gt l i).a, .int .i64 (gt l i).b]) := by
  have := prs_at (l := l) (j := i) (by omega) (by omega)
  simpa using this
theorem prs_set {l : List Pr} {i : Nat} {a b : Int} : (prs l).set i (.agg [.int .i64 a, .int .i64 b]) = prs (l.set i ⟨a, b⟩) := by simp [prs, List.map_set, prD]
theorem prs_take {l : List Pr} {n : Nat} : (prs l).take n = prs (l.take n) := by simp [prs, List.map_take]
theorem prs_drop {l : List Pr} {n : Nat} : (prs l).drop n = prs (l.drop n) := by simp [prs, List.map_drop]
theorem prs_nil : prs [] = [] := rfl
attribute [go_sem] prs_length prs_snoc prs_app flat_prs prs_at prs_set prs_take prs_drop
attribute [go_sem low] prs_atn
def g0 : G := ⟨[], []⟩
def m0 : Mo := ⟨[], []⟩
/-- The numbers below `n` that have a property. -/
def sel (p : Nat → Bool) (n : Nat) : List Int := ((List.range n).filter p).map fun i : Nat => (i : Int)
theorem sel_zero (p : Nat → Bool) : sel p 0 = [] := rfl
theorem sel_succ (p : Nat → Bool) (n : Nat) : sel p (n + 1) = if p n = true then sel p n ++ [(n : Int)] else sel p n := by
  simp only [sel, List.range_succ, List.filter_append, List.filter_cons, List.filter_nil, List.map_append]
  split <;> simp
theorem sel_len (p : Nat → Bool) (n : Nat) : (sel p n).length ≤ n := by
  simp only [sel, List.length_map]
  exact Nat.le_trans (List.length_filter_le _ _) (by simp)
def distinct (l : List Int) : Bool := decide l.Nodup
def injM (a b : G) (m : Mo) : Bool := decide (validM a b m = 0) && (distinct m.n && distinct m.e)
section
variable (P : Program) (F : String → Nat)
end
section
variable {P : Program} {F : String → Nat} {α : Type}
theorem validM_spec {a b : G} {m : Mo} (h : validM a b m = 0) : validG a = 0 ∧ validG b = 0 ∧ m.n.length = a.n.length ∧ m.e.length = a.e.length ∧ nodeE b.n m.n a.n = 0 ∧ edgeE b.e m.n m.e a.e = 0 := by
  unfold validM at h
  split at h
  · rename_i h1; exact absurd h h1
  · rename_i h1
    split at h
    · rename_i h2; exact absurd h h2
    · rename_i h2
      split at h
      · cases h
      · rename_i h3
        split at h
        · rename_i h4; exact absurd h h4
        · rename_i h4
          exact ⟨by simpa using h1, by simpa using h2, by omega, by omega, by simpa using h4, h⟩
theorem validM_len {a b : G} {m : Mo} (h : validM a b m = 0) : m.n.length ≤ 40 ∧ m.e.length ≤ 80 ∧ a.n.length ≤ 40 ∧ a.e.length ≤ 80 ∧ b.n.length ≤ 40 ∧ b.e.length ≤ 80 := by
  obtain ⟨h1, h2, h3, h4, _⟩ := validM_spec h
  obtain ⟨a1, a2, _⟩ := valid_spec h1
  obtain ⟨b1, b2, _⟩ := valid_spec h2
  omega
end
end Go.Am
