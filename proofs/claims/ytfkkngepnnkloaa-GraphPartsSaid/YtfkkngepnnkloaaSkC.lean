/- Pairs of numbers; injective morphisms. -/
import Derived.Test.YtfkkngepnnkloaaSkB
namespace Go.Am
open Go
set_option linter.unusedVariables false
set_option linter.unusedSimpArgs false
/-- A pair. -/
structure Pr where
  a : Int
  b : Int
  deriving DecidableEq, Inhabited
def prD (x : Pr) : D := .agg [.int .i64 x.a, .int .i64 x.b]
def prs (l : List Pr) : List D := l.map prD
theorem prs_length (l : List Pr) : (prs l).length = l.length := by simp [prs]
theorem prs_snoc (l : List Pr) (a b : Int) : prs l ++ [.agg [.int .i64 a, .int .i64 b]] = prs (l ++ [⟨a, b⟩]) := by simp [prs, prD]
theorem prs_app (l m : List Pr) : prs l ++ prs m = prs (l ++ m) := by simp [prs]
theorem flat_prs (l : List Pr) : (prs l).all D.flatE = true := by simp [prs, prD, D.flatE, D.flat0]
theorem prs_at {l : List Pr} {j : Int} (h0 : 0 ≤ j) (h : j < l.length) : (prs l)[j.toNat]? = some (.agg [.int .i64 (gt l j).a, .int .i64 (gt l j).b]) := by
  unfold prs
  rw [List.getElem?_map, get_gt h0 h]; rfl
theorem prs_atn {l : List Pr} {i : Nat} (h : i < l.length) : (prs l)[i]? = some (.agg [.int .i64 (gt l i).a, .int .i64 (gt l i).b]) := by
  have := prs_at (l := l) (j := i) (by omega) (by omega)
  simpa using this
theorem prs_set {l : List Pr} {i : Nat} {a b : Int} : (prs l).set i (.agg [.int .i64 a, .int .i64 b]) = prs (l.set i ⟨a, b⟩) := by simp [prs, List.map_set, prD]
theorem prs_take {l : List Pr} {n : Nat} : (prs l).take n = prs (l.take n) := by simp [prs, List.map_take]
theorem prs_drop {l : List Pr} {n : Nat} : (prs l).drop n = prs (l.drop n) := by simp [prs, List.map_drop]
attribute [go_sem] prs_length prs_snoc prs_app flat_prs prs_at prs_set prs_take prs_drop
attribute [go_sem low] prs_atn
def g0 : G := ⟨[], []⟩
/-- The numbers below `n` that have a property. -/
def sel (p : Nat → Bool) (n : Nat) : List Int := ((List.range n).filter p).map fun i : Nat => (i : Int)
theorem sel_succ (p : Nat → Bool) (n : Nat) : sel p (n + 1) = if p n = true then sel p n ++ [(n : Int)] else sel p n := by
  simp only [sel, List.range_succ, List.filter_append, List.filter_cons, List.filter_nil, List.map_append]
  split <;> simp
section
variable (P : Program) (F : String → Nat)
end
section
variable {P : Program} {F : String → Nat} {α : Type}
end
end Go.Am
