/- The graph package and its reference: parts. -/
import Derived.Test.YtgmojdpklekldaaSjA
namespace Go.Am
open Go
set_option linter.unusedVariables false
set_option linter.unusedSimpArgs false
def nums (f : Int) (n : Nat) : List Int := (List.range n).map fun i : Nat => f + (i : Int)
structure Mo where
  n : List Int
  e : List Int
  deriving DecidableEq, Inhabited
def mD (m : Mo) : D := .agg [.lst 1 (ints m.n), .lst 1 (ints m.e)]
def mA (m : Mo) : D := .agg [.arr 1 (ints m.n), .arr 1 (ints m.e)]
section
variable (P : Program) (F : String → Nat)
def K_slices_Equal_I : Prop := ∀ a b : List Int, a.length ≤ maxL → FC P (F "slices.Equal.I") [.lst 1 (ints a), .lst 1 (ints b)] (.bool (decide (a = b))) []
end
section
variable {P : Program} {F : String → Nat} {α : Type}
theorem drop_gt [Inhabited α] {l : List α} {i : Nat} (h : i < l.length) : l.drop i = gt l i :: l.drop (i + 1) := by
  rw [List.drop_eq_getElem_cons h, gt_nat h]
theorem take_gt [Inhabited α] {l : List α} {i : Nat} (h : i < l.length) : l.take (i + 1) = l.take i ++ [gt l i] := by
  rw [List.take_succ_eq_append_getElem h, gt_nat h]
theorem nums_succ (f : Int) (n : Nat) : nums f (n + 1) = nums f n ++ [f + n] := by simp [nums, List.range_succ]
theorem nums_len (f : Int) (n : Nat) : (nums f n).length = n := by simp [nums]
theorem nums_zero (f : Int) : nums f 0 = [] := by simp [nums]
end
end Go.Am
