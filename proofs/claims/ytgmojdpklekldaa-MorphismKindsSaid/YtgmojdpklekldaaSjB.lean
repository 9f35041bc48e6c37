/- The graph package and its reference: parts. -/
import Derived.Test.YtgmojdpklekldaaSjA
namespace Go.Am
open Go
set_option linter.unusedVariables false
set_option linter.unusedSimpArgs false
/- r05.Copied -/
def c_r05_Copied_r0 (F : String → Nat) : List LI := [⟨some 1, .bx (.t 0), none⟩,
  ⟨some 2, .alloc [.nl 1, .nl 3], none⟩]
def c_r05_Copied_r1 (F : String → Nat) : List LI := [⟨some 3, .buildSl 1 8 (.int .i64 (0)) 0 [], none⟩,
  ⟨some 4, .fad 0 (.t 1), none⟩,
  ⟨some 5, .load false 1 (.t 4), none⟩,
  ⟨some 6, .app 1 8 (.t 3) (.t 5), none⟩,
  ⟨some 7, .buildSl 3 24 (.agg [.int .i64 (0), .int .i64 (0), .int .i64 (0)]) 0 [], none⟩,
  ⟨some 8, .fad 1 (.t 1), none⟩,
  ⟨some 9, .load false 1 (.t 8), none⟩,
  ⟨some 10, .app 3 24 (.t 7) (.t 9), none⟩,
  ⟨some 11, .build [.nl 1, .nl 3] [(0, 1, .t 6), (1, 1, .t 10)], none⟩,
  ⟨none, .store 2 (.t 2) (.t 11), none⟩]
def c_r05_Copied (F : String → Nat) : LC := (.seq (.reg (c_r05_Copied_r0 F) [1, 2]) (.seq (.dreg [(2, (some 2), [], false), (3, none, [], true), (6, (some 32), [3], false)] (c_r05_Copied_r1 F) [2]) .ret))
def h_r05_Copied : Hints := ⟨[], fun _ => [], tab [(0, [1, 2]), (1, [2])], tab []⟩

attribute [go_sem] c_r05_Copied_r0 c_r05_Copied_r1 c_r05_Copied
def nums (f : Int) (n : Nat) : List Int := (List.range n).map fun i : Nat => f + (i : Int)
structure Mo where
  n : List Int
  e : List Int
  deriving DecidableEq, Inhabited
def mD (m : Mo) : D := .agg [.lst 1 (ints m.n), .lst 1 (ints m.e)]
def mA (m : Mo) : D := .agg [.arr 1 (ints m.n), .arr 1 (ints m.e)]
section
variable (P : Program) (F : String → Nat)
def K_r05_Copied : Prop := ∀ g : G, g.n.length ≤ 1000000 → g.e.length ≤ 1000000 → FC P (F "r05.Copied") [gD g] (gA g) []
def K_slices_Equal_I : Prop := ∀ a b : List Int, a.length ≤ maxL → FC P (F "slices.Equal.I") [.lst 1 (ints a), .lst 1 (ints b)] (.bool (decide (a = b))) []
end
section
variable {P : Program} {F : String → Nat} {α : Type}
theorem drop_gt [Inhabited α] {l : List α} {i : Nat} (h : i < l.length) : l.drop i = gt l i :: l.drop (i + 1) := by
  rw [List.drop_eq_getElem_cons h, gt_nat h]
theorem take_gt [Inhabited α] {l : List α} {i : Nat} (h : i < l.length) : l.take (i + 1) = l.take i ++ [gt l i] := by
  rw [List.take_succ_eq_append_getElem h, gt_nat h]
theorem nums_succ (f : Int) (n : Nat) : nums f (n + 1) = nums f n ++ [f + n] := by simp [nums, List.range_succ]
theorem nums_len (f : Int) (n : Nat) : (nums f n).length = n := by simp [nums]
theorem nums_zero (f : Int) : nums f 0 = [] := by simp [nums]
theorem w_r05_Copied (g : G) (h0 : g.n.length ≤ 1000000) (h1 : g.e.length ≤ 1000000) : W P (c_r05_Copied F) (Done [.c 2 true 2] [] (gA g) []) (init [gD g]) := by
  refine W_of ?_
  obtain ⟨ns, es⟩ := g
  simp only at h0 h1
  simp (config := { maxSteps := 1000000 }) (disch := first | omega | (simp only [go_sem]; omega)) only [go_sem, ↓reduceIte, gD, gA]
end
end Go.Am
