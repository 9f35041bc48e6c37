/- The graph package and its reference: parts. -/
import Derived.Test.YtfkkngepnnkloaaSjA
namespace Go.Am
open Go
set_option linter.unusedVariables false
set_option linter.unusedSimpArgs false
/- graph.numbers -/
def c_graph_numbers_r0 (F : String → Nat) : List LI := [⟨some 4, .mov (.k (.nl 1)), none⟩]
def c_graph_numbers_r1 (F : String → Nat) : List LI := [⟨some 5, .mov (.k (.nl 1)), none⟩]
def c_graph_numbers_r2 (F : String → Nat) : List LI := [⟨some 7, .mov (.t 1), none⟩,
  ⟨some 8, .mov (.k (.int .i64 (0))), none⟩]
def c_graph_numbers_r3 (F : String → Nat) : List LI := [⟨some 9, .bin .lss (.t 8) (.t 7), none⟩]
def c_graph_numbers_r4 (F : String → Nat) : List LI := [⟨some 10, .mov (.t 8), none⟩,
  ⟨some 6, .mov (.t 10), none⟩]
def c_graph_numbers_r5 (F : String → Nat) : List LI := [⟨some 11, .mov (.t 5), none⟩,
  ⟨some 12, .mov (.t 0), none⟩,
  ⟨some 13, .mov (.t 6), none⟩,
  ⟨some 14, .bin .add (.t 12) (.t 13), none⟩,
  ⟨some 15, .buildSl 1 8 (.int .i64 (0)) 1 [(0, .t 14)], none⟩,
  ⟨some 16, .app 1 8 (.t 11) (.t 15), none⟩,
  ⟨some 5, .mov (.t 16), none⟩]
def c_graph_numbers_r6 (F : String → Nat) : List LI := [⟨some 17, .bin .add (.t 8) (.k (.int .i64 (1))), none⟩,
  ⟨some 8, .mov (.t 17), none⟩]
def c_graph_numbers_b7 (F : String → Nat) : LC := (.seq (.reg (c_graph_numbers_r3 F) [0, 5, 7, 8, 9]) (.seq (.cond (.t 9) .skip (.exit 0)) (.seq (.block 1 (.seq (.reg (c_graph_numbers_r4 F) [0, 5, 6, 7, 8]) (.reg (c_graph_numbers_r5 F) [0, 5, 7, 8]))) (.reg (c_graph_numbers_r6 F) [0, 5, 7, 8]))))
def c_graph_numbers_r8 (F : String → Nat) : List LI := [⟨some 18, .mov (.t 5), none⟩,
  ⟨some 4, .mov (.t 18), none⟩]
def c_graph_numbers (F : String → Nat) : LC := (.seq (.reg (c_graph_numbers_r0 F) [0, 1]) (.seq (.reg (c_graph_numbers_r1 F) [0, 1, 5]) (.seq (.seq (.reg (c_graph_numbers_r2 F) [0, 5, 7, 8]) (.block 0 (.loop [0, 5, 7, 8] (c_graph_numbers_b7 F)))) (.seq (.reg (c_graph_numbers_r8 F) [4]) .ret))))
def h_graph_numbers : Hints := ⟨[], fun _ => [], tab [(0, [0, 1]), (1, [0, 1, 5]), (2, [0, 5, 7, 8]), (3, [0, 5, 7, 8, 9]), (4, [0, 5, 6, 7, 8]), (5, [0, 5, 7, 8]), (6, [0, 5, 7, 8]), (7, [4])], tab [(3, [0, 5, 7, 8])]⟩

/- r05.SameInts -/
def c_r05_SameInts_r0 (F : String → Nat) : List LI := [⟨some 4, .mov (.k (.bool false)), none⟩]
def c_r05_SameInts_r1 (F : String → Nat) : List LI := [⟨some 6, .mov (.t 0), none⟩,
  ⟨some 7, .len (.t 6), none⟩,
  ⟨some 8, .mov (.t 1), none⟩,
  ⟨some 9, .len (.t 8), none⟩,
  ⟨some 10, .bin .neq (.t 7) (.t 9), none⟩]
def c_r05_SameInts_r2 (F : String → Nat) : List LI := [⟨some 4, .mov (.k (.bool false)), none⟩]
def c_r05_SameInts_r3 (F : String → Nat) : List LI := [⟨some 5, .mov (.k (.int .i64 (0))), none⟩]
def c_r05_SameInts_r4 (F : String → Nat) : List LI := [⟨some 11, .mov (.t 5), none⟩,
  ⟨some 12, .mov (.t 0), none⟩,
  ⟨some 13, .len (.t 12), none⟩,
  ⟨some 14, .bin .lss (.t 11) (.t 13), none⟩]
def c_r05_SameInts_r5 (F : String → Nat) : List LI := [⟨some 17, .mov (.t 0), none⟩,
  ⟨some 18, .mov (.t 5), none⟩,
  ⟨some 19, .iad 1 (.t 17) (.t 18), none⟩,
  ⟨some 20, .load false 1 (.t 19), none⟩,
  ⟨some 21, .mov (.t 1), none⟩,
  ⟨some 22, .mov (.t 5), none⟩,
  ⟨some 23, .iad 1 (.t 21) (.t 22), none⟩,
  ⟨some 24, .load false 1 (.t 23), none⟩,
  ⟨some 25, .bin .neq (.t 20) (.t 24), none⟩]
def c_r05_SameInts_r6 (F : String → Nat) : List LI := [⟨some 4, .mov (.k (.bool false)), none⟩]
def c_r05_SameInts_r7 (F : String → Nat) : List LI := [⟨some 15, .mov (.t 5), none⟩,
  ⟨some 16, .bin .add (.t 15) (.k (.int .i64 (1))), none⟩,
  ⟨some 5, .mov (.t 16), none⟩]
def c_r05_SameInts_b8 (F : String → Nat) : LC := (.seq (.seq (.reg (c_r05_SameInts_r4 F) [0, 1, 5, 14]) (.cond (.t 14) .skip (.exit 0))) (.seq (.block 1 (.seq (.dreg [] (c_r05_SameInts_r5 F) [0, 1, 5, 25]) (.cond (.t 25) (.seq (.reg (c_r05_SameInts_r6 F) [4]) .ret) .skip))) (.reg (c_r05_SameInts_r7 F) [0, 1, 5])))
def c_r05_SameInts_r9 (F : String → Nat) : List LI := [⟨some 4, .mov (.k (.bool true)), none⟩]
def c_r05_SameInts (F : String → Nat) : LC := (.seq (.reg (c_r05_SameInts_r0 F) [0, 1]) (.seq (.seq (.reg (c_r05_SameInts_r1 F) [0, 1, 10]) (.cond (.t 10) (.seq (.reg (c_r05_SameInts_r2 F) [4]) .ret) .skip)) (.seq (.seq (.reg (c_r05_SameInts_r3 F) [0, 1, 5]) (.block 0 (.loop [0, 1, 5] (c_r05_SameInts_b8 F)))) (.seq (.reg (c_r05_SameInts_r9 F) [4]) .ret))))
def h_r05_SameInts : Hints := ⟨[], fun _ => [], tab [(0, [0, 1]), (1, [0, 1, 10]), (2, [4]), (3, [0, 1, 5]), (4, [0, 1, 5, 14]), (5, [0, 1, 5]), (6, [0, 1, 5, 25]), (7, [4]), (8, [4])], tab [(4, [0, 1, 5])]⟩

/- r05.Numbers -/
def c_r05_Numbers_r0 (F : String → Nat) : List LI := [⟨some 4, .mov (.k (.nl 1)), none⟩]
def c_r05_Numbers_r1 (F : String → Nat) : List LI := [⟨some 5, .mov (.k (.nl 1)), none⟩]
def c_r05_Numbers_r2 (F : String → Nat) : List LI := [⟨some 6, .mov (.k (.int .i64 (0))), none⟩]
def c_r05_Numbers_r3 (F : String → Nat) : List LI := [⟨some 7, .mov (.t 6), none⟩,
  ⟨some 8, .mov (.t 1), none⟩,
  ⟨some 9, .bin .lss (.t 7) (.t 8), none⟩]
def c_r05_Numbers_r4 (F : String → Nat) : List LI := [⟨some 12, .mov (.t 5), none⟩,
  ⟨some 13, .mov (.t 0), none⟩,
  ⟨some 14, .mov (.t 6), none⟩,
  ⟨some 15, .bin .add (.t 13) (.t 14), none⟩,
  ⟨some 16, .buildSl 1 8 (.int .i64 (0)) 1 [(0, .t 15)], none⟩,
  ⟨some 17, .app 1 8 (.t 12) (.t 16), none⟩,
  ⟨some 5, .mov (.t 17), none⟩]
def c_r05_Numbers_r5 (F : String → Nat) : List LI := [⟨some 10, .mov (.t 6), none⟩,
  ⟨some 11, .bin .add (.t 10) (.k (.int .i64 (1))), none⟩,
  ⟨some 6, .mov (.t 11), none⟩]
def c_r05_Numbers_b6 (F : String → Nat) : LC := (.seq (.seq (.reg (c_r05_Numbers_r3 F) [0, 1, 5, 6, 9]) (.cond (.t 9) .skip (.exit 0))) (.seq (.block 1 (.reg (c_r05_Numbers_r4 F) [0, 1, 5, 6])) (.reg (c_r05_Numbers_r5 F) [0, 1, 5, 6])))
def c_r05_Numbers_r7 (F : String → Nat) : List LI := [⟨some 18, .mov (.t 5), none⟩,
  ⟨some 4, .mov (.t 18), none⟩]
def c_r05_Numbers (F : String → Nat) : LC := (.seq (.reg (c_r05_Numbers_r0 F) [0, 1]) (.seq (.reg (c_r05_Numbers_r1 F) [0, 1, 5]) (.seq (.seq (.reg (c_r05_Numbers_r2 F) [0, 1, 5, 6]) (.block 0 (.loop [0, 1, 5, 6] (c_r05_Numbers_b6 F)))) (.seq (.reg (c_r05_Numbers_r7 F) [4]) .ret))))
def h_r05_Numbers : Hints := ⟨[], fun _ => [], tab [(0, [0, 1]), (1, [0, 1, 5]), (2, [0, 1, 5, 6]), (3, [0, 1, 5, 6, 9]), (4, [0, 1, 5, 6]), (5, [0, 1, 5, 6]), (6, [4])], tab [(3, [0, 1, 5, 6])]⟩

attribute [go_sem] c_graph_numbers_r0 c_graph_numbers_r1 c_graph_numbers_r2 c_graph_numbers_r3 c_graph_numbers_r4 c_graph_numbers_r5 c_graph_numbers_r6 c_graph_numbers_r8 c_graph_numbers c_r05_SameInts_r0 c_r05_SameInts_r1 c_r05_SameInts_r2 c_r05_SameInts_r3 c_r05_SameInts_r4 c_r05_SameInts_r5 c_r05_SameInts_r6 c_r05_SameInts_r7 c_r05_SameInts_r9 c_r05_SameInts c_r05_Numbers_r0 c_r05_Numbers_r1 c_r05_Numbers_r2 c_r05_Numbers_r3 c_r05_Numbers_r4 c_r05_Numbers_r5 c_r05_Numbers_r7 c_r05_Numbers
def leO (x : Int) : Option Int → Bool
  | some q => decide (x ≤ q)
  | none => false
/-- What is wrong with ascending elements below a number. -/
def ascG (n : Int) : Option Int → List Int → Int
  | _, [] => 0
  | p, x :: l => if 0 ≤ x ∧ x ≤ n - 1 then (if leO x p = true then 12 else ascG n (some x) l) else 6
/-- Where elements are without some of them. -/
def leftL (gs : List Int) : Nat → List Int × Int
  | 0 => ([], 0)
  | i + 1 => if (i : Int) ∈ gs then ((leftL gs i).1 ++ [-1], (leftL gs i).2) else ((leftL gs i).1 ++ [(leftL gs i).2], (leftL gs i).2 + 1)
def nums (f : Int) (n : Nat) : List Int := (List.range n).map fun i : Nat => f + (i : Int)
structure Mo where
  n : List Int
  e : List Int
  deriving DecidableEq, Inhabited
def mD (m : Mo) : D := .agg [.lst 1 (ints m.n), .lst 1 (ints m.e)]
def mA (m : Mo) : D := .agg [.arr 1 (ints m.n), .arr 1 (ints m.e)]
section
variable (P : Program) (F : String → Nat)
def K_graph_ascending : Prop := ∀ (l : List Int) (n : Int), l.length ≤ maxL → 0 ≤ n → n ≤ 1000000 → FC P (F "graph.ascending") [.lst 1 (ints l), .int .i64 n] (.int .i64 (ascG n none l)) []
def K_graph_left : Prop := ∀ (gs : List Int) (n : Nat), gs.length ≤ maxL → n ≤ 1000000 → FC P (F "graph.left") [.int .i64 n, .lst 1 (ints gs)] (.arr 1 (ints (leftL gs n).1)) []
def K_graph_numbers : Prop := ∀ (f : Int) (n : Nat), 0 ≤ f → f ≤ 1000000 → n ≤ 1000000 → FC P (F "graph.numbers") [.int .i64 f, .int .i64 n] (.arr 1 (ints (nums f n))) []
def K_r05_Numbers : Prop := ∀ (f : Int) (n : Nat), 0 ≤ f → f ≤ 1000000 → n ≤ 1000000 → FC P (F "r05.Numbers") [.int .i64 f, .int .i64 n] (.arr 1 (ints (nums f n))) []
def K_r05_SameInts : Prop := ∀ a b : List Int, a.length ≤ maxL → FC P (F "r05.SameInts") [.lst 1 (ints a), .lst 1 (ints b)] (.bool (decide (a = b))) []
def K_slices_Equal_I : Prop := ∀ a b : List Int, a.length ≤ maxL → FC P (F "slices.Equal.I") [.lst 1 (ints a), .lst 1 (ints b)] (.bool (decide (a = b))) []
def K_r05_Same : Prop := ∀ a b : G, a.n.length ≤ maxL → a.e.length ≤ maxL → FC P (F "r05.Same") [gD a, gD b] (.bool (decide (a = b))) []
end
section
variable {P : Program} {F : String → Nat} {α : Type}
theorem drop_gt [Inhabited α] {l : List α} {i : Nat} (h : i < l.length) : l.drop i = gt l i :: l.drop (i + 1) := by
  rw [List.drop_eq_getElem_cons h, gt_nat h]
theorem take_gt [Inhabited α] {l : List α} {i : Nat} (h : i < l.length) : l.take (i + 1) = l.take i ++ [gt l i] := by
  rw [List.take_succ_eq_append_getElem h, gt_nat h]
theorem nums_succ (f : Int) (n : Nat) : nums f (n + 1) = nums f n ++ [f + n] := by simp [nums, List.range_succ]
theorem nums_len (f : Int) (n : Nat) : (nums f n).length = n := by simp [nums]
theorem nums_zero (f : Int) : nums f 0 = [] := by simp [nums]
/-- The element ahead of an index, if there is one. -/
def prevO (l : List Int) (i : Nat) : Option Int := if i = 0 then none else some (gt l ((i : Int) - 1))
theorem prevO_succ (l : List Int) (i : Nat) : prevO l (i + 1) = some (gt l i) := by
  simp only [prevO]; rw [if_neg (by omega)]; congr 2; omega
theorem asc_step (n : Int) (l : List Int) (i : Nat) (h : i < l.length) : ascG n (prevO l i) (l.drop i) =
    if 0 ≤ gt l i ∧ gt l i ≤ n - 1 then (if 0 < i ∧ gt l i ≤ gt l ((i : Int) - 1) then 12 else ascG n (prevO l (i + 1)) (l.drop (i + 1))) else 6 := by
  rw [drop_gt h, prevO_succ]
  simp only [ascG, prevO]
  by_cases h0 : i = 0
  · simp [h0, leO]
  · simp [h0, leO, Nat.pos_of_ne_zero h0]
theorem w_graph_ascending (h : K_graph_within P F) (l : List Int) (n : Int) (hl : l.length ≤ maxL) (h0 : 0 ≤ n) (h1 : n ≤ 1000000) : W P (c_graph_ascending F) (Done [.t 4] [] (.int .i64 (ascG n none l)) []) (init [.lst 1 (ints l), .int .i64 n]) := by
  refine W_of ?_
  unfold maxL at hl
  simp (config := { maxSteps := 1000000 }) (disch := first | omega | (simp only [go_sem]; omega)) only [go_sem, ↓reduceIte]
  refine W_loop (fun i : Nat => ⟨[(0, .lst 1 (ints l)), (1, .int .i64 n), (7, .lst 1 (ints l)), (8, .int .i64 l.length), (9, .int .i64 i)], [], 0⟩) (fun i => i ≤ l.length ∧ ascG n none l = ascG n (prevO l i) (l.drop i)) (fun i => l.length - i) 0 ?_ ?_ ?_
  · simp (config := { maxSteps := 1000000 }) (disch := first | omega | (simp only [go_sem]; omega)) only [go_sem, ↓reduceIte]
    rfl
  · simp [prevO]
  · intro i hi
    simp (config := { maxSteps := 1000000 }) (disch := first | omega | (simp only [go_sem]; omega)) only [go_sem, ↓reduceIte, c_graph_ascending_b9]
    refine bran_dec (fun a => ?_) (fun a => ?_)
    · have hs := asc_step n l i (by omega)
      simp (config := { maxSteps := 1000000 }) (disch := first | omega | (simp only [go_sem]; omega)) only [go_sem, ↓reduceIte]
      refine call_by (h _ _) ?_
      simp (config := { maxSteps := 1000000 }) (disch := first | omega | (simp only [go_sem]; omega)) only [go_sem, ↓reduceIte]
      refine bran_ndec (fun b => ?_) (fun b => ?_)
      · simp (config := { maxSteps := 1000000 }) (disch := first | omega | (simp only [go_sem]; omega)) only [go_sem, ↓reduceIte]
        rw [hi.2, hs, if_neg b]
      · simp (config := { maxSteps := 1000000 }) (disch := first | omega | (simp only [go_sem]; omega)) only [go_sem, ↓reduceIte]
        rw [if_pos b] at hs
        refine bran_dec (fun c => ?_) (fun c => ?_)
        · simp (config := { maxSteps := 1000000 }) (disch := first | omega | (simp only [go_sem]; omega)) only [go_sem, ↓reduceIte, c]
          refine bran_dec (fun d => ?_) (fun d => ?_)
          · simp (config := { maxSteps := 1000000 }) (disch := first | omega | (simp only [go_sem]; omega)) only [go_sem, ↓reduceIte]
            rw [hi.2, hs, if_pos ⟨by omega, d⟩]
          · simp (config := { maxSteps := 1000000 }) (disch := first | omega | (simp only [go_sem]; omega)) only [go_sem, ↓reduceIte]
            exact ⟨i + 1, by simp, ⟨by omega, by rw [hi.2, hs, if_neg (fun e => d e.2)]⟩, by omega⟩
        · simp (config := { maxSteps := 1000000 }) (disch := first | omega | (simp only [go_sem]; omega)) only [go_sem, ↓reduceIte, c]
          exact ⟨i + 1, by simp, ⟨by omega, by rw [hi.2, hs, if_neg (fun e => by omega)]⟩, by omega⟩
    · simp (config := { maxSteps := 1000000 }) (disch := first | omega | (simp only [go_sem]; omega)) only [go_sem, ↓reduceIte]
      rw [hi.2, List.drop_of_length_le (by omega)]
      rfl
theorem w_graph_numbers (f : Int) (n : Nat) (h0 : 0 ≤ f) (h1 : f ≤ 1000000) (h2 : n ≤ 1000000) : W P (c_graph_numbers F) (Done [.t 4] [] (.arr 1 (ints (nums f n))) []) (init [.int .i64 f, .int .i64 n]) := by
  refine W_of ?_
  simp (config := { maxSteps := 1000000 }) (disch := first | omega | (simp only [go_sem]; omega)) only [go_sem, ↓reduceIte]
  refine W_loop (fun i : Nat => ⟨[(0, .int .i64 f), (5, .sl 0 0 i), (7, .int .i64 n), (8, .int .i64 i)], [(0, .arr 1 (ints (nums f i)))], 1⟩) (fun i => i ≤ n) (fun i => n - i) 0 ?_ ?_ ?_
  · simp (config := { maxSteps := 1000000 }) (disch := first | omega | (simp only [go_sem]; omega)) only [go_sem, ↓reduceIte, nums_zero, ints_nil]
    rfl
  · omega
  · intro i hi
    have e1 := nums_len f i
    simp (config := { maxSteps := 1000000 }) (disch := first | omega | (simp only [go_sem]; omega)) only [go_sem, ↓reduceIte, c_graph_numbers_b7]
    refine bran_dec (fun a => ?_) (fun a => ?_)
    · simp (config := { maxSteps := 1000000 }) (disch := first | omega | (simp only [go_sem]; omega)) only [go_sem, ↓reduceIte, e1]
      exact ⟨i + 1, by simp [nums_succ], by omega, by omega⟩
    · obtain rfl : i = n := by omega
      simp (config := { maxSteps := 1000000 }) (disch := first | omega | (simp only [go_sem]; omega)) only [go_sem, ↓reduceIte, e1]
theorem w_r05_Numbers (f : Int) (n : Nat) (h0 : 0 ≤ f) (h1 : f ≤ 1000000) (h2 : n ≤ 1000000) : W P (c_r05_Numbers F) (Done [.t 4] [] (.arr 1 (ints (nums f n))) []) (init [.int .i64 f, .int .i64 n]) := by
  refine W_of ?_
  simp (config := { maxSteps := 1000000 }) (disch := first | omega | (simp only [go_sem]; omega)) only [go_sem, ↓reduceIte]
  refine W_loop (fun i : Nat => ⟨[(0, .int .i64 f), (1, .int .i64 n), (5, .sl 0 0 i), (6, .int .i64 i)], [(0, .arr 1 (ints (nums f i)))], 1⟩) (fun i => i ≤ n) (fun i => n - i) 0 ?_ ?_ ?_
  · simp (config := { maxSteps := 1000000 }) (disch := first | omega | (simp only [go_sem]; omega)) only [go_sem, ↓reduceIte, nums_zero, ints_nil]
    rfl
  · omega
  · intro i hi
    have e1 := nums_len f i
    simp (config := { maxSteps := 1000000 }) (disch := first | omega | (simp only [go_sem]; omega)) only [go_sem, ↓reduceIte, c_r05_Numbers_b6]
    refine bran_dec (fun a => ?_) (fun a => ?_)
    · simp (config := { maxSteps := 1000000 }) (disch := first | omega | (simp only [go_sem]; omega)) only [go_sem, ↓reduceIte, e1]
      exact ⟨i + 1, by simp [nums_succ], by omega, by omega⟩
    · obtain rfl : i = n := by omega
      simp (config := { maxSteps := 1000000 }) (disch := first | omega | (simp only [go_sem]; omega)) only [go_sem, ↓reduceIte, e1]
theorem w_r05_SameInts (a b : List Int) (hl : a.length ≤ maxL) : W P (c_r05_SameInts F) (Done [.t 4] [] (.bool (decide (a = b))) []) (init [.lst 1 (ints a), .lst 1 (ints b)]) := by
  refine W_of ?_
  unfold maxL at hl
  simp (config := { maxSteps := 1000000 }) (disch := first | omega | (simp only [go_sem]; omega)) only [go_sem, ↓reduceIte]
  refine bran_ndec (fun h => ?_) (fun h => ?_)
  · simp (config := { maxSteps := 1000000 }) (disch := first | omega | (simp only [go_sem]; omega)) only [go_sem, ↓reduceIte]
    have : a ≠ b := fun e => h (by rw [e])
    simp [this]
  · have h' : a.length = b.length := by omega
    simp (config := { maxSteps := 1000000 }) (disch := first | omega | (simp only [go_sem]; omega)) only [go_sem, ↓reduceIte]
    refine W_loop (fun i : Nat => ⟨[(0, .lst 1 (ints a)), (1, .lst 1 (ints b)), (5, .int .i64 i)], [], 0⟩) (fun i => i ≤ a.length ∧ a.take i = b.take i) (fun i => a.length - i) 0 ?_ ?_ ?_
    · simp (config := { maxSteps := 1000000 }) (disch := first | omega | (simp only [go_sem]; omega)) only [go_sem, ↓reduceIte]
      rfl
    · simp
    · intro i hi
      simp (config := { maxSteps := 1000000 }) (disch := first | omega | (simp only [go_sem]; omega)) only [go_sem, ↓reduceIte, c_r05_SameInts_b8]
      refine bran_dec (fun c => ?_) (fun c => ?_)
      · simp (config := { maxSteps := 1000000 }) (disch := first | omega | (simp only [go_sem]; omega)) only [go_sem, ↓reduceIte]
        refine bran_ndec (fun d => ?_) (fun d => ?_)
        · simp (config := { maxSteps := 1000000 }) (disch := first | omega | (simp only [go_sem]; omega)) only [go_sem, ↓reduceIte]
          have : a ≠ b := fun e => d (by rw [e])
          simp [this]
        · simp (config := { maxSteps := 1000000 }) (disch := first | omega | (simp only [go_sem]; omega)) only [go_sem, ↓reduceIte]
          exact ⟨i + 1, by simp, ⟨by omega, by rw [take_gt (by omega), take_gt (by omega), hi.2, d]⟩, by omega⟩
      · simp (config := { maxSteps := 1000000 }) (disch := first | omega | (simp only [go_sem]; omega)) only [go_sem, ↓reduceIte]
        obtain rfl : i = a.length := by omega
        have := hi.2
        rw [List.take_length, List.take_of_length_le (by omega)] at this
        simp [this]
end
end Go.Am
