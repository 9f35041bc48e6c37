/- The graph package: searches. -/
import Derived.Test.YtmkhlefohbfekaaAmPh
import Derived.Sort.Grow
import Derived.Test.YtmkhlefohbfekaaAmZc
namespace Go.Am
open Go
set_option linter.unusedVariables false
set_option linter.unusedSimpArgs false
@[go_sem] def c_graph_within_r0 : LL := [qb 4 false]
@[go_sem] def c_graph_within_r1 : LL := [qm 5 0,qk .geq 6 5 0,qm 7 6,qg 7 true (qm 8 0),qg 7 true (qm 9 1),qg 7 true (qo .leq 10 8 9),qP 11 7 10,qm 4 11]
@[go_sem] def c_graph_within (F : Fn) : LC := (.seq (.reg c_graph_within_r0 [0,1]) (.seq (.reg c_graph_within_r1 [4]) .ret))
def h_graph_within : Hints := hOf [] (c_graph_within fun _ => 0)
@[go_sem] def c_graph_fits_r0 : LL := [qB 2 0,qb 4 false]
@[go_sem] def c_graph_fits_r1 (F : Fn) : LL := [qf 5 0 2,ql 6 1 5,qc 7 (F "graph.within") [.t 6,.k (.int .i64 (99))],qm 8 7,qg 8 true (qf 9 1 2),qg 8 true (ql 10 1 9),qg 8 true (qm 11 1),qg 8 true (qk .sub 12 11 1),
 qg 8 true (qc 13 (F "graph.within") [.t 10,.t 12]),qP 14 8 13,qm 15 14,qg 15 true (qf 16 2 2),qg 15 true (ql 17 1 16),qg 15 true (qm 18 1),qg 15 true (qk .sub 19 18 1),
 qg 15 true (qc 20 (F "graph.within") [.t 17,.t 19]),qP 21 15 20,qm 4 21]
@[go_sem] def c_graph_fits (F : Fn) : LC := (.seq (.reg c_graph_fits_r0 [1,2]) (.seq (.reg (c_graph_fits_r1 F) [4]) .ret))
def h_graph_fits : Hints := hOf [] (c_graph_fits fun _ => 0)
@[go_sem] def c_graph_Valid_r0 : LL := [qB 1 0,qi 2 0]
@[go_sem] def c_graph_Valid_r1 : LL := [qf 3 0 1,ql 4 1 3,qz 5 4,qk .gtr 6 5 40,qm 7 6,qg 7 false (qf 8 1 1),qg 7 false (ql 9 1 8),qg 7 false (qz 10 9),qg 7 false (qk .gtr 11 10 80),qQ 12 7 11]
@[go_sem] def c_graph_Valid_r2 : LL := [qi 2 3]
@[go_sem] def c_graph_Valid_r3 (F : Fn) : LL := [qf 13 0 1,ql 14 1 13,⟨some 15,.call (F "slices.ContainsFunc.I") [.t 14,.k (.clo (F "graph.Valid.1") [])] [],none⟩]
@[go_sem] def c_graph_Valid_r4 : LL := [qi 2 6]
@[go_sem] def c_graph_Valid_r5 (F : Fn) : LL := [qf 16 1 1,ql 17 1 16,⟨some 18,.mkf (F "graph.Valid.2") [.t 1],none⟩,qc 19 (F "slices.ContainsFunc.E") [.t 17,.t 18]]
@[go_sem] def c_graph_Valid_r6 : LL := [qi 2 6]
@[go_sem] def c_graph_Valid_r7 : LL := [qi 2 0]
@[go_sem] def c_graph_Valid (F : Fn) : LC := (.seq (.reg c_graph_Valid_r0 [1]) (.seq (.seq (.reg c_graph_Valid_r1 [1,12]) (.cond (.t 12) (.seq (.reg c_graph_Valid_r2 [2]) .ret) .skip)) (.seq (.seq (.reg (c_graph_Valid_r3 F) [1,15]) (.cond (.t 15) (.seq (.reg c_graph_Valid_r4 [2]) .ret) .skip)) (.seq (.seq (.reg (c_graph_Valid_r5 F) [19]) (.cond (.t 19) (.seq (.reg c_graph_Valid_r6 [2]) .ret) .skip)) (.seq (.reg c_graph_Valid_r7 [2]) .ret)))))
def h_graph_Valid : Hints := hOf [] (c_graph_Valid fun _ => 0)
@[go_sem] def c_graph_Valid_1_r0 : LL := [qb 2 false]
@[go_sem] def c_graph_Valid_1_r1 (F : Fn) : LL := [qm 3 0,qc 4 (F "graph.within") [.t 3,.k (.int .i64 (99))],qv 5 4,qm 2 5]
@[go_sem] def c_graph_Valid_1 (F : Fn) : LC := (.seq (.reg c_graph_Valid_1_r0 [0]) (.seq (.reg (c_graph_Valid_1_r1 F) [2]) .ret))
def h_graph_Valid_1 : Hints := hOf [] (c_graph_Valid_1 fun _ => 0)
@[go_sem] def c_graph_Valid_2_r0 : LL := [qB 2 0,qb 3 false]
@[go_sem] def c_graph_Valid_2_r1 (F : Fn) : LL := [qL 4 3 2,qf 5 0 1,ql 6 1 5,qz 7 6,qc 8 (F "graph.fits") [.t 4,.t 7],qv 9 8,qm 3 9]
@[go_sem] def c_graph_Valid_2 (F : Fn) : LC := (.seq (.reg c_graph_Valid_2_r0 [1,2]) (.seq (.reg (c_graph_Valid_2_r1 F) [3]) .ret))
def h_graph_Valid_2 : Hints := hOf [] (c_graph_Valid_2 fun _ => 0)
@[go_sem] def c_slices_Index_I_r0 : LL := [qi 4 0]
@[go_sem] def c_slices_Index_I_r1 : LL := [qm 6 0,qz 7 6,qi 8 0]
@[go_sem] def c_slices_Index_I_r2 : LL := [qo .lss 9 8 7]
@[go_sem] def c_slices_Index_I_r3 : LL := [qm 10 8,qm 5 10]
@[go_sem] def c_slices_Index_I_r4 : LL := [qm 11 1,qm 12 0,qm 13 5,qd 14 1 12 13,ql 15 1 14,qo .eql 16 11 15]
@[go_sem] def c_slices_Index_I_r5 : LL := [qm 17 5,qm 4 17]
@[go_sem] def c_slices_Index_I_r6 : LL := [qk .add 18 8 1,qm 8 18]
def c_slices_Index_I_b7 : LC := (.seq (.reg c_slices_Index_I_r2 [0,1,7,8,9]) (.seq (.cond (.t 9) .skip (.exit 0)) (.seq (.block 1 (.seq (.reg c_slices_Index_I_r3 [0,1,5,7,8]) (.seq (.reg c_slices_Index_I_r4 [0,1,5,7,8,16]) (.cond (.t 16) (.seq (.reg c_slices_Index_I_r5 [4]) .ret) .skip)))) (.reg c_slices_Index_I_r6 [0,1,7,8]))))
@[go_sem] def c_slices_Index_I_r8 : LL := [qi 4 (-1)]
@[go_sem] def c_slices_Index_I (F : Fn) : LC := (.seq (.reg c_slices_Index_I_r0 [0,1]) (.seq (.seq (.reg c_slices_Index_I_r1 [0,1,7,8]) (.block 0 (.loop [0,1,7,8] c_slices_Index_I_b7))) (.seq (.reg c_slices_Index_I_r8 [4]) .ret)))
def h_slices_Index_I : Hints := hOf [] (c_slices_Index_I fun _ => 0)
@[go_sem] def c_slices_Contains_I_r0 : LL := [qb 4 false]
@[go_sem] def c_slices_Contains_I_r1 (F : Fn) : LL := [qm 5 0,qm 6 1,qc 7 (F "slices.Index.I") [.t 5,.t 6],qk .geq 8 7 0,qm 4 8]
@[go_sem] def c_slices_Contains_I (F : Fn) : LC := (.seq (.reg c_slices_Contains_I_r0 [0,1]) (.seq (.reg (c_slices_Contains_I_r1 F) [4]) .ret))
def h_slices_Contains_I : Hints := hOf [] (c_slices_Contains_I fun _ => 0)
@[go_sem] def c_slices_IndexFunc_I_r0 : LL := [qi 4 0]
@[go_sem] def c_slices_IndexFunc_I_r1 : LL := [qm 6 0,qz 7 6,qi 8 0]
@[go_sem] def c_slices_IndexFunc_I_r2 : LL := [qo .lss 9 8 7]
@[go_sem] def c_slices_IndexFunc_I_r3 : LL := [qm 10 8,qm 5 10]
@[go_sem] def c_slices_IndexFunc_I_r4 : LL := [qm 11 1,qm 12 0,qm 13 5,qd 14 1 12 13,ql 15 1 14,⟨some 16,.callv (.t 11) [.t 15],none⟩]
@[go_sem] def c_slices_IndexFunc_I_r5 : LL := [qm 17 5,qm 4 17]
@[go_sem] def c_slices_IndexFunc_I_r6 : LL := [qk .add 18 8 1,qm 8 18]
def c_slices_IndexFunc_I_b7 : LC := (.seq (.reg c_slices_IndexFunc_I_r2 [0,1,7,8,9]) (.seq (.cond (.t 9) .skip (.exit 0)) (.seq (.block 1 (.seq (.reg c_slices_IndexFunc_I_r3 [0,1,5,7,8]) (.seq (.reg c_slices_IndexFunc_I_r4 [0,1,5,7,8,16]) (.cond (.t 16) (.seq (.reg c_slices_IndexFunc_I_r5 [4]) .ret) .skip)))) (.reg c_slices_IndexFunc_I_r6 [0,1,7,8]))))
@[go_sem] def c_slices_IndexFunc_I_r8 : LL := [qi 4 (-1)]
@[go_sem] def c_slices_IndexFunc_I (F : Fn) : LC := (.seq (.reg c_slices_IndexFunc_I_r0 [0,1]) (.seq (.seq (.reg c_slices_IndexFunc_I_r1 [0,1,7,8]) (.block 0 (.loop [0,1,7,8] c_slices_IndexFunc_I_b7))) (.seq (.reg c_slices_IndexFunc_I_r8 [4]) .ret)))
def h_slices_IndexFunc_I : Hints := hOf [] (c_slices_IndexFunc_I fun _ => 0)
@[go_sem] def c_slices_ContainsFunc_I_r0 : LL := [qb 4 false]
@[go_sem] def c_slices_ContainsFunc_I_r1 (F : Fn) : LL := [qm 5 0,qm 6 1,qc 7 (F "slices.IndexFunc.I") [.t 5,.t 6],qk .geq 8 7 0,qm 4 8]
@[go_sem] def c_slices_ContainsFunc_I (F : Fn) : LC := (.seq (.reg c_slices_ContainsFunc_I_r0 [0,1]) (.seq (.reg (c_slices_ContainsFunc_I_r1 F) [4]) .ret))
def h_slices_ContainsFunc_I : Hints := hOf [] (c_slices_ContainsFunc_I fun _ => 0)
@[go_sem] def c_slices_IndexFunc_E_r0 : LL := [qi 4 0]
@[go_sem] def c_slices_IndexFunc_E_r1 : LL := [qm 6 0,qz 7 6,qi 8 0]
@[go_sem] def c_slices_IndexFunc_E_r2 : LL := [qo .lss 9 8 7]
@[go_sem] def c_slices_IndexFunc_E_r3 : LL := [qm 10 8,qm 5 10]
@[go_sem] def c_slices_IndexFunc_E_r4 : LL := [qm 11 1,qm 12 0,qm 13 5,qd 14 3 12 13,qL 15 3 14,⟨some 16,.callv (.t 11) [.t 15],none⟩]
@[go_sem] def c_slices_IndexFunc_E_r5 : LL := [qm 17 5,qm 4 17]
@[go_sem] def c_slices_IndexFunc_E_r6 : LL := [qk .add 18 8 1,qm 8 18]
def c_slices_IndexFunc_E_b7 : LC := (.seq (.reg c_slices_IndexFunc_E_r2 [0,1,7,8,9]) (.seq (.cond (.t 9) .skip (.exit 0)) (.seq (.block 1 (.seq (.reg c_slices_IndexFunc_E_r3 [0,1,5,7,8]) (.seq (.reg c_slices_IndexFunc_E_r4 [0,1,5,7,8,16]) (.cond (.t 16) (.seq (.reg c_slices_IndexFunc_E_r5 [4]) .ret) .skip)))) (.reg c_slices_IndexFunc_E_r6 [0,1,7,8]))))
@[go_sem] def c_slices_IndexFunc_E_r8 : LL := [qi 4 (-1)]
@[go_sem] def c_slices_IndexFunc_E (F : Fn) : LC := (.seq (.reg c_slices_IndexFunc_E_r0 [0,1]) (.seq (.seq (.reg c_slices_IndexFunc_E_r1 [0,1,7,8]) (.block 0 (.loop [0,1,7,8] c_slices_IndexFunc_E_b7))) (.seq (.reg c_slices_IndexFunc_E_r8 [4]) .ret)))
def h_slices_IndexFunc_E : Hints := hOf [] (c_slices_IndexFunc_E fun _ => 0)
@[go_sem] def c_slices_ContainsFunc_E_r0 : LL := [qb 4 false]
@[go_sem] def c_slices_ContainsFunc_E_r1 (F : Fn) : LL := [qm 5 0,qm 6 1,qc 7 (F "slices.IndexFunc.E") [.t 5,.t 6],qk .geq 8 7 0,qm 4 8]
@[go_sem] def c_slices_ContainsFunc_E (F : Fn) : LC := (.seq (.reg c_slices_ContainsFunc_E_r0 [0,1]) (.seq (.reg (c_slices_ContainsFunc_E_r1 F) [4]) .ret))
def h_slices_ContainsFunc_E : Hints := hOf [] (c_slices_ContainsFunc_E fun _ => 0)
section
variable (P : Program) (F : String → Nat)
def fitsE (n : Int) (x : E) : Bool := decide (0 ≤ x.t ∧ x.t ≤ 99) && decide (0 ≤ x.f ∧ x.f ≤ n - 1) && decide (0 ≤ x.o ∧ x.o ≤ n - 1)
def idx {α : Type} (p : α → Bool) : List α → Int → Int
 | [], _ => -1
 | a :: l, i => if p a then i else idx p l (i + 1)
def K_graph_within : Prop := ∀ n m : Int, FC P (F "graph.within") [.int .i64 n, .int .i64 m] (.bool (decide (0 ≤ n ∧ n ≤ m))) []
def K_graph_fits : Prop := ∀ (x : E) (n : Int), 0 ≤ n ∧ n ≤ 1000000 → FC P (F "graph.fits") [edD x, .int .i64 n] (.bool (fitsE n x)) []
def K_slices_Index_I : Prop := ∀ (l : List Int) (x : Int), l.length ≤ maxL → FC P (F "slices.Index.I") [.lst 1 (ints l), .int .i64 x] (.int .i64 (idx (fun y => decide (x = y)) l 0)) []
structure _root_.Go.Am.G where
 n : List Int
 e : List E
 deriving DecidableEq, Inhabited
def gD (g : G) : D := .agg [.lst 1 (ints g.n), .lst 3 (eds g.e)]
def gA (g : G) : D := .agg [.arr 1 (ints g.n), .arr 3 (eds g.e)]
def okN (x : Int) : Bool := decide (0 ≤ x ∧ x ≤ 99)
def validG (g : G) : Int := if 40 < g.n.length ∨ 80 < g.e.length then 3 else if g.n.all okN && g.e.all (fitsE g.n.length) then 0 else 6
def K_slices_IndexFunc_I : Prop := ∀ (l : List Int), l.length ≤ maxL → ∀ (g : Nat) (cs : List D), cs.all okC2 = true → ∀ p : Int → Bool, (∀ x, x ∈ l → FC P g (.int .i64 x :: cs) (.bool (p x)) []) → FC P (F "slices.IndexFunc.I") [.lst 1 (ints l), .clo g cs] (.int .i64 (idx p l 0)) []
def K_slices_IndexFunc_E : Prop := ∀ (l : List E), l.length ≤ maxL → ∀ (g : Nat) (cs : List D), cs.all okC2 = true → ∀ p : E → Bool, (∀ x, x ∈ l → FC P g (edD x :: cs) (.bool (p x)) []) → FC P (F "slices.IndexFunc.E") [.lst 3 (eds l), .clo g cs] (.int .i64 (idx p l 0)) []
def K_slices_ContainsFunc_I : Prop := ∀ (l : List Int), l.length ≤ maxL → ∀ (g : Nat) (cs : List D), cs.all okC2 = true → ∀ p : Int → Bool, (∀ x, x ∈ l → FC P g (.int .i64 x :: cs) (.bool (p x)) []) → FC P (F "slices.ContainsFunc.I") [.lst 1 (ints l), .clo g cs] (.bool (l.any p)) []
def K_slices_ContainsFunc_E : Prop := ∀ (l : List E), l.length ≤ maxL → ∀ (g : Nat) (cs : List D), cs.all okC2 = true → ∀ p : E → Bool, (∀ x, x ∈ l → FC P g (edD x :: cs) (.bool (p x)) []) → FC P (F "slices.ContainsFunc.E") [.lst 3 (eds l), .clo g cs] (.bool (l.any p)) []
def K_graph_Valid_1 : Prop := ∀ x : Int, FC P (F "graph.Valid.1") [.int .i64 x] (.bool (!decide (0 ≤ x ∧ x ≤ 99))) []
def K_graph_Valid_2 : Prop := ∀ (x : E) (ns : List Int) (es : List E), ns.length ≤ 1000000 → FC P (F "graph.Valid.2") [edD x, .ref [.lst 1 (ints ns), .lst 3 (eds es)]] (.bool (!fitsE ns.length x)) []
def K_graph_Valid : Prop := ∀ g : G, FC P (F "graph.Valid") [gD g] (.int .i64 (validG g)) []
theorem _root_.Go.Am.gt_mem {α : Type} [Inhabited α] {l : List α} {j : Int} (h0 : 0 ≤ j) (h : j < l.length) : gt l j ∈ l := List.mem_of_getElem? (get_gt h0 h)
def K_slices_Contains_I : Prop := ∀ (l : List Int) (x : Int), l.length ≤ maxL → FC P (F "slices.Contains.I") [.lst 1 (ints l), .int .i64 x] (.bool (decide (x ∈ l))) []
end
section
variable {P : Program} {F : String → Nat} {α : Type}
theorem idx_drop [Inhabited α] (p : α → Bool) (l : List α) (i : Nat) (h : i < l.length) : idx p (l.drop i) i = if p (gt l i) then (i : Int) else idx p (l.drop (i + 1)) ((i + 1 : Nat) : Int) := by
 rw [List.drop_eq_getElem_cons h, gt_nat h]; rfl
theorem idx_ge (p : α → Bool) : ∀ (l : List α) (i : Int), 0 ≤ i → (decide (0 ≤ idx p l i)) = l.any p
 | [], i, h => by simp [idx]
 | a :: l, i, h => by
  simp only [idx, List.any_cons]
  split
  ·rename_i ha; simp [ha, h]
  ·rename_i ha; rw [idx_ge p l (i + 1) (by omega)]; simp [ha]
theorem w_graph_within (n m : Int) : W P (c_graph_within F) (Done [.t 4] [] (.bool (decide (0 ≤ n ∧ n ≤ m))) []) (init [.int .i64 n, .int .i64 m]) := by
 refine W_of ?_
 simp (disch := omega) only [go_sem, ↓reduceIte]
 refine bran_dec (fun h => ?_) (fun h => ?_)
 ·simp (disch := omega) only [go_sem, ↓reduceIte, h]
 ·simp (disch := omega) only [go_sem, ↓reduceIte, h]
theorem w_graph_fits (h : K_graph_within P F) (x : E) (n : Int) (hn : 0 ≤ n ∧ n ≤ 1000000) : W P (c_graph_fits F) (Done [.t 4] [] (.bool (fitsE n x)) []) (init [edD x, .int .i64 n]) := by
 refine W_of ?_
 simp (disch := omega) only [go_sem, ↓reduceIte, edD]
 refine call_by (h _ _) ?_
 simp (disch := omega) only [go_sem, ↓reduceIte]
 refine bran_dec (fun h1 => ?_) (fun h1 => ?_)
 ·simp (disch := omega) only [go_sem, ↓reduceIte, h1]
  refine call_by (h _ _) ?_
  simp (disch := omega) only [go_sem, ↓reduceIte, h1]
  refine bran_dec (fun h2 => ?_) (fun h2 => ?_)
  ·simp (disch := omega) only [go_sem, ↓reduceIte, h2]
   refine call_by (h _ _) ?_
   simp (disch := omega) only [go_sem, ↓reduceIte, h2]
   simp [fitsE, h1, h2]
  ·simp (disch := omega) only [go_sem, ↓reduceIte, h2]
   simp [fitsE, h1, h2]
 ·simp (disch := omega) only [go_sem, ↓reduceIte, h1]
  simp [fitsE, h1]
theorem w_slices_Index_I (l : List Int) (x : Int) (hl : l.length ≤ maxL) : W P (c_slices_Index_I F) (Done [.t 4] [] (.int .i64 (idx (fun y => decide (x = y)) l 0)) []) (init [.lst 1 (ints l), .int .i64 x]) := by
 refine W_of ?_
 unfold maxL at hl
 simp (disch := omega) only [go_sem, ↓reduceIte]
 refine W_loop (fun i : Nat => ⟨[(0, .lst 1 (ints l)), (1, .int .i64 x), (7, .int .i64 l.length), (8, .int .i64 i)], [], 0⟩) (fun i => i ≤ l.length ∧ idx (fun y => decide (x = y)) l 0 = idx (fun y => decide (x = y)) (l.drop i) i) (fun i => l.length - i) 0 ?_ ?_ ?_
 ·simp (disch := omega) only [go_sem, ↓reduceIte]
  rfl
 ·simp
 ·intro i hi
  simp (disch := omega) only [go_sem, ↓reduceIte, c_slices_Index_I_b7]
  refine bran_dec (fun h => ?_) (fun h => ?_)
  ·have hd := idx_drop (fun y => decide (x = y)) l i (by omega)
   simp (disch := omega) only [go_sem, ↓reduceIte]
   refine bran_dec (fun h2 => ?_) (fun h2 => ?_)
   ·simp (disch := omega) only [go_sem, ↓reduceIte]
    rw [hi.2, hd, if_pos (by simpa using h2)]
   ·simp (disch := omega) only [go_sem, ↓reduceIte]
    exact ⟨i + 1, by simp, ⟨by omega, by rw [hi.2, hd, if_neg (by simpa using h2)]⟩, by omega⟩
  ·simp (disch := omega) only [go_sem, ↓reduceIte]
   rw [hi.2, List.drop_of_length_le (by omega)]
   rfl
theorem w_slices_Contains_I (hi : K_slices_Index_I P F) (l : List Int) (x : Int) (hl : l.length ≤ maxL) : W P (c_slices_Contains_I F) (Done [.t 4] [] (.bool (decide (x ∈ l))) []) (init [.lst 1 (ints l), .int .i64 x]) := by
 refine W_of ?_
 simp (disch := omega) only [go_sem, ↓reduceIte]
 refine call_by (hi l x hl) ?_
 simp (disch := omega) only [go_sem, ↓reduceIte]
 rw [idx_ge _ _ _ (by omega)]
 simp [List.any_eq]
theorem w_slices_IndexFunc_I (l : List Int) (hl : l.length ≤ maxL) (g : Nat) (cs : List D) (hcs : cs.all okC2 = true) (p : Int → Bool) (hg : ∀ x, x ∈ l → FC P g (.int .i64 x :: cs) (.bool (p x)) []) : W P (c_slices_IndexFunc_I F) (Done [.t 4] [] (.int .i64 (idx p l 0)) []) (init [.lst 1 (ints l), .clo g cs]) := by
 refine W_of ?_
 unfold maxL at hl
 have e1 := caps_lend2 hcs
 have e2 := caps_ren hcs
 simp (disch := omega) only [go_sem, ↓reduceIte]
 refine W_loop (fun i : Nat => ⟨[(0, .lst 1 (ints l)), (1, .clo g cs), (7, .int .i64 l.length), (8, .int .i64 i)], [], 0⟩) (fun i => i ≤ l.length ∧ idx p l 0 = idx p (l.drop i) i) (fun i => l.length - i) 0 ?_ ?_ ?_
 ·simp (disch := omega) only [go_sem, ↓reduceIte, e2]
  rfl
 ·simp
 ·intro i hi
  simp (disch := omega) only [go_sem, ↓reduceIte, c_slices_IndexFunc_I_b7]
  refine bran_dec (fun h => ?_) (fun h => ?_)
  ·have hd := idx_drop p l i (by omega)
   simp (disch := omega) only [go_sem, ↓reduceIte, e1]
   refine call_by (hg _ (gt_mem (by omega) h)) ?_
   simp (disch := omega) only [go_sem, ↓reduceIte]
   refine bran_by (fun h2 => ?_) (fun h2 => ?_)
   ·simp (disch := omega) only [go_sem, ↓reduceIte]
    rw [hi.2, hd, if_pos h2]
   ·simp (disch := omega) only [go_sem, ↓reduceIte, e2]
    exact ⟨i + 1, by simp, ⟨by omega, by rw [hi.2, hd, if_neg (by simp [h2])]⟩, by omega⟩
  ·simp (disch := omega) only [go_sem, ↓reduceIte]
   rw [hi.2, List.drop_of_length_le (by omega)]
   rfl
theorem w_slices_IndexFunc_E (l : List E) (hl : l.length ≤ maxL) (g : Nat) (cs : List D) (hcs : cs.all okC2 = true) (p : E → Bool) (hg : ∀ x, x ∈ l → FC P g (edD x :: cs) (.bool (p x)) []) : W P (c_slices_IndexFunc_E F) (Done [.t 4] [] (.int .i64 (idx p l 0)) []) (init [.lst 3 (eds l), .clo g cs]) := by
 refine W_of ?_
 unfold maxL at hl
 have e1 := caps_lend2 hcs
 have e2 := caps_ren hcs
 simp (disch := omega) only [go_sem, ↓reduceIte]
 refine W_loop (fun i : Nat => ⟨[(0, .lst 3 (eds l)), (1, .clo g cs), (7, .int .i64 l.length), (8, .int .i64 i)], [], 0⟩) (fun i => i ≤ l.length ∧ idx p l 0 = idx p (l.drop i) i) (fun i => l.length - i) 0 ?_ ?_ ?_
 ·simp (disch := omega) only [go_sem, ↓reduceIte, e2]
  rfl
 ·simp
 ·intro i hi
  simp (disch := omega) only [go_sem, ↓reduceIte, c_slices_IndexFunc_E_b7]
  refine bran_dec (fun h => ?_) (fun h => ?_)
  ·have hd := idx_drop p l i (by omega)
   simp (disch := omega) only [go_sem, ↓reduceIte, e1]
   refine call_by (hg _ (gt_mem (by omega) h)) ?_
   simp (disch := omega) only [go_sem, ↓reduceIte]
   refine bran_by (fun h2 => ?_) (fun h2 => ?_)
   ·simp (disch := omega) only [go_sem, ↓reduceIte]
    rw [hi.2, hd, if_pos h2]
   ·simp (disch := omega) only [go_sem, ↓reduceIte, e2]
    exact ⟨i + 1, by simp, ⟨by omega, by rw [hi.2, hd, if_neg (by simp [h2])]⟩, by omega⟩
  ·simp (disch := omega) only [go_sem, ↓reduceIte]
   rw [hi.2, List.drop_of_length_le (by omega)]
   rfl
theorem w_slices_ContainsFunc_I (hi : K_slices_IndexFunc_I P F) (l : List Int) (hl : l.length ≤ maxL) (g : Nat) (cs : List D) (hcs : cs.all okC2 = true) (p : Int → Bool) (hg : ∀ x, x ∈ l → FC P g (.int .i64 x :: cs) (.bool (p x)) []) : W P (c_slices_ContainsFunc_I F) (Done [.t 4] [] (.bool (l.any p)) []) (init [.lst 1 (ints l), .clo g cs]) := by
 refine W_of ?_
 simp (disch := omega) only [go_sem, ↓reduceIte, caps_lend hcs]
 refine call_by (hi l hl g cs hcs p hg) ?_
 simp (disch := omega) only [go_sem, ↓reduceIte]
 rw [idx_ge _ _ _ (by omega)]
theorem w_slices_ContainsFunc_E (hi : K_slices_IndexFunc_E P F) (l : List E) (hl : l.length ≤ maxL) (g : Nat) (cs : List D) (hcs : cs.all okC2 = true) (p : E → Bool) (hg : ∀ x, x ∈ l → FC P g (edD x :: cs) (.bool (p x)) []) : W P (c_slices_ContainsFunc_E F) (Done [.t 4] [] (.bool (l.any p)) []) (init [.lst 3 (eds l), .clo g cs]) := by
 refine W_of ?_
 simp (disch := omega) only [go_sem, ↓reduceIte, caps_lend hcs]
 refine call_by (hi l hl g cs hcs p hg) ?_
 simp (disch := omega) only [go_sem, ↓reduceIte]
 rw [idx_ge _ _ _ (by omega)]
theorem w_graph_Valid_1 (h : K_graph_within P F) (x : Int) : W P (c_graph_Valid_1 F) (Done [.t 2] [] (.bool (!decide (0 ≤ x ∧ x ≤ 99))) []) (init [.int .i64 x]) := by
 refine W_of ?_
 simp (disch := omega) only [go_sem, ↓reduceIte]
 refine call_by (h _ _) ?_
 simp (disch := omega) only [go_sem, ↓reduceIte]
theorem w_graph_Valid_2 (h : K_graph_fits P F) (x : E) (ns : List Int) (es : List E) (hn : ns.length ≤ 1000000) : W P (c_graph_Valid_2 F) (Done [.t 3] [] (.bool (!fitsE ns.length x)) []) (init [edD x, .ref [.lst 1 (ints ns), .lst 3 (eds es)]]) := by
 refine W_of ?_
 simp (disch := omega) only [go_sem, ↓reduceIte, edD]
 refine call_by (h _ _ (by omega)) ?_
 simp (disch := omega) only [go_sem, ↓reduceIte]
theorem w_graph_Valid (h1 : K_slices_ContainsFunc_I P F) (h2 : K_slices_ContainsFunc_E P F) (hv1 : K_graph_Valid_1 P F) (hv2 : K_graph_Valid_2 P F) (g : G) : W P (c_graph_Valid F) (Done [.t 2] [] (.int .i64 (validG g)) []) (init [gD g]) := by
 refine W_of ?_
 obtain ⟨ns, es⟩ := g
 simp (disch := omega) only [go_sem, ↓reduceIte, gD]
 refine bran_dec (fun a1 => ?_) (fun a1 => ?_)
 ·simp (disch := omega) only [go_sem, ↓reduceIte, a1]
  simp [validG]
  omega
 ·simp (disch := omega) only [go_sem, ↓reduceIte, a1]
  refine bran_dec (fun a2 => ?_) (fun a2 => ?_)
  ·simp (disch := omega) only [go_sem, ↓reduceIte]
   simp [validG]
   omega
  ·simp (disch := omega) only [go_sem, ↓reduceIte]
   refine call_by (h1 ns (by unfold maxL; omega) _ [] rfl _ (fun x _ => hv1 x)) ?_
   simp (disch := omega) only [go_sem, ↓reduceIte]
   refine bran_by (fun a3 => ?_) (fun a3 => ?_)
   ·simp (disch := omega) only [go_sem, ↓reduceIte]
    have e : ns.all okN = false := by
     rw [← Bool.not_eq_true, List.all_eq_true]
     rw [List.any_eq_true] at a3
     obtain ⟨x, hx, hp⟩ := a3
     exact fun h => by have := h x hx; simp [okN] at this hp; omega
    simp [validG, a1, a2, e]; omega
   ·have e : ns.all okN = true := by
     rw [List.all_eq_true]
     rw [List.any_eq_false] at a3
     exact fun x hx => by have := a3 x hx; simpa [okN] using this
    simp (disch := omega) only [go_sem, ↓reduceIte]
    refine call_by (h2 es (by unfold maxL; omega) _ _ rfl _ (fun x _ => hv2 x ns es (by omega))) ?_
    simp (disch := omega) only [go_sem, ↓reduceIte]
    refine bran_by (fun a4 => ?_) (fun a4 => ?_)
    ·simp (disch := omega) only [go_sem, ↓reduceIte]
     have e2 : es.all (fitsE ns.length) = false := by
      rw [← Bool.not_eq_true, List.all_eq_true]
      rw [List.any_eq_true] at a4
      obtain ⟨x, hx, hp⟩ := a4
      exact fun h => by have := h x hx; simp [this] at hp
     simp [validG, a1, a2, e, e2]; omega
    ·simp (disch := omega) only [go_sem, ↓reduceIte]
     have e2 : es.all (fitsE ns.length) = true := by
      rw [List.all_eq_true]
      rw [List.any_eq_false] at a4
      exact fun x hx => by have := a4 x hx; simpa using this
     simp [validG, a1, a2, e, e2]; omega
end
@[go_sem] def c_r05_SameInts_r0 : LL := [qb 4 false]
@[go_sem] def c_r05_SameInts_r1 : LL := [qm 6 0,qz 7 6,qm 8 1,qz 9 8,qo .neq 10 7 9]
@[go_sem] def c_r05_SameInts_r2 : LL := [qb 4 false]
@[go_sem] def c_r05_SameInts_r3 : LL := [qi 5 0]
@[go_sem] def c_r05_SameInts_r4 : LL := [qm 11 5,qm 12 0,qz 13 12,qo .lss 14 11 13]
@[go_sem] def c_r05_SameInts_r5 : LL := [qm 17 0,qm 18 5,qd 19 1 17 18,ql 20 1 19,qm 21 1,qm 22 5,qd 23 1 21 22,ql 24 1 23,qo .neq 25 20 24]
@[go_sem] def c_r05_SameInts_r6 : LL := [qb 4 false]
@[go_sem] def c_r05_SameInts_r7 : LL := [qm 15 5,qk .add 16 15 1,qm 5 16]
def c_r05_SameInts_b8 : LC := (.seq (.seq (.reg c_r05_SameInts_r4 [0,1,5,14]) (.cond (.t 14) .skip (.exit 0))) (.seq (.block 1 (.seq (.dreg [] c_r05_SameInts_r5 [0,1,5,25]) (.cond (.t 25) (.seq (.reg c_r05_SameInts_r6 [4]) .ret) .skip))) (.reg c_r05_SameInts_r7 [0,1,5])))
@[go_sem] def c_r05_SameInts_r9 : LL := [qb 4 true]
@[go_sem] def c_r05_SameInts (F : Fn) : LC := (.seq (.reg c_r05_SameInts_r0 [0,1]) (.seq (.seq (.reg c_r05_SameInts_r1 [0,1,10]) (.cond (.t 10) (.seq (.reg c_r05_SameInts_r2 [4]) .ret) .skip)) (.seq (.seq (.reg c_r05_SameInts_r3 [0,1,5]) (.block 0 (.loop [0,1,5] c_r05_SameInts_b8))) (.seq (.reg c_r05_SameInts_r9 [4]) .ret))))
def h_r05_SameInts : Hints := hn [] [(0,[0,1]),(1,[0,1,10]),(2,[4]),(3,[0,1,5]),(4,[0,1,5,14]),(5,[0,1,5]),(6,[0,1,5,25]),(7,[4]),(8,[4])] [(4,[0,1,5])]
def nums (f : Int) (n : Nat) : List Int := (List.range n).map fun i : Nat => f + (i : Int)
structure Mo where
 n : List Int
 e : List Int
 deriving DecidableEq, Inhabited
def mD (m : Mo) : D := .agg [.lst 1 (ints m.n), .lst 1 (ints m.e)]
section
variable (P : Program) (F : String → Nat)
def K_r05_SameInts : Prop := ∀ a b : List Int, a.length ≤ maxL → FC P (F "r05.SameInts") [.lst 1 (ints a), .lst 1 (ints b)] (.bool (decide (a = b))) []
def K_slices_Equal_I : Prop := ∀ a b : List Int, a.length ≤ maxL → FC P (F "slices.Equal.I") [.lst 1 (ints a), .lst 1 (ints b)] (.bool (decide (a = b))) []
end
section
variable {P : Program} {F : String → Nat} {α : Type}
theorem drop_gt [Inhabited α] {l : List α} {i : Nat} (h : i < l.length) : l.drop i = gt l i :: l.drop (i + 1) := by
 rw [List.drop_eq_getElem_cons h, gt_nat h]
theorem take_gt [Inhabited α] {l : List α} {i : Nat} (h : i < l.length) : l.take (i + 1) = l.take i ++ [gt l i] := by
 rw [List.take_succ_eq_append_getElem h, gt_nat h]
theorem nums_succ (f : Int) (n : Nat) : nums f (n + 1) = nums f n ++ [f + n] := by simp [nums, List.range_succ]
theorem nums_len (f : Int) (n : Nat) : (nums f n).length = n := by simp [nums]
theorem nums_zero (f : Int) : nums f 0 = [] := by simp [nums]
theorem w_r05_SameInts (a b : List Int) (hl : a.length ≤ maxL) : W P (c_r05_SameInts F) (Done [.t 4] [] (.bool (decide (a = b))) []) (init [.lst 1 (ints a), .lst 1 (ints b)]) := by
 refine W_of ?_
 unfold maxL at hl
 simp (disch := omega) only [go_sem, ↓reduceIte]
 refine bran_ndec (fun h => ?_) (fun h => ?_)
 ·simp (disch := omega) only [go_sem, ↓reduceIte]
  have : a ≠ b := fun e => h (by rw [e])
  simp [this]
 ·have h' : a.length = b.length := by omega
  simp (disch := omega) only [go_sem, ↓reduceIte]
  refine W_loop (fun i : Nat => ⟨[(0, .lst 1 (ints a)), (1, .lst 1 (ints b)), (5, .int .i64 i)], [], 0⟩) (fun i => i ≤ a.length ∧ a.take i = b.take i) (fun i => a.length - i) 0 ?_ ?_ ?_
  ·simp (disch := omega) only [go_sem, ↓reduceIte]
   rfl
  ·simp
  ·intro i hi
   simp (disch := omega) only [go_sem, ↓reduceIte, c_r05_SameInts_b8]
   refine bran_dec (fun c => ?_) (fun c => ?_)
   ·simp (disch := omega) only [go_sem, ↓reduceIte]
    refine bran_ndec (fun d => ?_) (fun d => ?_)
    ·simp (disch := omega) only [go_sem, ↓reduceIte]
     have : a ≠ b := fun e => d (by rw [e])
     simp [this]
    ·simp (disch := omega) only [go_sem, ↓reduceIte]
     exact ⟨i + 1, by simp, ⟨by omega, by rw [take_gt (by omega), take_gt (by omega), hi.2, d]⟩, by omega⟩
   ·simp (disch := omega) only [go_sem, ↓reduceIte]
    obtain rfl : i = a.length := by omega
    have := hi.2
    rw [List.take_length, List.take_of_length_le (by omega)] at this
    simp [this]
end
@[go_sem] def c_slices_Equal_I_r0 : LL := [qb 4 false]
@[go_sem] def c_slices_Equal_I_r1 : LL := [qm 6 0,qz 7 6,qm 8 1,qz 9 8,qo .neq 10 7 9]
@[go_sem] def c_slices_Equal_I_r2 : LL := [qb 4 false]
@[go_sem] def c_slices_Equal_I_r3 : LL := [qm 11 0,qz 12 11,qi 13 0]
@[go_sem] def c_slices_Equal_I_r4 : LL := [qo .lss 14 13 12]
@[go_sem] def c_slices_Equal_I_r5 : LL := [qm 15 13,qm 5 15]
@[go_sem] def c_slices_Equal_I_r6 : LL := [qm 16 0,qm 17 5,qd 18 1 16 17,ql 19 1 18,qm 20 1,qm 21 5,qd 22 1 20 21,ql 23 1 22,qo .neq 24 19 23]
@[go_sem] def c_slices_Equal_I_r7 : LL := [qb 4 false]
@[go_sem] def c_slices_Equal_I_r8 : LL := [qk .add 25 13 1,qm 13 25]
def c_slices_Equal_I_b9 : LC := (.seq (.reg c_slices_Equal_I_r4 [0,1,12,13,14]) (.seq (.cond (.t 14) .skip (.exit 0)) (.seq (.block 1 (.seq (.reg c_slices_Equal_I_r5 [0,1,5,12,13]) (.seq (.dreg [] c_slices_Equal_I_r6 [0,1,12,13,24]) (.cond (.t 24) (.seq (.reg c_slices_Equal_I_r7 [4]) .ret) .skip)))) (.reg c_slices_Equal_I_r8 [0,1,12,13]))))
@[go_sem] def c_slices_Equal_I_r10 : LL := [qb 4 true]
@[go_sem] def c_slices_Equal_I (F : Fn) : LC := (.seq (.reg c_slices_Equal_I_r0 [0,1]) (.seq (.seq (.reg c_slices_Equal_I_r1 [0,1,10]) (.cond (.t 10) (.seq (.reg c_slices_Equal_I_r2 [4]) .ret) .skip)) (.seq (.seq (.reg c_slices_Equal_I_r3 [0,1,12,13]) (.block 0 (.loop [0,1,12,13] c_slices_Equal_I_b9))) (.seq (.reg c_slices_Equal_I_r10 [4]) .ret))))
def h_slices_Equal_I : Hints := hOf [] (c_slices_Equal_I fun _ => 0)
section
variable {P : Program} {F : String → Nat} {α : Type}
theorem w_slices_Equal_I (a b : List Int) (hl : a.length ≤ maxL) : W P (c_slices_Equal_I F) (Done [.t 4] [] (.bool (decide (a = b))) []) (init [.lst 1 (ints a), .lst 1 (ints b)]) := by
 refine W_of ?_
 unfold maxL at hl
 simp (disch := omega) only [go_sem, ↓reduceIte]
 refine bran_ndec (fun h => ?_) (fun h => ?_)
 ·simp (disch := omega) only [go_sem, ↓reduceIte]
  have : a ≠ b := fun e => h (by rw [e])
  simp [this]
 ·have h' : a.length = b.length := by omega
  simp (disch := omega) only [go_sem, ↓reduceIte]
  refine W_loop (fun i : Nat => ⟨[(0, .lst 1 (ints a)), (1, .lst 1 (ints b)), (12, .int .i64 a.length), (13, .int .i64 i)], [], 0⟩) (fun i => i ≤ a.length ∧ a.take i = b.take i) (fun i => a.length - i) 0 ?_ ?_ ?_
  ·simp (disch := omega) only [go_sem, ↓reduceIte]
   rfl
  ·simp
  ·intro i hi
   simp (disch := omega) only [go_sem, ↓reduceIte, c_slices_Equal_I_b9]
   refine bran_dec (fun c => ?_) (fun c => ?_)
   ·simp (disch := omega) only [go_sem, ↓reduceIte]
    refine bran_ndec (fun d => ?_) (fun d => ?_)
    ·simp (disch := omega) only [go_sem, ↓reduceIte]
     have : a ≠ b := fun e => d (by rw [e])
     simp [this]
    ·simp (disch := omega) only [go_sem, ↓reduceIte]
     exact ⟨i + 1, by simp, ⟨by omega, by rw [take_gt (by omega), take_gt (by omega), hi.2, d]⟩, by omega⟩
   ·simp (disch := omega) only [go_sem, ↓reduceIte]
    obtain rfl : i = a.length := by omega
    have := hi.2
    rw [List.take_length, List.take_of_length_le (by omega)] at this
    simp [this]
end
def u8s (l : List Int) : List D := l.map fun x => .int .u8 x
def trs (l : List E) : List D := l.map fun x => .agg [.int .u8 x.t, .int .u8 x.f, .int .u8 x.o]
theorem u8s_length (l : List Int) : (u8s l).length = l.length := by simp [u8s]
theorem trs_length (l : List E) : (trs l).length = l.length := by simp [trs]
theorem u8s_atn {l : List Int} {i : Nat} (h : i < l.length) : (u8s l)[i]? = some (.int .u8 (gt l (i : Int))) := by
 rw [gt_nat h]; simp [u8s, h]
theorem trs_atn {l : List E} {i : Nat} (h : i < l.length) : (trs l)[i]? = some (.agg [.int .u8 (gt l (i : Int)).t, .int .u8 (gt l (i : Int)).f, .int .u8 (gt l (i : Int)).o]) := by
 rw [gt_nat h]; simp [trs, h]
theorem flat_u8s (l : List Int) : (u8s l).all D.flatE = true := by simp [u8s, D.flatE, D.flat0]
theorem flat_trs (l : List E) : (trs l).all D.flatE = true := by simp [trs, D.flatE, D.flat0]
attribute [go_sem] u8s_length trs_length u8s_atn trs_atn flat_u8s flat_trs
structure Dr where
 n : List Int
 e : List E
 deriving DecidableEq, Inhabited
def Byte (x : Int) : Prop := 0 ≤ x ∧ x ≤ 255
def Dr.ok (x : Dr) : Prop := (∀ v ∈ x.n, Byte v) ∧ ∀ v ∈ x.e, Byte v.t ∧ Byte v.f ∧ Byte v.o
section
variable (P : Program) (F : String → Nat)
end
section
variable {P : Program} {F : String → Nat} {α : Type}
theorem valid_spec {g : G} (h : validG g = 0) : g.n.length ≤ 40 ∧ g.e.length ≤ 80 ∧ (∀ x, x ∈ g.n → okN x = true) ∧ ∀ x, x ∈ g.e → fitsE g.n.length x = true := by
 unfold validG at h
 split at h
 ·simp at h
 ·rename_i h1
  split at h
  ·rename_i h2
   simp only [Bool.and_eq_true, List.all_eq_true] at h2
   exact ⟨by omega, by omega, h2.1, h2.2⟩
  ·simp at h
theorem fits_spec {n : Int} {x : E} (h : fitsE n x = true) : (0 ≤ x.t ∧ x.t ≤ 99) ∧ (0 ≤ x.f ∧ x.f < n) ∧ (0 ≤ x.o ∧ x.o < n) := by
 simp only [fitsE, Bool.and_eq_true, decide_eq_true_eq] at h
 omega
theorem fits_mk {n : Int} {x : E} (h1 : 0 ≤ x.t ∧ x.t ≤ 99) (h2 : 0 ≤ x.f ∧ x.f < n) (h3 : 0 ≤ x.o ∧ x.o < n) : fitsE n x = true := by
 simp only [fitsE, Bool.and_eq_true, decide_eq_true_eq]
 omega
end
def thr (l by_ : List Int) : List Int := l.map fun x => gt by_ x
section
variable (P : Program) (F : String → Nat)
end
section
variable {P : Program} {F : String → Nat} {α : Type}
theorem thr_len (l b : List Int) : (thr l b).length = l.length := by simp [thr]
end
open Go Go.Sort
set_option linter.unnecessarySimpa false
def inI (l : List Int) (x : Int) : List Int := match l with
 | [] => [x]
 | y :: l => if x < y then x :: y :: l else y :: inI l x
theorem inI_perm : ∀ (l : List Int) (x : Int), (inI l x).Perm (x :: l)
 | [], x => .refl _
 | y :: l, x => by
  simp only [inI]
  split
  ·exact .refl _
  ·exact ((inI_perm l x).cons y).trans (.swap x y l)
theorem inI_sorted : ∀ {l : List Int} {x : Int}, l.Pairwise (· ≤ ·) → (inI l x).Pairwise (· ≤ ·)
 | [], x, _ => by simp [inI]
 | y :: l, x, h => by
  rw [List.pairwise_cons] at h
  simp only [inI]
  split
  ·rename_i hx
   rw [List.pairwise_cons, List.pairwise_cons]
   refine ⟨fun z hz => ?_, h⟩
   rcases List.mem_cons.1 hz with rfl | hz
   ·omega
   ·have := h.1 z hz; omega
  ·rename_i hx
   rw [List.pairwise_cons]
   refine ⟨fun z hz => ?_, inI_sorted h.2⟩
   have hz := (inI_perm l x).mem_iff.1 hz
   rcases List.mem_cons.1 hz with rfl | hz
   ·omega
   ·exact h.1 z hz
def srt : List Int → List Int
 | [] => []
 | x :: l => inI (srt l) x
theorem srt_perm : ∀ l : List Int, (srt l).Perm l
 | [] => .refl _
 | x :: l => (inI_perm _ x).trans ((srt_perm l).cons x)
theorem srt_len (l : List Int) : (srt l).length = l.length := (srt_perm l).length_eq
theorem srt_sorted : ∀ l : List Int, (srt l).Pairwise (· ≤ ·)
 | [] => .nil
 | x :: l => inI_sorted (srt_sorted l)
theorem asc_one : ∀ {a b : List Int}, a.Pairwise (· ≤ ·) → b.Pairwise (· ≤ ·) → a.Perm b → a = b
 | [], b, _, _, h => (List.nil_perm.1 h).symm
 | a, [], _, _, h => List.perm_nil.1 h
 | x :: a, y :: b, h1, h2, h => by
  rw [List.pairwise_cons] at h1 h2
  have e : x = y := by
   have hx := h.mem_iff.1 (List.mem_cons_self (a := x))
   have hy := h.mem_iff.2 (List.mem_cons_self (a := y))
   rcases List.mem_cons.1 hx with e | hx
   ·exact e
   ·rcases List.mem_cons.1 hy with e | hy
    ·exact e.symm
    ·have := h2.1 x hx
     have := h1.1 y hy
     omega
  subst e
  rw [asc_one h1.2 h2.2 (List.perm_cons x |>.1 h)]
theorem srt_ms (l : List Int) : srt l = l.mergeSort fun x y => decide (x ≤ y) := by
 have := List.pairwise_mergeSort (le := fun x y : Int => decide (x ≤ y)) (fun a b c h1 h2 => by simp at *; omega) (fun a b => by simp; omega) l
 exact asc_one (srt_sorted l) (by simpa using this) ((srt_perm l).trans (List.mergeSort_perm _ _).symm)
section
variable (P : Program) (F : String → Nat)
def K_slices_Sort_I : Prop := ∀ l : List Int, l.length ≤ maxL → FC P (F "slices.Sort.I") [.arr 1 (ints l)] (.tup []) [(0, .arr 1 (ints (srt l)))]
end
theorem PE_ints {w : World} {I : Nat → Prop} : ∀ {l : List Int} {us : List Value}, PE w I 1 (ints l) us → us = l.map (Value.int .i64)
 | [], us, h => by simpa [ints, PE] using h
 | x :: l, us, h => by
  simp only [ints, List.map_cons, PE, P1] at h
  obtain ⟨u, us', rfl, _, rfl, h2⟩ := h
  rw [PE_ints (l := l) h2]; rfl
theorem PE_ints' {w : World} {I : Nat → Prop} : ∀ (l : List Int), PE w I 1 (ints l) (l.map (Value.int .i64))
 | [] => by simp [ints, PE]
 | x :: l => by
  simp only [ints, List.map_cons, PE, P1]
  exact ⟨[.int .i64 x], l.map (Value.int .i64), rfl, rfl, rfl, PE_ints' l⟩
theorem sort_world {w : World} {b n : Nat} {cur : Array Value} {e : TypeId} {d : Array Int} {os : Array Obj} (hg : w.heap[b]? = some (.cells cur e (0, 0))) (hd : d.size ≤ cur.size) :
  Stp (· = b) w (grow (putRow (Value.int .i64) (Sort.ahead w n) b 0 d) os) ∧ ∃ c, (grow (putRow (Value.int .i64) (Sort.ahead w n) b 0 d) os).heap[b]? = some (.cells c e (0, 0)) ∧ c.size = cur.size ∧ ∀ j, j < d.size → c[j]? = some (.int .i64 d[j]!) := by
 have hb : b < w.heap.size := (Array.getElem?_eq_some_iff.1 hg).1
 have hold : ∀ k, k < w.heap.size → (grow (putRow (Value.int .i64) (Sort.ahead w n) b 0 d) os).heap[k]? = if b = k then (w.heap[k]?).map (onCells (putCells (Value.int .i64) 0 d)) else w.heap[k]? := fun k hk => by
  rw [heap_grow_old _ _ (by simpa [Sort.ahead] using hk)]
  simp only [putRow, mapBlock, Sort.ahead, Array.getElem?_modify]
 have hnew : (grow (putRow (Value.int .i64) (Sort.ahead w n) b 0 d) os).heap[b]? = some (.cells (putCells (Value.int .i64) 0 d cur) e (0, 0)) := by
  rw [hold b hb, if_pos rfl, hg]; rfl
 refine ⟨⟨rfl, rfl, rfl, by simp [Sort.ahead], fun k hk hne => by rw [hold k hk, if_neg (fun h => hne h.symm)], fun k c e' fr hk => ?_, ?_⟩, _, hnew, by simp [putCells], fun j hj => ?_⟩
 ·have hk2 : k < w.heap.size := (Array.getElem?_eq_some_iff.1 hk).1
  rw [hold k hk2]
  by_cases h : b = k
  ·subst h
   rw [if_pos rfl, hk]
   exact ⟨_, rfl, by simp [putCells]⟩
  ·rw [if_neg h, hk]
   exact ⟨c, rfl, rfl⟩
 ·show w.drawn ≤ w.drawn + n
  omega
 ·simp only [putCells, Array.getElem?_mapIdx]
  rw [Array.getElem?_eq_getElem (by omega)]
  simp only [Option.map_some]
  rw [if_pos (by omega)]
  rfl
theorem sort_FC {P : Program} {f : Nat} (hen : ∀ (vs : Array Value) (w : World), (callFunc f vs).run P w = .ok (.enter f vs) w)
  (h1 : ∀ (blk off cap : Nat) (zs : List Int) (w : World), Holds (Value.int .i64) w blk off zs.toArray → blk < w.heap.size → zs.length < 4611686018427387904 → Calls P f #[.slice (some ⟨blk, off, none⟩) zs.length cap] w fun e w' =>
   e = .returned (.tuple #[]) ∧ ∃ n os, w' = grow (putRow (Value.int .i64) (Sort.ahead w n) blk off (zs.mergeSort fun x y => decide (x ≤ y)).toArray) os)
  (h2 : ∀ (p : Option Addr) (cap : Nat) (w : World), Calls P f #[.slice p 0 cap] w fun e w' => e = .returned (.tuple #[]) ∧ w' = w) (l : List Int) (hl : l.length ≤ maxL) :
  FC P f [.arr 1 (ints l)] (.tup []) [(0, .arr 1 (ints (srt l)))] := by
 refine ⟨hen, fun w I vs os hI hnd hos hdr => ?_⟩
 simp only [DRs] at hdr
 obtain ⟨v, vs', o, o', rfl, rfl, hd, rfl, rfl⟩ := hdr
 simp only [DR] at hd
 obtain ⟨hmax, ⟨rfl, hnil, rfl⟩ | ⟨b, cap, cur, e, us, rfl, rfl, hg, c1, c2, c3, hM, hP⟩⟩ := hd
 ·have hl0 : l = [] := by simpa [ints] using hnil
  subst hl0
  refine (h2 none 0 w).mono ?_
  rintro e w' ⟨rfl, rfl⟩
  refine ⟨_, [], rfl, Stp.refl _ _, by simp, by simp, ?_⟩
  simp only [List.map_cons, List.map_nil, DRs, DR]
  exact ⟨_, _, [], [], rfl, rfl, ⟨_, rfl, rfl, rfl⟩, _, _, [], [], rfl, rfl, ⟨by simp [srt, ints, maxL], .inl ⟨rfl, by simp [srt, ints], rfl⟩⟩, rfl, rfl⟩
 ·have hus := PE_ints hP
  subst hus
  have hlen : (ints l).length = l.length := ints_length l
  rw [hlen] at c1
  simp only [Nat.mul_one] at c3
  rw [hlen]
  have hcur : ∀ j, j < l.length → cur[j]? = some (.int .i64 l[j]!) := fun j hj => by
   have := Mem.cells hg hM j (.int .i64 l[j]!) (by simp [hj])
   simpa using this
  have hH : Holds (Value.int .i64) w b 0 l.toArray := fun j hj => by
   have hj : j < l.length := by simpa using hj
   have hc := hcur j hj
   refine ⟨?_, ?_⟩
   ·simp only [World.cell?, hg, Nat.zero_add, hc]
    simp [hj]
   ·simp [World.frozen?, hg]
  have hbs : b < w.heap.size := (Array.getElem?_eq_some_iff.1 hg).1
  refine (h1 b 0 cap l w hH hbs (by simp only [maxL] at hl; omega)).mono ?_
  rintro er w' ⟨rfl, n, os2, rfl⟩
  have hsz : (l.mergeSort fun x y => decide (x ≤ y)).toArray.size = l.length := by simp
  obtain ⟨k1, c, k2, k3, k4⟩ := sort_world (n := n) (os := os2) (d := (l.mergeSort fun x y => decide (x ≤ y)).toArray) hg (by rw [hsz]; omega)
  refine ⟨_, [b], rfl, k1.mono fun x _ hx => by simp [hx], by simp, fun x hx => by simp at hx; subst hx; exact ⟨.inl (by simp), Nat.lt_of_lt_of_le hbs k1.size⟩, ?_⟩
  simp only [List.map_cons, List.map_nil, DRs, DR]
  refine ⟨_, _, [], [b], rfl, rfl, ⟨_, rfl, rfl, rfl⟩, _, _, [b], [], rfl, rfl, ⟨by rw [ints_length, srt_len]; exact hl, .inr ⟨b, cap, c, e, (srt l).map (Value.int .i64), ?_, rfl, k2, by rw [ints_length, srt_len]; exact c1, c2, by omega, ?_, PE_ints' _⟩⟩, rfl, rfl⟩
  ·simp [ints_length, srt_len, hlen]
  ·refine Mem.of_cells k2 (fun j u hj => ?_)
   rw [List.getElem?_map] at hj
   have hjl : j < (srt l).length := by
    rcases Nat.lt_or_ge j (srt l).length with h | h
    ·exact h
    ·rw [List.getElem?_eq_none h] at hj; cases hj
   have := k4 j (by rw [hsz]; rw [srt_len] at hjl; exact hjl)
   rw [Nat.zero_add, this]
   rw [List.getElem?_eq_getElem hjl] at hj
   simp only [Option.map_some] at hj
   rw [← hj]
   congr 2
   simp [srt_ms] at hjl ⊢
   rw [List.getElem?_eq_getElem (by simpa using hjl)]
   rfl
@[go_sem] def c_slices_Clone_I_r0 : LL := [qn 2 1]
@[go_sem] def c_slices_Clone_I_r1 : LL := [qm 3 0,⟨some 4,.isnil false (.t 3),none⟩]
@[go_sem] def c_slices_Clone_I_r2 : LL := [qn 2 1]
@[go_sem] def c_slices_Clone_I_r3 : LL := [⟨some 5,.buildSl 1 8 (.int .i64 (0)) 0 [],none⟩,qm 6 0,qp 7 1 8 5 6,qm 2 7]
@[go_sem] def c_slices_Clone_I (F : Fn) : LC := (.seq (.reg c_slices_Clone_I_r0 [0]) (.seq (.seq (.reg c_slices_Clone_I_r1 [0,4]) (.cond (.t 4) (.seq (.reg c_slices_Clone_I_r2 [2]) .ret) .skip)) (.seq (.reg c_slices_Clone_I_r3 [2]) .ret)))
def h_slices_Clone_I : Hints := hOf [] (c_slices_Clone_I fun _ => 0)
def pts (l : List Mo) : List D := l.map mD
theorem pts_length (l : List Mo) : (pts l).length = l.length := by simp [pts]
theorem pts_snoc (l : List Mo) (a b : List Int) : pts l ++ [.agg [.lst 1 (ints a), .lst 1 (ints b)]] = pts (l ++ [⟨a, b⟩]) := by simp [pts, mD]
attribute [go_sem] pts_length pts_snoc
section
variable (P : Program) (F : String → Nat)
def K_slices_Clone_I : Prop := ∀ l : List Int, l.length ≤ 10000000000000 → FC P (F "slices.Clone.I") [.lst 1 (ints l)] (.arr 1 (ints l)) []
end
section
variable {P : Program} {F : String → Nat} {α : Type}
theorem w_slices_Clone_I (l : List Int) (hl : l.length ≤ 10000000000000) : W P (c_slices_Clone_I F) (Done [.t 2] [] (.arr 1 (ints l)) []) (init [.lst 1 (ints l)]) := by
 refine W_of ?_
 simp (disch := omega) only [go_sem, ↓reduceIte]
 refine nil_by (fun h => ?_) (fun _ => ?_)
 ·have : l = [] := by simpa [ints] using h
  subst this
  simp (disch := omega) only [go_sem, ↓reduceIte, ints_nil]
 ·simp (disch := omega) only [go_sem, ↓reduceIte]
end
structure Pr where
 a : Int
 b : Int
 deriving DecidableEq, Inhabited
def prD (x : Pr) : D := .agg [.int .i64 x.a, .int .i64 x.b]
def prs (l : List Pr) : List D := l.map prD
theorem prs_length (l : List Pr) : (prs l).length = l.length := by simp [prs]
theorem prs_snoc (l : List Pr) (a b : Int) : prs l ++ [.agg [.int .i64 a, .int .i64 b]] = prs (l ++ [⟨a, b⟩]) := by simp [prs, prD]
theorem prs_app (l m : List Pr) : prs l ++ prs m = prs (l ++ m) := by simp [prs]
theorem flat_prs (l : List Pr) : (prs l).all D.flatE = true := by simp [prs, prD, D.flatE, D.flat0]
theorem prs_at {l : List Pr} {j : Int} (h0 : 0 ≤ j) (h : j < l.length) : (prs l)[j.toNat]? = some (.agg [.int .i64 (gt l j).a, .int .i64 (gt l j).b]) := by
 unfold prs
 rw [List.getElem?_map, get_gt h0 h]; rfl
theorem prs_atn {l : List Pr} {i : Nat} (h : i < l.length) : (prs l)[i]? = some (.agg [.int .i64 (gt l i).a, .int .i64 (gt l i).b]) := by
 have := prs_at (l := l) (j := i) (by omega) (by omega)
 simpa using this
theorem prs_set {l : List Pr} {i : Nat} {a b : Int} : (prs l).set i (.agg [.int .i64 a, .int .i64 b]) = prs (l.set i ⟨a, b⟩) := by simp [prs, List.map_set, prD]
theorem prs_take {l : List Pr} {n : Nat} : (prs l).take n = prs (l.take n) := by simp [prs, List.map_take]
theorem prs_drop {l : List Pr} {n : Nat} : (prs l).drop n = prs (l.drop n) := by simp [prs, List.map_drop]
attribute [go_sem] prs_length prs_snoc prs_app flat_prs prs_at prs_set prs_take prs_drop
attribute [go_sem low] prs_atn
def g0 : G := ⟨[], []⟩
section
variable (P : Program) (F : String → Nat)
end
section
variable {P : Program} {F : String → Nat} {α : Type}
end
section
variable {P : Program} {F : String → Nat} {α : Type}
theorem mem_gt {α : Type} [Inhabited α] {l : List α} {x : α} (h : x ∈ l) : ∃ i : Nat, i < l.length ∧ gt l i = x := by
 obtain ⟨i, hi, rfl⟩ := List.getElem_of_mem h
 exact ⟨i, hi, gt_nat hi⟩
end
section
variable {α : Type}
theorem list_ext_gt [Inhabited α] {a b : List α} (hl : a.length = b.length) (h : ∀ i : Nat, i < a.length → gt a i = gt b i) : a = b := by
 refine List.ext_getElem hl fun i h1 h2 => ?_
 have := h i h1
 rwa [gt_nat h1, gt_nat h2] at this
theorem thr_gt {l b : List Int} {i : Nat} (h : i < l.length) : gt (thr l b) i = gt b (gt l i) := by
 rw [gt_nat (by rw [thr_len]; exact h)]
 simp only [thr, List.getElem_map]
 rw [gt_nat h]
structure MOk (a b : G) (m : Mo) : Prop where
 va : validG a = 0
 vb : validG b = 0
 ln : m.n.length = a.n.length
 le : m.e.length = a.e.length
 nd : ∀ i : Nat, i < a.n.length → (0 ≤ gt m.n i ∧ gt m.n i < b.n.length) ∧ gt b.n (gt m.n i) = gt a.n i
 ed : ∀ i : Nat, i < a.e.length → (0 ≤ gt m.e i ∧ gt m.e i < b.e.length) ∧ (gt a.e i).t = (gt b.e (gt m.e i)).t ∧ gt m.n (gt a.e i).f = (gt b.e (gt m.e i)).f ∧ gt m.n (gt a.e i).o = (gt b.e (gt m.e i)).o
theorem valid_mk {g : G} (h1 : g.n.length ≤ 40) (h2 : g.e.length ≤ 80) (h3 : ∀ x, x ∈ g.n → okN x = true) (h4 : ∀ x, x ∈ g.e → fitsE g.n.length x = true) : validG g = 0 := by
 unfold validG
 rw [if_neg (by omega), if_pos]
 simp only [Bool.and_eq_true, List.all_eq_true]
 exact ⟨h3, h4⟩
theorem gt_inj {α : Type} [Inhabited α] {l : List α} (hn : l.Nodup) {i j : Nat} (hi : i < l.length) (hj : j < l.length) (h : gt l i = gt l j) : i = j := by
 rw [gt_nat hi, gt_nat hj] at h
 exact (List.getElem_inj hn).1 h
theorem gt_map {α β : Type} [Inhabited α] [Inhabited β] {l : List α} {f : α → β} {i : Nat} (h : i < l.length) : gt (l.map f) i = f (gt l i) := by
 rw [gt_nat (by simpa using h), gt_nat h]; simp
theorem gtI {α : Type} [Inhabited α] {l : List α} {y : Int} (h : 0 ≤ y ∧ y < l.length) : ∃ i : Nat, i < l.length ∧ y = (i : Int) := ⟨y.toNat, by omega, by omega⟩
theorem edge_fits {g : G} (h : validG g = 0) {i : Int} (hi : 0 ≤ i ∧ i < g.e.length) : (0 ≤ (gt g.e i).t ∧ (gt g.e i).t ≤ 99) ∧ (0 ≤ (gt g.e i).f ∧ (gt g.e i).f < g.n.length) ∧ (0 ≤ (gt g.e i).o ∧ (gt g.e i).o < g.n.length) :=
 fits_spec ((valid_spec h).2.2.2 _ (gt_mem hi.1 hi.2))
theorem nums_gt {n i : Nat} (hi : i < n) : gt (nums 0 n) i = i := by
 unfold nums
 rw [gt_nat (by simp; exact hi)]
 simp
theorem nums_mem {n : Nat} {x : Int} : x ∈ nums 0 n ↔ 0 ≤ x ∧ x < n := by
 unfold nums
 simp only [List.mem_map, List.mem_range]
 constructor
 ·rintro ⟨k, hk, rfl⟩; omega
 ·rintro ⟨h1, h2⟩; exact ⟨x.toNat, by omega, by omega⟩
end
def bls (l : List Bool) : List D := l.map .bool
theorem bls_length (l : List Bool) : (bls l).length = l.length := by simp [bls]
theorem bls_at {l : List Bool} {j : Int} (h0 : 0 ≤ j) (h : j < l.length) : (bls l)[j.toNat]? = some (.bool (gt l j)) := by
 unfold bls
 rw [List.getElem?_map, get_gt h0 h]; rfl
theorem bls_atn {l : List Bool} {i : Nat} (h : i < l.length) : (bls l)[i]? = some (.bool (gt l i)) := by
 have := bls_at (l := l) (j := i) (by omega) (by omega)
 simpa using this
theorem bls_set {l : List Bool} {i : Nat} {b : Bool} : (bls l).set i (.bool b) = bls (l.set i b) := by simp [bls, List.map_set]
theorem bls_rep {n : Nat} {b : Bool} : List.replicate n (.bool b) = bls (List.replicate n b) := by simp [bls]
theorem bls_app (l m : List Bool) : bls l ++ bls m = bls (l ++ m) := by simp [bls]
theorem flat_bls (l : List Bool) : (bls l).all D.flatE = true := by simp [bls, D.flatE, D.flat0]
attribute [go_sem] bls_length bls_at bls_set bls_rep bls_app flat_bls
attribute [go_sem low] bls_atn
structure AscL (l : List Int) (n : Nat) : Prop where
 p : l.Pairwise (· < ·)
 b : ∀ x ∈ l, 0 ≤ x ∧ x < n
structure PK (g : G) (p : Mo) : Prop where
 v : validG g = 0
 n : AscL p.n g.n.length
 e : AscL p.e g.e.length
 d : ∀ x ∈ p.e, (gt g.e x).f ∈ p.n ∧ (gt g.e x).o ∈ p.n
section
theorem asc_sub : ∀ {b a : List Int}, a.Pairwise (· < ·) → b.Pairwise (· < ·) → (∀ x ∈ a, x ∈ b) → a.length ≤ b.length ∧ (a.length = b.length → a = b)
 | [], a, _, _, h => by
  cases a with
  | nil => simp
  | cons x a => exact absurd (h x (by simp)) (by simp)
 | y :: b, [], _, _, _ => by simp
 | y :: b, x :: a, ha, hb, h => by
  have ha' := ha
  rw [List.pairwise_cons] at ha hb
  by_cases e : x = y
  ·subst e
   have ih := asc_sub (b := b) (a := a) ha.2 hb.2 fun z hz => by
    have := h z (by simp [hz])
    simp only [List.mem_cons] at this
    rcases this with r | r
    ·have := ha.1 z hz; omega
    ·exact r
   simp only [List.length_cons]
   exact ⟨by omega, fun q => by rw [ih.2 (by omega)]⟩
  ·have hx : x ∈ b := by
    have := h x (by simp)
    simp only [List.mem_cons] at this
    rcases this with r | r
    ·exact absurd r e
    ·exact r
   have hyx := hb.1 x hx
   have ih := asc_sub (b := b) (a := x :: a) ha' hb.2 fun z hz => by
    have := h z hz
    simp only [List.mem_cons] at this hz
    rcases this with r | r
    ·rcases hz with s | s
     ·omega
     ·have := ha.1 z s; omega
    ·exact r
   simp only [List.length_cons] at ih ⊢
   exact ⟨by omega, fun q => by omega⟩
theorem asc_len {l : List Int} {n : Nat} (h : AscL l n) : l.length ≤ n := by
 have := (asc_sub (b := nums 0 n) h.p (by
  unfold nums
  rw [List.pairwise_map]
  exact List.pairwise_lt_range.imp fun h => by omega) fun x hx => nums_mem.2 (h.b x hx)).1
 rwa [nums_len] at this
theorem PK.len {g : G} {p : Mo} (h : PK g p) : p.n.length ≤ 40 ∧ p.e.length ≤ 80 := by
 have := valid_spec h.v
 have := asc_len h.n
 have := asc_len h.e
 omega
end
def mergeL (p : List Int) (a b : Int) : List Int := p.map fun k => if k = max (gt p a) (gt p b) then min (gt p a) (gt p b) else k
def keyI (c : List Int) (i : Nat) : Int := (gt c ((i : Int).tmod c.length)).tmod ((i : Int) + 1)
def part (g : G) (c : List Int) : Nat → List Int
 | 0 => nums 0 g.n.length
 | k + 1 => if keyI c (k + 1) < ((k + 1 : Nat) : Int) ∧ gt g.n (keyI c (k + 1)) = gt g.n ((k + 1 : Nat) : Int) then mergeL (part g c k) (keyI c (k + 1)) ((k + 1 : Nat) : Int) else part g c k
def quo (p : List Int) : Nat → List Int × Nat
 | 0 => ([], 0)
 | i + 1 => if gt p i = i then ((quo p i).1 ++ [((quo p i).2 : Int)], (quo p i).2 + 1) else ((quo p i).1 ++ [gt (quo p i).1 (gt p i)], (quo p i).2)
section
theorem gt_appS {α : Type} [Inhabited α] {l : List α} {x : α} {i : Nat} (h : i < l.length) : gt (l ++ [x]) (i : Int) = gt l i := by
 rw [gt_nat (by simp; omega), gt_nat h, List.getElem_append_left h]
theorem gt_lastS {α : Type} [Inhabited α] {l : List α} {x : α} {i : Nat} (h : i = l.length) : gt (l ++ [x]) (i : Int) = x := by
 subst h
 rw [gt_nat (by simp)]; simp
theorem merge_len (p : List Int) (a b : Int) : (mergeL p a b).length = p.length := by simp [mergeL]
theorem gt_setH {l : List Int} {k i : Nat} {v : Int} (hi : i < l.length) : gt (l.set k v) i = if k = i then v else gt l i := by
 rw [gt_nat (by simpa using hi), gt_nat hi, List.getElem_set]
end
attribute [local irreducible] W
def lastI (l : List Int) (k : Int) : Nat → Int
 | 0 => -1
 | i + 1 => if gt l i = k then i else lastI l k i
def backL (l : List Int) (n : Nat) : List Int := (List.range n).map fun k : Nat => lastI l k l.length
section
variable (P : Program) (F : String → Nat)
end
section
variable {P : Program} {F : String → Nat} {α : Type}
theorem fillL {α : Type} (l : List α) (x z : α) (m : Nat) : (l ++ List.replicate (m + 1) z).set l.length x = (l ++ [x]) ++ List.replicate m z := by
 rw [List.set_append_right _ _ (Nat.le_refl _)]
 simp [List.replicate_succ]
theorem lastI_own {l : List Int} (hn : l.Nodup) : ∀ n, n ≤ l.length → ∀ j : Nat, j < n → lastI l (gt l j) n = j
 | 0, _, _, h => by omega
 | n + 1, hl, j, hj => by
  rw [lastI]
  by_cases h : j = n
  ·subst h; rw [if_pos rfl]
  ·rw [if_neg (fun he => h (gt_inj hn (by omega) (by omega) he).symm)]
   exact lastI_own hn n (by omega) j (by omega)
theorem backL_len (l : List Int) (n : Nat) : (backL l n).length = n := by simp [backL]
theorem backL_gt {l : List Int} {n k : Nat} (h : k < n) : gt (backL l n) k = lastI l k l.length := by
 unfold backL
 rw [gt_nat (by simp; exact h)]
 simp
end
def genI (n : Nat) (l : List Pr) : Nat → List Int
 | 0 => nums 0 n
 | i + 1 => mergeL (genI n l i) (gt l i).a (gt l i).b
def genL (n : Nat) (l : List Pr) : List Int := genI n l l.length
def PrIn (n : Nat) (l : List Pr) : Prop := ∀ i : Nat, i < l.length → (0 ≤ (gt l i).a ∧ (gt l i).a < n) ∧ (0 ≤ (gt l i).b ∧ (gt l i).b < n)
structure Fo (p r : List Int) : Prop where
 l : p.length = r.length
 b : ∀ i : Nat, i < p.length → 0 ≤ gt p i ∧ gt p i ≤ i
 s : ∀ i : Nat, i < p.length → gt r (gt p i) = gt r i
 t : ∀ i : Nat, i < p.length → gt p i = i → gt r i = i
 c : ∀ i : Nat, i < p.length → (0 ≤ gt r i ∧ gt r i ≤ i) ∧ gt p (gt r i) = gt r i
def Idem (p : List Int) : Prop := ∀ i : Nat, i < p.length → (0 ≤ gt p i ∧ gt p i ≤ i) ∧ gt p (gt p i) = gt p i
def qN {α : Type} [Inhabited α] (l : List α) (p : List Int) : Nat → List α
 | 0 => []
 | i + 1 => if gt p i = i then qN l p i ++ [gt l i] else qN l p i
section
theorem natI {x : Int} (h : 0 ≤ x) : ∃ k : Nat, x = (k : Int) := ⟨x.toNat, by omega⟩
theorem mergeL_gt {p : List Int} {a b : Int} {i : Nat} (hi : i < p.length) : gt (mergeL p a b) i = if gt p i = max (gt p a) (gt p b) then min (gt p a) (gt p b) else gt p i := by
 unfold mergeL
 rw [gt_nat (by simpa using hi), gt_nat hi]
 simp
theorem Fo.idem {p r : List Int} (h : Fo p r) : Idem r := fun i hi => by
 obtain ⟨h1, h3⟩ := h.c i (by have := h.l; omega)
 refine ⟨h1, ?_⟩
 obtain ⟨k, hk⟩ := natI h1.1
 rw [hk] at h1 h3 ⊢
 exact h.t k (by have := h.l; omega) h3
theorem nums_Fo (n : Nat) : Fo (nums 0 n) (nums 0 n) := by
 refine ⟨rfl, fun i hi => ?_, fun i hi => ?_, fun i hi _ => ?_, fun i hi => ?_⟩ <;> rw [nums_len] at hi
 ·rw [nums_gt hi]; omega
 ·rw [nums_gt hi]; exact nums_gt hi
 ·exact nums_gt hi
 ·rw [nums_gt hi]; exact ⟨by omega, nums_gt hi⟩
theorem Fo.unite {p r : List Int} (h : Fo p r) {a b : Nat} (ha : a < p.length) (hb : b < p.length) :
  Fo (p.set (max (gt r a) (gt r b)).toNat (min (gt r a) (gt r b))) (mergeL r a b) := by
 have hl := h.l
 obtain ⟨⟨a1, a2⟩, a3⟩ := h.c a ha
 obtain ⟨⟨b1, b2⟩, b3⟩ := h.c b hb
 have ia := (h.idem a (by omega)).2
 have ib := (h.idem b (by omega)).2
 have hg : ∀ i : Nat, i < p.length → gt (mergeL r a b) i = if gt r i = max (gt r a) (gt r b) then min (gt r a) (gt r b) else gt r i := fun i hi => mergeL_gt (by omega)
 have hm : (mergeL r a b).length = p.length := by rw [merge_len, hl]
 have l1 : gt r (min (gt r a) (gt r b)) = min (gt r a) (gt r b) ∧ gt p (min (gt r a) (gt r b)) = min (gt r a) (gt r b) := by
  by_cases c : gt r a ≤ gt r b
  ·rw [Int.min_eq_left c]; exact ⟨ia, a3⟩
  ·rw [Int.min_eq_right (by omega)]; exact ⟨ib, b3⟩
 have h1 : gt r (max (gt r a) (gt r b)) = max (gt r a) (gt r b) ∧ gt p (max (gt r a) (gt r b)) = max (gt r a) (gt r b) := by
  by_cases c : gt r a ≤ gt r b
  ·rw [Int.max_eq_right c]; exact ⟨ib, b3⟩
  ·rw [Int.max_eq_left (by omega)]; exact ⟨ia, a3⟩
 obtain ⟨lo, hlo⟩ := natI (x := min (gt r a) (gt r b)) (by omega)
 obtain ⟨hi, hhi⟩ := natI (x := max (gt r a) (gt r b)) (by omega)
 have hle : lo ≤ hi := by omega
 have hlt : hi < p.length := by omega
 rw [hlo] at l1
 rw [hhi] at h1
 rw [hlo, hhi, Int.toNat_natCast]
 simp only [hlo, hhi] at hg
 generalize mergeL r a b = r' at *
 have hp : ∀ i : Nat, i < p.length → gt (p.set hi (lo : Int)) i = if hi = i then (lo : Int) else gt p i := fun i hi' => gt_setH hi'
 refine ⟨by simp [hm], fun i hi' => ?_, fun i hi' => ?_, fun i hi' => ?_, fun i hi' => ?_⟩ <;> rw [List.length_set] at hi'
 ·rw [hp i hi']
  split
  ·omega
  ·exact h.b i hi'
 ·rw [hp i hi']
  split
  ·rename_i e; subst e
   rw [hg lo (by omega), hg hi hlt, l1.1, h1.1, if_pos rfl]
   split <;> rfl
  ·have hb' := h.b i hi'
   have hs := h.s i hi'
   obtain ⟨k, hk⟩ := natI hb'.1
   rw [hk] at hs hb' ⊢
   rw [hg k (by omega), hg i hi', hs]
 ·rw [hp i hi', hg i hi']
  split
  ·rename_i e; subst e
   intro e
   rw [h1.1, if_pos rfl]; exact e
  ·rename_i e
   intro e2
   rw [h.t i hi' e2, if_neg (by omega)]
 ·obtain ⟨⟨c1, c2⟩, c3⟩ := h.c i hi'
  rw [hg i hi']
  split
  ·refine ⟨by omega, ?_⟩
   rw [hp lo (by omega), l1.2]
   split <;> rfl
  ·rename_i e
   refine ⟨⟨c1, c2⟩, ?_⟩
   obtain ⟨k, hk⟩ := natI c1
   rw [hk] at c2 c3 e ⊢
   rw [hp k (by omega), if_neg (by omega)]
   exact c3
theorem Fo.flat {p r : List Int} (h : Fo p r) {i : Nat} (hi : i < p.length) : Fo (p.set i (gt r i)) r := by
 obtain ⟨⟨c1, c2⟩, c3⟩ := h.c i hi
 have hid := (h.idem i (by have := h.l; omega)).2
 have hp : ∀ k : Nat, k < p.length → gt (p.set i (gt r i)) k = if i = k then gt r i else gt p k := fun k hk => gt_setH hk
 refine ⟨by simp [h.l], fun k hk => ?_, fun k hk => ?_, fun k hk => ?_, fun k hk => ?_⟩ <;> rw [List.length_set] at hk
 ·rw [hp k hk]
  split
  ·omega
  ·exact h.b k hk
 ·rw [hp k hk]
  split
  ·rename_i e; subst e; exact hid
  ·exact h.s k hk
 ·rw [hp k hk]
  split
  ·rename_i e; subst e; exact id
  ·exact h.t k hk
 ·obtain ⟨⟨d1, d2⟩, d3⟩ := h.c k hk
  refine ⟨⟨d1, d2⟩, ?_⟩
  have he := (h.idem k (by have := h.l; omega)).2
  obtain ⟨m, hm⟩ := natI d1
  rw [hm] at d2 d3 he ⊢
  rw [hp m (by omega)]
  split
  ·rename_i e; subst e; exact he
  ·exact d3
theorem gen_len {n : Nat} {l : List Pr} : ∀ i : Nat, (genI n l i).length = n
 | 0 => nums_len 0 n
 | i + 1 => by rw [genI, merge_len, gen_len i]
structure QS (p : List Int) (n : Nat) (s : List Int × Nat) : Prop where
 l : s.1.length = n
 c : s.2 ≤ n
 b : ∀ i : Nat, i < n → 0 ≤ gt s.1 i ∧ gt s.1 i < s.2
 r : ∀ i : Nat, i < n → gt s.1 (gt p i) = gt s.1 i
 j : ∀ i k : Nat, i < n → k < n → gt p i = i → gt p k = k → gt s.1 i = gt s.1 k → i = k
 s : ∀ k : Nat, k < s.2 → ∃ i : Nat, i < n ∧ gt p i = i ∧ gt s.1 i = k
theorem quo_QS {p : List Int} (hp : Idem p) : ∀ n : Nat, n ≤ p.length → QS p n (quo p n)
 | 0, _ => ⟨rfl, Nat.le_refl _, fun i hi => by omega, fun i hi => by omega, fun i k hi => by omega, fun k hk => by simp [quo] at hk⟩
 | n + 1, hn => by
  obtain ⟨h1, h2, h3, h4, h5, h6⟩ := quo_QS hp n (by omega)
  obtain ⟨⟨p1, p2⟩, p3⟩ := hp n (by omega)
  rw [quo]
  generalize quo p n = s at *
  obtain ⟨q, c⟩ := s
  simp only at h1 h2 h3 h4 h5 h6 ⊢
  split
  ·rename_i e
   have hq : ∀ i : Nat, i < n → gt (q ++ [(c : Int)]) i = gt q i := fun i hi => gt_appS (by omega)
   have hn : gt (q ++ [(c : Int)]) n = c := gt_lastS h1.symm
   refine ⟨by simp [h1], by simp only; omega, fun i hi => ?_, fun i hi => ?_, fun i k hi hk ei ek he => ?_, fun k hk => ?_⟩ <;> simp only at *
   ·by_cases x : i = n
    ·subst x; rw [hn]; omega
    ·rw [hq i (by omega)]; have := h3 i (by omega); omega
   ·by_cases x : i = n
    ·subst x; rw [e]
    ·obtain ⟨⟨a1, a2⟩, a3⟩ := hp i (by omega)
     have ih := h4 i (by omega)
     obtain ⟨m, hm⟩ := natI a1
     rw [hm] at a2 ih ⊢
     rw [hq m (by omega), hq i (by omega), ih]
   ·by_cases x : i = n
    ·by_cases y : k = n
     ·omega
     ·subst x; rw [hn, hq k (by omega)] at he
      have := h3 k (by omega); omega
    ·by_cases y : k = n
     ·subst y; rw [hn, hq i (by omega)] at he
      have := h3 i (by omega); omega
     ·rw [hq i (by omega), hq k (by omega)] at he
      exact h5 i k (by omega) (by omega) ei ek he
   ·by_cases x : k = c
    ·subst x; exact ⟨n, by omega, e, hn⟩
    ·obtain ⟨i, i1, i2, i3⟩ := h6 k (by omega)
     exact ⟨i, by omega, i2, by rw [hq i i1, i3]⟩
  ·rename_i e
   obtain ⟨m, hm⟩ := natI p1
   rw [hm] at p2 p3 e ⊢
   have hq : ∀ i : Nat, i < n → gt (q ++ [gt q m]) i = gt q i := fun i hi => gt_appS (by omega)
   have hn : gt (q ++ [gt q m]) n = gt q m := gt_lastS h1.symm
   refine ⟨by simp [h1], by simp only; omega, fun i hi => ?_, fun i hi => ?_, fun i k hi hk ei ek he => ?_, fun k hk => ?_⟩ <;> simp only at *
   ·by_cases x : i = n
    ·subst x; rw [hn]; exact h3 m (by omega)
    ·rw [hq i (by omega)]; exact h3 i (by omega)
   ·by_cases x : i = n
    ·subst x; rw [hm, hn, hq m (by omega)]
    ·obtain ⟨⟨a1, a2⟩, a3⟩ := hp i (by omega)
     have ih := h4 i (by omega)
     obtain ⟨m', hm'⟩ := natI a1
     rw [hm'] at a2 ih ⊢
     rw [hq m' (by omega), hq i (by omega), ih]
   ·have x : i ≠ n := fun x => by subst x; omega
    have y : k ≠ n := fun x => by subst x; omega
    rw [hq i (by omega), hq k (by omega)] at he
    exact h5 i k (by omega) (by omega) ei ek he
   ·obtain ⟨i, i1, i2, i3⟩ := h6 k hk
    exact ⟨i, by omega, i2, by rw [hq i i1, i3]⟩
theorem qN_len {α : Type} [Inhabited α] (l : List α) (p : List Int) : ∀ n : Nat, (qN l p n).length = (quo p n).2
 | 0 => rfl
 | n + 1 => by
  rw [qN, quo]
  split
  ·rw [List.length_append, qN_len l p n]; rfl
  ·exact qN_len l p n
theorem qN_gt {α : Type} [Inhabited α] (l : List α) {p : List Int} (hp : Idem p) : ∀ n : Nat, n ≤ p.length → ∀ i : Nat, i < n → gt p i = i → gt (qN l p n) (gt (quo p n).1 i) = gt l i
 | 0, _, i, hi, _ => by omega
 | n + 1, hn, i, hi, e => by
  have hs := quo_QS hp n (by omega)
  have hl := qN_len l p n
  rw [qN, quo]
  by_cases c : gt p n = n
  ·rw [if_pos c, if_pos c]
   simp only
   by_cases x : i = n
   ·subst x
    rw [gt_lastS hs.l.symm, ← hl, gt_lastS rfl]
   ·rw [gt_appS (by have := hs.l; omega)]
    obtain ⟨b1, b2⟩ := hs.b i (by omega)
    have ih := qN_gt l hp n (by omega) i (by omega) e
    obtain ⟨m, hm⟩ := natI b1
    rw [hm] at b2 ih ⊢
    rw [gt_appS (by omega), ih]
  ·rw [if_neg c, if_neg c]
   simp only
   have x : i ≠ n := fun x => by subst x; exact c e
   rw [gt_appS (by have := hs.l; omega)]
   exact qN_gt l hp n (by omega) i (by omega) e
theorem qN_all {α : Type} [Inhabited α] {l : List α} {p : List Int} (hp : Idem p) {n : Nat} (hn : n ≤ p.length) (hl : ∀ i : Nat, i < n → gt l (gt p i) = gt l i) {i : Nat} (hi : i < n) : gt (qN l p n) (gt (quo p n).1 i) = gt l i := by
 have hs := quo_QS hp n hn
 obtain ⟨⟨a1, a2⟩, a3⟩ := hp i (by omega)
 have h1 := hs.r i hi
 have h2 := hl i hi
 obtain ⟨k, hk⟩ := natI a1
 rw [hk] at a2 a3 h1 h2
 rw [← h1, qN_gt l hp n hn k (by omega) a3, h2]
theorem qN_mem {α : Type} [Inhabited α] {l : List α} {p : List Int} : ∀ {n : Nat}, n ≤ l.length → ∀ x ∈ qN l p n, x ∈ l
 | 0, _, x, hx => by simp [qN] at hx
 | n + 1, hn, x, hx => by
  rw [qN] at hx
  split at hx
  ·rcases List.mem_append.1 hx with hx | hx
   ·exact qN_mem (by omega) x hx
   ·rw [List.mem_singleton] at hx
    rw [hx]; exact gt_mem (by omega) (by omega)
  ·exact qN_mem (by omega) x hx
theorem gt_setS {α : Type} [Inhabited α] {l : List α} {k i : Nat} {v : α} (hi : i < l.length) : gt (l.set k v) i = if k = i then v else gt l i := by
 rw [gt_nat (by simpa using hi), gt_nat hi, List.getElem_set]
end
def reE (q : List Int) (es : List E) : List E := es.map fun x => ⟨x.t, gt q x.f, gt q x.o⟩
def quoG (g : G) (p r : List Int) : G := ⟨qN g.n p p.length, qN (reE (quo p p.length).1 g.e) r r.length⟩
def quoM (p r : List Int) : Mo := ⟨(quo p p.length).1, (quo r r.length).1⟩
structure Cong (g : G) (p r : List Int) : Prop where
 pl : p.length = g.n.length
 rl : r.length = g.e.length
 ph : Idem p
 rh : Idem r
 pt : ∀ i : Nat, i < p.length → gt g.n (gt p i) = gt g.n i
 rt : ∀ i : Nat, i < r.length → gt (reE (quo p p.length).1 g.e) (gt r i) = gt (reE (quo p p.length).1 g.e) i
section
theorem reE_gt {q : List Int} {es : List E} {i : Nat} (h : i < es.length) : gt (reE q es) i = ⟨(gt es i).t, gt q (gt es i).f, gt q (gt es i).o⟩ := by
 unfold reE
 rw [gt_map h]
theorem Cong.node {g : G} {p r : List Int} (h : Cong g p r) {i : Nat} (hi : i < g.n.length) : (0 ≤ gt (quoM p r).n i ∧ gt (quoM p r).n i < (quoG g p r).n.length) ∧ gt (quoG g p r).n (gt (quoM p r).n i) = gt g.n i := by
 have hs := quo_QS h.ph _ (Nat.le_refl _)
 have hpl := h.pl
 refine ⟨?_, ?_⟩
 ·simp only [quoM, quoG, qN_len]
  exact hs.b i (by omega)
 ·exact qN_all h.ph (Nat.le_refl _) h.pt (by omega)
theorem Cong.edge {g : G} {p r : List Int} (h : Cong g p r) {i : Nat} (hi : i < g.e.length) : (0 ≤ gt (quoM p r).e i ∧ gt (quoM p r).e i < (quoG g p r).e.length) ∧ gt (quoG g p r).e (gt (quoM p r).e i) = ⟨(gt g.e i).t, gt (quoM p r).n (gt g.e i).f, gt (quoM p r).n (gt g.e i).o⟩ := by
 have hs := quo_QS h.rh _ (Nat.le_refl _)
 have hrl := h.rl
 refine ⟨?_, ?_⟩
 ·simp only [quoM, quoG, qN_len]
  exact hs.b i (by omega)
 ·have := qN_all h.rh (Nat.le_refl _) h.rt (show i < r.length by omega)
  simp only [quoM, quoG]
  rw [this, reE_gt hi]
theorem Cong.surE {g : G} {p r : List Int} (h : Cong g p r) {k : Nat} (hk : k < (quoG g p r).e.length) : ∃ i : Nat, i < g.e.length ∧ gt r i = i ∧ gt (quoM p r).e i = k := by
 have hs := quo_QS h.rh _ (Nat.le_refl _)
 simp only [quoG, qN_len] at hk
 obtain ⟨i, h1, h2, h3⟩ := hs.s k hk
 exact ⟨i, by rw [← h.rl]; exact h1, h2, h3⟩
theorem Cong.ok {g : G} {p r : List Int} (hv : validG g = 0) (h : Cong g p r) : MOk g (quoG g p r) (quoM p r) := by
 have vs := valid_spec hv
 have h1 := quo_QS h.ph _ (Nat.le_refl _)
 have h2 := quo_QS h.rh _ (Nat.le_refl _)
 have hpl := h.pl
 have hrl := h.rl
 refine ⟨hv, valid_mk ?_ ?_ (fun y hy => ?_) (fun y hy => ?_), ?_, ?_, fun i hi => h.node hi, fun i hi => ?_⟩
 ·simp only [quoG, qN_len]; have := h1.c; omega
 ·simp only [quoG, qN_len]; have := h2.c; omega
 ·exact vs.2.2.1 y (qN_mem (by omega) y hy)
 ·obtain ⟨k, hk, hk2⟩ := mem_gt hy
  obtain ⟨i, hi, _, hi2⟩ := h.surE hk
  have he := (h.edge hi).2
  rw [hi2, hk2] at he
  rw [he]
  obtain ⟨t1, t2, t3⟩ := edge_fits hv (i := i) (by omega)
  obtain ⟨a, ha, ha2⟩ := gtI t2
  obtain ⟨b, hb, hb2⟩ := gtI t3
  rw [ha2, hb2]
  exact fits_mk t1 (h.node ha).1 (h.node hb).1
 ·simp only [quoM]; rw [h1.l, hpl]
 ·simp only [quoM]; rw [h2.l, hrl]
 ·obtain ⟨e1, e2⟩ := h.edge hi
  refine ⟨e1, ?_⟩
  rw [e2]
  exact ⟨rfl, rfl, rfl⟩
section
variable {a g : G} {f h : Mo}
end
end
@[go_sem] def c_cmp_isNaN_I_r0 : LL := [qb 2 false]
@[go_sem] def c_cmp_isNaN_I_r1 : LL := [qm 3 0,qm 4 0,qo .neq 5 3 4,qm 2 5]
@[go_sem] def c_cmp_isNaN_I (F : Fn) : LC := (.seq (.reg c_cmp_isNaN_I_r0 [0]) (.seq (.reg c_cmp_isNaN_I_r1 [2]) .ret))
def h_cmp_isNaN_I : Hints := hOf [] (c_cmp_isNaN_I fun _ => 0)
section
variable (P : Program) (F : String → Nat)
def K_cmp_isNaN_I : Prop := ∀ x : Int, FC P (F "cmp.isNaN.I") [.int .i64 x] (.bool false) []
end
section
variable {P : Program} {F : String → Nat} {α : Type}
theorem w_cmp_isNaN_I (x : Int) : W P (c_cmp_isNaN_I F) (Done [.t 2] [] (.bool false) []) (init [.int .i64 x]) := by
 refine W_of ?_
 simp (disch := omega) only [go_sem, ↓reduceIte]
 try simp
end
@[go_sem] def c_cmp_Compare_I_r0 : LL := [qi 4 0]
@[go_sem] def c_cmp_Compare_I_r1 (F : Fn) : LL := [qm 7 0,qc 8 (F "cmp.isNaN.I") [.t 7],qm 5 8]
@[go_sem] def c_cmp_Compare_I_r2 (F : Fn) : LL := [qm 9 1,qc 10 (F "cmp.isNaN.I") [.t 9],qm 6 10]
@[go_sem] def c_cmp_Compare_I_r3 : LL := [qm 11 5]
@[go_sem] def c_cmp_Compare_I_r4 : LL := [qm 12 6]
@[go_sem] def c_cmp_Compare_I_r5 : LL := [qi 4 0]
@[go_sem] def c_cmp_Compare_I_r6 : LL := [qi 4 (-1)]
@[go_sem] def c_cmp_Compare_I_r7 : LL := [qm 13 6]
@[go_sem] def c_cmp_Compare_I_r8 : LL := [qi 4 1]
@[go_sem] def c_cmp_Compare_I_r9 : LL := [qm 14 0,qm 15 1,qo .lss 16 14 15]
@[go_sem] def c_cmp_Compare_I_r10 : LL := [qi 4 (-1)]
@[go_sem] def c_cmp_Compare_I_r11 : LL := [qm 17 0,qm 18 1,qo .gtr 19 17 18]
@[go_sem] def c_cmp_Compare_I_r12 : LL := [qi 4 1]
@[go_sem] def c_cmp_Compare_I_r13 : LL := [qi 4 0]
@[go_sem] def c_cmp_Compare_I (F : Fn) : LC := (.seq (.reg c_cmp_Compare_I_r0 [0,1]) (.seq (.reg (c_cmp_Compare_I_r1 F) [0,1,5]) (.seq (.reg (c_cmp_Compare_I_r2 F) [0,1,5,6]) (.seq (.seq (.reg c_cmp_Compare_I_r3 [0,1,6,11]) (.cond (.t 11) (.seq (.seq (.reg c_cmp_Compare_I_r4 [12]) (.cond (.t 12) (.seq (.reg c_cmp_Compare_I_r5 [4]) .ret) .skip)) (.seq (.reg c_cmp_Compare_I_r6 [4]) .ret)) .skip)) (.seq (.seq (.reg c_cmp_Compare_I_r7 [0,1,13]) (.cond (.t 13) (.seq (.reg c_cmp_Compare_I_r8 [4]) .ret) .skip)) (.seq (.seq (.reg c_cmp_Compare_I_r9 [0,1,16]) (.cond (.t 16) (.seq (.reg c_cmp_Compare_I_r10 [4]) .ret) .skip)) (.seq (.seq (.reg c_cmp_Compare_I_r11 [19]) (.cond (.t 19) (.seq (.reg c_cmp_Compare_I_r12 [4]) .ret) .skip)) (.seq (.reg c_cmp_Compare_I_r13 [4]) .ret))))))))
def h_cmp_Compare_I : Hints := hOf [] (c_cmp_Compare_I fun _ => 0)
@[go_sem] def c_slices_Compare_I_r0 : LL := [qi 4 0]
@[go_sem] def c_slices_Compare_I_r1 : LL := [qm 9 0,qz 10 9,qi 11 0]
@[go_sem] def c_slices_Compare_I_r2 : LL := [qo .lss 12 11 10]
@[go_sem] def c_slices_Compare_I_r3 : LL := [qm 13 11,qd 14 1 9 11,ql 15 1 14,qm 5 13,qm 6 15]
@[go_sem] def c_slices_Compare_I_r4 : LL := [qm 16 5,qm 17 1,qz 18 17,qo .geq 19 16 18]
@[go_sem] def c_slices_Compare_I_r5 : LL := [qi 4 1]
@[go_sem] def c_slices_Compare_I_r6 : LL := [qm 20 1,qm 21 5,qd 22 1 20 21,ql 23 1 22,qm 7 23]
@[go_sem] def c_slices_Compare_I_r7 (F : Fn) : LL := [qm 24 6,qm 25 7,qc 26 (F "cmp.Compare.I") [.t 24,.t 25],qm 8 26]
@[go_sem] def c_slices_Compare_I_r8 : LL := [qm 27 8,qk .neq 28 27 0]
@[go_sem] def c_slices_Compare_I_r9 : LL := [qm 29 8,qm 4 29]
@[go_sem] def c_slices_Compare_I_r10 : LL := [qk .add 30 11 1,qm 11 30]
def c_slices_Compare_I_b11 (F : Fn) : LC := (.seq (.reg c_slices_Compare_I_r2 [0,1,9,10,11,12]) (.seq (.cond (.t 12) .skip (.exit 0)) (.seq (.block 1 (.seq (.reg c_slices_Compare_I_r3 [0,1,5,6,9,10,11]) (.seq (.seq (.reg c_slices_Compare_I_r4 [0,1,5,6,9,10,11,19]) (.cond (.t 19) (.seq (.reg c_slices_Compare_I_r5 [4]) .ret) .skip)) (.seq (.reg c_slices_Compare_I_r6 [0,1,6,7,9,10,11]) (.seq (.reg (c_slices_Compare_I_r7 F) [0,1,8,9,10,11]) (.seq (.reg c_slices_Compare_I_r8 [0,1,8,9,10,11,28]) (.cond (.t 28) (.seq (.reg c_slices_Compare_I_r9 [4]) .ret) .skip))))))) (.reg c_slices_Compare_I_r10 [0,1,9,10,11]))))
@[go_sem] def c_slices_Compare_I_r12 : LL := [qm 31 0,qz 32 31,qm 33 1,qz 34 33,qo .lss 35 32 34]
@[go_sem] def c_slices_Compare_I_r13 : LL := [qi 4 (-1)]
@[go_sem] def c_slices_Compare_I_r14 : LL := [qi 4 0]
@[go_sem] def c_slices_Compare_I (F : Fn) : LC := (.seq (.reg c_slices_Compare_I_r0 [0,1]) (.seq (.seq (.reg c_slices_Compare_I_r1 [0,1,9,10,11]) (.block 0 (.loop [0,1,9,10,11] (c_slices_Compare_I_b11 F)))) (.seq (.seq (.reg c_slices_Compare_I_r12 [35]) (.cond (.t 35) (.seq (.reg c_slices_Compare_I_r13 [4]) .ret) .skip)) (.seq (.reg c_slices_Compare_I_r14 [4]) .ret))))
def h_slices_Compare_I : Hints := hOf [] (c_slices_Compare_I fun _ => 0)
@[go_sem] def c_slices_Clone_int3_r0 : LL := [qn 2 1]
@[go_sem] def c_slices_Clone_int3_r1 : LL := [qm 3 0,⟨some 4,.isnil false (.t 3),none⟩]
@[go_sem] def c_slices_Clone_int3_r2 : LL := [qn 2 1]
@[go_sem] def c_slices_Clone_int3_r3 : LL := [⟨some 5,.buildSl 1 24 (.lst 1 []) 0 [],none⟩,qm 6 0,qp 7 1 24 5 6,qm 2 7]
@[go_sem] def c_slices_Clone_int3 (F : Fn) : LC := (.seq (.reg c_slices_Clone_int3_r0 [0]) (.seq (.seq (.reg c_slices_Clone_int3_r1 [0,4]) (.cond (.t 4) (.seq (.reg c_slices_Clone_int3_r2 [2]) .ret) .skip)) (.seq (.reg c_slices_Clone_int3_r3 [2]) .ret)))
def h_slices_Clone_int3 : Hints := hOf [] (c_slices_Clone_int3 fun _ => 0)
@[go_sem] def c_slices_CompactFunc_int3_r0 : LL := [qn 4 1]
@[go_sem] def c_slices_CompactFunc_int3_r1 : LL := [qm 8 0,qz 9 8,qk .lss 10 9 2]
@[go_sem] def c_slices_CompactFunc_int3_r2 : LL := [qm 11 0,qm 4 11]
@[go_sem] def c_slices_CompactFunc_int3_r3 : LL := [qi 5 1]
@[go_sem] def c_slices_CompactFunc_int3_r4 : LL := [qm 12 5,qm 13 0,qz 14 13,qo .lss 15 12 14]
@[go_sem] def c_slices_CompactFunc_int3_r5 : LL := [qm 18 1,qm 19 0,qm 20 5,qd 21 1 19 20,ql 22 1 21,qm 23 0,qm 24 5,qk .sub 25 24 1,qd 26 1 23 25,ql 27 1 26,⟨some 28,.callv (.t 18) [.t 22,.t 27],none⟩]
@[go_sem] def c_slices_CompactFunc_int3_r6 : LL := [qm 29 0,qm 30 5,⟨some 31,.slc 1 (.t 29) (some (.t 30)) none,none⟩,qm 6 31]
@[go_sem] def c_slices_CompactFunc_int3_r7 : LL := [qi 7 1]
@[go_sem] def c_slices_CompactFunc_int3_r8 : LL := [qm 32 7,qm 33 6,qz 34 33,qo .lss 35 32 34]
@[go_sem] def c_slices_CompactFunc_int3_r9 : LL := [qm 38 1,qm 39 6,qm 40 7,qd 41 1 39 40,ql 42 1 41,qm 43 6,qm 44 7,qk .sub 45 44 1,qd 46 1 43 45,ql 47 1 46,⟨some 48,.callv (.t 38) [.t 42,.t 47],none⟩,qv 49 48]
@[go_sem] def c_slices_CompactFunc_int3_r10 : LL := [qm 50 0,qm 51 5,qm 52 6,qm 53 7,qd 54 1 52 53,ql 55 1 54,qd 56 1 50 51,qs 1 56 55]
@[go_sem] def c_slices_CompactFunc_int3_r11 : LL := [qm 57 5,qk .add 58 57 1,qm 5 58]
@[go_sem] def c_slices_CompactFunc_int3_r12 : LL := [qm 36 7,qk .add 37 36 1,qm 7 37]
def c_slices_CompactFunc_int3_b13 : LC := (.seq (.seq (.reg c_slices_CompactFunc_int3_r8 [0,1,5,6,7,35]) (.cond (.t 35) .skip (.exit 2))) (.seq (.block 3 (.seq (.dreg [] c_slices_CompactFunc_int3_r9 [0,1,5,6,7,49]) (.cond (.t 49) (.seq (.reg c_slices_CompactFunc_int3_r10 [0,1,5,6,7]) (.reg c_slices_CompactFunc_int3_r11 [0,1,5,6,7])) .skip))) (.reg c_slices_CompactFunc_int3_r12 [0,1,5,6,7])))
@[go_sem] def c_slices_CompactFunc_int3_r14 : LL := [qm 59 0,qm 60 5,⟨some 61,.slc 1 (.t 59) (some (.t 60)) none,none⟩,⟨none,.clr 1 (.t 61),none⟩]
@[go_sem] def c_slices_CompactFunc_int3_r15 : LL := [qm 62 0,qm 63 5,⟨some 64,.slc 1 (.t 62) none (some (.t 63)),none⟩,qm 4 64]
@[go_sem] def c_slices_CompactFunc_int3_r16 : LL := [qm 16 5,qk .add 17 16 1,qm 5 17]
def c_slices_CompactFunc_int3_b17 : LC := (.seq (.seq (.reg c_slices_CompactFunc_int3_r4 [0,1,5,15]) (.cond (.t 15) .skip (.exit 0))) (.seq (.block 1 (.seq (.dreg [] c_slices_CompactFunc_int3_r5 [0,1,5,28]) (.cond (.t 28) (.seq (.reg c_slices_CompactFunc_int3_r6 [0,1,5,6]) (.seq (.seq (.reg c_slices_CompactFunc_int3_r7 [0,1,5,6,7]) (.block 2 (.loop [0,1,5,6,7] c_slices_CompactFunc_int3_b13))) (.seq (.reg c_slices_CompactFunc_int3_r14 [0,5]) (.seq (.reg c_slices_CompactFunc_int3_r15 [4]) .ret)))) .skip))) (.reg c_slices_CompactFunc_int3_r16 [0,1,5])))
@[go_sem] def c_slices_CompactFunc_int3_r18 : LL := [qm 65 0,qm 4 65]
@[go_sem] def c_slices_CompactFunc_int3 (F : Fn) : LC := (.seq (.reg c_slices_CompactFunc_int3_r0 [0,1]) (.seq (.seq (.reg c_slices_CompactFunc_int3_r1 [0,1,10]) (.cond (.t 10) (.seq (.reg c_slices_CompactFunc_int3_r2 [4]) .ret) .skip)) (.seq (.seq (.reg c_slices_CompactFunc_int3_r3 [0,1,5]) (.block 0 (.loop [0,1,5] c_slices_CompactFunc_int3_b17))) (.seq (.reg c_slices_CompactFunc_int3_r18 [4]) .ret))))
def h_slices_CompactFunc_int3 : Hints := hn [] [(0,[0,1]),(1,[0,1,10]),(2,[4]),(3,[0,1,5]),(4,[0,1,5,15]),(5,[0,1,5]),(6,[0,1,5,28]),(7,[0,1,5,6]),(8,[0,1,5,6,7]),(9,[0,1,5,6,7,35]),(10,[0,1,5,6,7]),(11,[0,1,5,6,7,49]),(12,[0,1,5,6,7]),(13,[0,1,5,6,7]),(14,[0,5]),(15,[4]),(16,[4])] [(4,[0,1,5]),(9,[0,1,5,6,7])]
@[go_sem] def c_slices_BinarySearchFunc_int4_r0 : LL := [qi 6 0,qb 7 false]
@[go_sem] def c_slices_BinarySearchFunc_int4_r1 : LL := [qm 12 0,qz 13 12,qm 8 13]
@[go_sem] def c_slices_BinarySearchFunc_int4_r2 : LL := [qm 14 8,qi 9 0,qm 10 14]
@[go_sem] def c_slices_BinarySearchFunc_int4_r3 : LL := [qm 15 9,qm 16 10,qo .lss 17 15 16]
@[go_sem] def c_slices_BinarySearchFunc_int4_r4 : LL := [qm 18 9,qm 19 10,qo .add 20 18 19,⟨some 21,.conv .u64 (.t 20),none⟩,⟨some 22,.bin .shr (.t 21) (.k (.int .u64 (1))),none⟩,⟨some 23,.conv .i64 (.t 22),none⟩,qm 11 23]
@[go_sem] def c_slices_BinarySearchFunc_int4_r5 : LL := [qm 24 2,qm 25 0,qm 26 11,qd 27 1 25 26,ql 28 1 27,qm 29 1,⟨some 30,.callv (.t 24) [.t 28,.t 29],none⟩,qk .lss 31 30 0]
@[go_sem] def c_slices_BinarySearchFunc_int4_r6 : LL := [qm 32 11,qk .add 33 32 1,qm 9 33]
@[go_sem] def c_slices_BinarySearchFunc_int4_r7 : LL := [qm 34 11,qm 10 34]
def c_slices_BinarySearchFunc_int4_b8 : LC := (.seq (.seq (.reg c_slices_BinarySearchFunc_int4_r3 [0,1,2,8,9,10,17]) (.cond (.t 17) .skip (.exit 0))) (.block 1 (.seq (.reg c_slices_BinarySearchFunc_int4_r4 [0,1,2,8,9,10,11]) (.seq (.reg c_slices_BinarySearchFunc_int4_r5 [0,1,2,8,9,10,11,31]) (.cond (.t 31) (.reg c_slices_BinarySearchFunc_int4_r6 [0,1,2,8,9,10]) (.reg c_slices_BinarySearchFunc_int4_r7 [0,1,2,8,9,10]))))))
@[go_sem] def c_slices_BinarySearchFunc_int4_r9 : LL := [qm 35 9,qm 36 9,qm 37 8,qo .lss 38 36 37,qm 39 38,qg 39 true (qm 40 2),qg 39 true (qm 41 0),qg 39 true (qm 42 9),qg 39 true (qd 43 1 41 42),qg 39 true (ql 44 1 43),
 qg 39 true (qm 45 1),⟨some 46,.callv (.t 40) [.t 44,.t 45],some (39,true)⟩,qg 39 true (qk .eql 47 46 0),qP 48 39 47,qm 6 35,qm 7 48]
@[go_sem] def c_slices_BinarySearchFunc_int4 (F : Fn) : LC := (.seq (.reg c_slices_BinarySearchFunc_int4_r0 [0,1,2]) (.seq (.reg c_slices_BinarySearchFunc_int4_r1 [0,1,2,8]) (.seq (.reg c_slices_BinarySearchFunc_int4_r2 [0,1,2,8,9,10]) (.seq (.block 0 (.loop [0,1,2,8,9,10] c_slices_BinarySearchFunc_int4_b8)) (.seq (.reg c_slices_BinarySearchFunc_int4_r9 [6,7]) .ret)))))
def h_slices_BinarySearchFunc_int4 : Hints := hOf [] (c_slices_BinarySearchFunc_int4 fun _ => 0)
@[go_sem] def c_slices_Grow_I_r0 : LL := [qn 4 1]
@[go_sem] def c_slices_Grow_I_r1 : LL := [qm 5 1,qk .lss 6 5 0]
@[go_sem] def c_slices_Grow_I_r2 : LL := [⟨some 7,.bad,none⟩,⟨none,.bad,none⟩]
@[go_sem] def c_slices_Grow_I_r3 : LL := [qm 8 1,qm 9 0,⟨some 10,.cap (.t 9),none⟩,qm 11 0,qz 12 11,qo .sub 13 10 12,qo .sub 14 8 13,qm 1 14]
@[go_sem] def c_slices_Grow_I_r4 : LL := [qm 15 1,qk .gtr 16 15 0]
@[go_sem] def c_slices_Grow_I_r5 : LL := [qm 17 0,qm 18 0,⟨some 19,.cap (.t 18),none⟩,⟨some 20,.slc 1 (.t 17) none (some (.t 19)),none⟩,qm 21 1,⟨some 22,.appz 1 8 (.int .i64 (0)) (.t 20) (.t 21),none⟩,qm 23 0,
 qz 24 23,⟨some 25,.slc 1 (.t 22) none (some (.t 24)),none⟩,qm 0 25]
@[go_sem] def c_slices_Grow_I_r6 : LL := [qm 26 0,qm 4 26]
@[go_sem] def c_slices_Grow_I (F : Fn) : LC := (.seq (.reg c_slices_Grow_I_r0 [0,1]) (.seq (.seq (.reg c_slices_Grow_I_r1 [0,1,6]) (.cond (.t 6) (.reg c_slices_Grow_I_r2 [0,1]) .skip)) (.seq (.seq (.reg c_slices_Grow_I_r3 [0,1]) (.seq (.reg c_slices_Grow_I_r4 [0,1,16]) (.cond (.t 16) (.reg c_slices_Grow_I_r5 [0]) .skip))) (.seq (.reg c_slices_Grow_I_r6 [4]) .ret))))
def h_slices_Grow_I : Hints := hOf [] (c_slices_Grow_I fun _ => 0)
@[go_sem] def c_slices_Concat_I_r0 : LL := [qn 2 1]
@[go_sem] def c_slices_Concat_I_r1 : LL := [qi 3 0]
@[go_sem] def c_slices_Concat_I_r2 : LL := [qm 9 0,qz 10 9,qi 11 0]
@[go_sem] def c_slices_Concat_I_r3 : LL := [qo .lss 12 11 10]
@[go_sem] def c_slices_Concat_I_r4 : LL := [qd 13 1 9 11,ql 14 1 13,qm 5 14]
@[go_sem] def c_slices_Concat_I_r5 : LL := [qm 15 3,qm 16 5,qz 17 16,qo .add 18 15 17,qm 3 18]
@[go_sem] def c_slices_Concat_I_r6 : LL := [qm 19 3,qk .lss 20 19 0]
@[go_sem] def c_slices_Concat_I_r7 : LL := [⟨some 21,.bad,none⟩,⟨none,.bad,none⟩]
@[go_sem] def c_slices_Concat_I_r8 : LL := [qk .add 22 11 1,qm 11 22]
def c_slices_Concat_I_b9 : LC := (.seq (.reg c_slices_Concat_I_r3 [0,3,9,10,11,12]) (.seq (.cond (.t 12) .skip (.exit 0)) (.seq (.block 1 (.seq (.reg c_slices_Concat_I_r4 [0,3,5,9,10,11]) (.seq (.reg c_slices_Concat_I_r5 [0,3,9,10,11]) (.seq (.reg c_slices_Concat_I_r6 [0,3,9,10,11,20]) (.cond (.t 20) (.reg c_slices_Concat_I_r7 [0,3,9,10,11]) .skip))))) (.reg c_slices_Concat_I_r8 [0,3,9,10,11]))))
@[go_sem] def c_slices_Concat_I_r10 (F : Fn) : LL := [qm 23 3,qc 24 (F "slices.Grow.I") [.k (.nl 0),.t 23],qm 6 24]
@[go_sem] def c_slices_Concat_I_r11 : LL := [qm 25 0,qz 26 25,qi 27 0]
@[go_sem] def c_slices_Concat_I_r12 : LL := [qo .lss 28 27 26]
@[go_sem] def c_slices_Concat_I_r13 : LL := [qd 29 1 25 27,ql 30 1 29,qm 8 30]
@[go_sem] def c_slices_Concat_I_r14 : LL := [qm 31 6,qm 32 8,qp 33 1 8 31 32,qm 6 33]
@[go_sem] def c_slices_Concat_I_r15 : LL := [qk .add 34 27 1,qm 27 34]
def c_slices_Concat_I_b16 : LC := (.seq (.reg c_slices_Concat_I_r12 [6,25,26,27,28]) (.seq (.cond (.t 28) .skip (.exit 2)) (.seq (.block 3 (.seq (.reg c_slices_Concat_I_r13 [6,8,25,26,27]) (.reg c_slices_Concat_I_r14 [6,25,26,27]))) (.reg c_slices_Concat_I_r15 [6,25,26,27]))))
@[go_sem] def c_slices_Concat_I_r17 : LL := [qm 35 6,qm 2 35]
@[go_sem] def c_slices_Concat_I (F : Fn) : LC := (.seq (.reg c_slices_Concat_I_r0 [0]) (.seq (.reg c_slices_Concat_I_r1 [0,3]) (.seq (.seq (.reg c_slices_Concat_I_r2 [0,3,9,10,11]) (.block 0 (.loop [0,3,9,10,11] c_slices_Concat_I_b9))) (.seq (.reg (c_slices_Concat_I_r10 F) [0,6]) (.seq (.seq (.reg c_slices_Concat_I_r11 [6,25,26,27]) (.block 2 (.loop [6,25,26,27] c_slices_Concat_I_b16))) (.seq (.reg c_slices_Concat_I_r17 [2]) .ret))))))
def h_slices_Concat_I : Hints := hOf [] (c_slices_Concat_I fun _ => 0)
structure Cmp {α : Type} (c : α → α → Int) : Prop where
 neg : ∀ a b, c b a = - c a b
 eq : ∀ a b, c a b = 0 → a = b
 tr : ∀ a b d, c a b < 0 → c b d < 0 → c a d < 0
def sgn (x : Int) : Int := if x < 0 then -1 else if 0 < x then 1 else 0
def scmp : List Int → List Int → Int
 | [], [] => 0
 | [], _ :: _ => -1
 | _ :: _, [] => 1
 | a :: as, b :: bs => if a = b then scmp as bs else sgn (a - b)
def iis (l : List (List Int)) : List D := l.map fun x => .lst 1 (ints x)
theorem iis_length (l : List (List Int)) : (iis l).length = l.length := by simp [iis]
theorem iis_get {l : List (List Int)} {i : Nat} (h : i < l.length) : (iis l)[i]? = some (.lst 1 (ints (gt l (i : Int)))) := by
 rw [gt_nat h]
 simp [iis, h]
theorem iis_getI {l : List (List Int)} {j : Int} (h0 : 0 ≤ j) (h : j < l.length) : (iis l)[j.toNat]? = some (.lst 1 (ints (gt l j))) := by
 have := iis_get (l := l) (i := j.toNat) (by omega)
 rw [this, show ((j.toNat : Nat) : Int) = j by omega]
theorem iis_set {l : List (List Int)} {i : Nat} {x : List Int} : (iis l).set i (.lst 1 (ints x)) = iis (l.set i x) := by simp [iis, List.map_set]
theorem iis_app (l m : List (List Int)) : iis l ++ iis m = iis (l ++ m) := by simp [iis]
theorem iis_snoc (l : List (List Int)) (x : List Int) : iis l ++ [.lst 1 (ints x)] = iis (l ++ [x]) := by simp [iis]
theorem iis_take {l : List (List Int)} {n : Nat} : (iis l).take n = iis (l.take n) := by simp [iis, List.map_take]
theorem iis_drop {l : List (List Int)} {n : Nat} : (iis l).drop n = iis (l.drop n) := by simp [iis, List.map_drop]
theorem iis_nil : iis [] = [] := id rfl
attribute [go_sem] iis_length iis_get iis_getI iis_set iis_app iis_snoc iis_take iis_drop
def keptL (l : List (List Int)) (i : Nat) : Bool := decide (i = 0) || decide (gt l (i : Int) ≠ gt l ((i : Int) - 1))
def kpL (l : List (List Int)) (n : Nat) : List (List Int) := ((List.range n).filter (keptL l)).map fun i : Nat => gt l (i : Int)
def cptL (l : List (List Int)) : List (List Int) := kpL l l.length
def below (S : List (List Int)) (t : List Int) : Nat := (S.filter fun x => decide (scmp x t < 0)).length
section
variable (P : Program) (F : String → Nat)
def K_cmp_Compare_I : Prop := ∀ x y : Int, FC P (F "cmp.Compare.I") [.int .i64 x, .int .i64 y] (.int .i64 (if x = y then 0 else sgn (x - y))) []
def K_slices_Compare_I : Prop := ∀ a b : List Int, a.length ≤ 1000000 → b.length ≤ 1000000 → FC P (F "slices.Compare.I") [.lst 1 (ints a), .lst 1 (ints b)] (.int .i64 (scmp a b)) []
def K_slices_SortFunc_int3 : Prop := ∀ (l S : List (List Int)) (g : Nat) (c : List Int → List Int → Int), l.length ≤ 1000000 → Cmp c → S.Perm l → S.Pairwise (fun a b => c a b ≤ 0) → (∀ x ∈ l, ∀ y ∈ l, FC P g [.lst 1 (ints x), .lst 1 (ints y)] (.int .i64 (c x y)) []) → FC P (F "slices.SortFunc.int3") [.arr 1 (iis l), .clo g []] (.tup []) [(0, .arr 1 (iis S))]
def K_slices_Clone_int3 : Prop := ∀ l : List (List Int), l.length ≤ 1000000 → FC P (F "slices.Clone.int3") [.lst 1 (iis l)] (.arr 1 (iis l)) []
def K_slices_CompactFunc_int3 : Prop := ∀ (l : List (List Int)) (g : Nat), l.length ≤ 1000000 → (∀ x ∈ l, ∀ y ∈ l, FC P g [.lst 1 (ints x), .lst 1 (ints y)] (.bool (decide (x = y))) []) → FC P (F "slices.CompactFunc.int3") [.arr 1 (iis l), .clo g []] (.arr 1 (iis (cptL l))) []
def K_slices_BinarySearchFunc_int4 : Prop := ∀ (S : List (List Int)) (t : List Int) (g : Nat), S.length ≤ 1000000 → S.Pairwise (fun a b => scmp a b < 0) → (∀ x ∈ S, FC P g [.lst 1 (ints x), .lst 1 (ints t)] (.int .i64 (scmp x t)) []) → FC P (F "slices.BinarySearchFunc.int4") [.lst 1 (iis S), .lst 1 (ints t), .clo g []] (.tup [.int .i64 (below S t), .bool (decide (t ∈ S))]) []
def K_slices_Grow_I : Prop := ∀ n : Nat, n ≤ 10000000000000 → FC P (F "slices.Grow.I") [.nl 1, .int .i64 n] (.arr 1 []) []
def K_slices_Concat_I : Prop := ∀ l : List (List Int), l.length ≤ 1000000 → (∀ x ∈ l, x.length ≤ 1000000) → FC P (F "slices.Concat.I") [.lst 1 (iis l)] (.arr 1 (ints l.flatten)) []
end
section
variable {α : Type}
theorem sgn_neg (x : Int) : sgn (-x) = - sgn x := by unfold sgn; split <;> split <;> (try split) <;> (try split) <;> omega
theorem sgn_lt {x : Int} : sgn x < 0 ↔ x < 0 := by unfold sgn; split <;> (try split) <;> omega
theorem sgn_zero {x : Int} : sgn x = 0 ↔ x = 0 := by unfold sgn; split <;> (try split) <;> omega
theorem scmp_neg : ∀ a b, scmp b a = - scmp a b
 | [], [] => rfl
 | [], _ :: _ => rfl
 | _ :: _, [] => rfl
 | a :: as, b :: bs => by
  simp only [scmp]
  by_cases h : a = b
  ·subst h; simp only [if_true]; exact scmp_neg as bs
  ·rw [if_neg h, if_neg (fun e => h e.symm), ← sgn_neg]; congr 1; omega
theorem scmp_eq : ∀ a b, scmp a b = 0 → a = b
 | [], [], _ => rfl
 | [], _ :: _, h => by simp [scmp] at h
 | _ :: _, [], h => by simp [scmp] at h
 | a :: as, b :: bs, e => by
  simp only [scmp] at e
  split at e
  ·rename_i h1; rw [h1, scmp_eq as bs e]
  ·have := sgn_zero.1 e; omega
theorem scmp_self : ∀ a, scmp a a = 0
 | [] => rfl
 | a :: l => by simp only [scmp, if_true]; exact scmp_self l
theorem scmp_tr : ∀ a b d, scmp a b < 0 → scmp b d < 0 → scmp a d < 0
 | [], [], _, h, _ => by simp [scmp] at h
 | [], _ :: _, [], _, h => by simp [scmp] at h
 | [], _ :: _, _ :: _, _, _ => by simp [scmp]
 | _ :: _, [], _, h, _ => by simp [scmp] at h
 | _ :: _, _ :: _, [], _, h => by simp [scmp] at h
 | a :: as, b :: bs, d :: ds, h1, h2 => by
  simp only [scmp] at h1 h2 ⊢
  by_cases e1 : a = b
  ·subst e1
   by_cases e2 : a = d
   ·subst e2
    simp only [if_true] at h1 h2 ⊢
    exact scmp_tr as bs ds h1 h2
   ·rw [if_neg e2] at h2 ⊢; exact h2
  ·rw [if_neg e1] at h1
   by_cases e2 : b = d
   ·subst e2; rw [if_neg e1]; exact h1
   ·rw [if_neg e2] at h2
    have h1 := sgn_lt.1 h1
    have h2 := sgn_lt.1 h2
    rw [if_neg (by omega)]
    exact sgn_lt.2 (by omega)
theorem scmp_cmp : Cmp scmp := ⟨scmp_neg, scmp_eq, scmp_tr⟩
theorem Cmp.lt_le {c : α → α → Int} (hc : Cmp c) {a b d : α} (h : c a b < 0) (k : c b d ≤ 0) : c a d < 0 := by
 by_cases k0 : c b d = 0
 ·rw [← hc.eq _ _ k0]; exact h
 ·exact hc.tr a b d h (by omega)
theorem Cmp.le_lt {c : α → α → Int} (hc : Cmp c) {a b d : α} (h : c a b ≤ 0) (k : c b d < 0) : c a d < 0 := by
 by_cases h0 : c a b = 0
 ·rw [hc.eq _ _ h0]; exact k
 ·exact hc.tr a b d (by omega) k
theorem sorted_one {c : α → α → Int} (hc : Cmp c) : ∀ {a b : List α}, a.Pairwise (fun x y => c x y ≤ 0) → b.Pairwise (fun x y => c x y ≤ 0) → a.Perm b → a = b
 | [], b, _, _, h => (List.nil_perm.1 h).symm
 | x :: a, [], _, _, h => by simpa using h.length_eq
 | x :: a, y :: b, h1, h2, h => by
  rw [List.pairwise_cons] at h1 h2
  have hxy : x = y := by
   have hx : x ∈ y :: b := h.mem_iff.1 (by simp)
   have hy : y ∈ x :: a := h.mem_iff.2 (by simp)
   rcases List.mem_cons.1 hx with e | hx
   ·exact e
   ·rcases List.mem_cons.1 hy with e | hy
    ·exact e.symm
    ·have q1 := h2.1 x hx
     have q2 := h1.1 y hy
     have := hc.neg x y
     exact hc.eq _ _ (by omega)
  subst hxy
  rw [sorted_one hc h1.2 h2.2 (List.perm_cons x |>.1 h)]
theorem kpL_succ (l : List (List Int)) (n : Nat) : kpL l (n + 1) = if keptL l n = true then kpL l n ++ [gt l (n : Int)] else kpL l n := by
 unfold kpL
 rw [List.range_succ, List.filter_append, List.map_append]
 simp only [List.filter_cons, List.filter_nil]
 split <;> simp
theorem kpL_mem (l : List (List Int)) : ∀ n, n ≤ l.length → ∀ x, x ∈ kpL l n ↔ x ∈ l.take n
 | 0, _, x => by simp [kpL]
 | n + 1, h, x => by
  have ih := kpL_mem l n (by omega)
  rw [kpL_succ, take_gt (by omega)]
  split
  ·simp only [List.mem_append, ih]
  ·rename_i hk
   rw [ih, List.mem_append]
   refine ⟨.inl, fun hx => hx.elim id fun hx => ?_⟩
   simp only [List.mem_singleton] at hx
   subst hx
   simp only [keptL, Bool.or_eq_true, decide_eq_true_eq, not_or, ne_eq, Decidable.not_not] at hk
   rw [hk.2, show ((n : Int) - 1) = ((n - 1 : Nat) : Int) by omega, gt_nat (by omega)]
   rw [List.mem_take_iff_getElem]
   exact ⟨n - 1, by omega, rfl⟩
theorem cptL_mem {l : List (List Int)} {x : List Int} : x ∈ cptL l ↔ x ∈ l := by
 rw [cptL, kpL_mem l l.length (Nat.le_refl _), List.take_length]
theorem kpL_sub (l : List (List Int)) : ∀ n, n ≤ l.length → (kpL l n).Sublist (l.take n)
 | 0, _ => by simp [kpL]
 | n + 1, h => by
  rw [kpL_succ, take_gt (by omega)]
  split
  ·exact (kpL_sub l n (by omega)).append (List.Sublist.refl _)
  ·exact (kpL_sub l n (by omega)).trans (List.sublist_append_left _ _)
theorem kpL_strict {l : List (List Int)} (hs : l.Pairwise (fun a b => scmp a b ≤ 0)) : ∀ n, n ≤ l.length → (kpL l n).Pairwise (fun a b => scmp a b < 0)
 | 0, _ => by simp [kpL]
 | n + 1, h => by
  have ih := kpL_strict hs n (by omega)
  rw [kpL_succ]
  split
  ·rename_i hk
   rw [List.pairwise_append]
   refine ⟨ih, by simp, fun a ha b hb => ?_⟩
   simp only [List.mem_singleton] at hb
   subst hb
   have hm := (kpL_mem l n (by omega) a).1 ha
   rw [List.mem_take_iff_getElem] at hm
   obtain ⟨i, hi, rfl⟩ := hm
   have hin : i < n := by omega
   have hnl : n < l.length := by omega
   rw [gt_nat hnl]
   rw [List.pairwise_iff_getElem] at hs
   have h1 := hs (n - 1) n (by omega) hnl (by omega)
   have hne : l[n] ≠ l[n - 1] := by
    simp only [keptL, Bool.or_eq_true, decide_eq_true_eq] at hk
    rcases hk with hk | hk
    ·omega
    ·rw [gt_nat hnl, show ((n : Int) - 1) = ((n - 1 : Nat) : Int) by omega, gt_nat (by omega)] at hk
     exact hk
   have h2 : scmp l[n - 1] l[n] < 0 := by
    have : scmp l[n - 1] l[n] ≠ 0 := fun e => hne (scmp_eq _ _ e).symm
    omega
   by_cases e : i = n - 1
   ·subst e; exact h2
   ·exact scmp_cmp.le_lt (hs i (n - 1) (by omega) (by omega) (by omega)) h2
  ·exact ih
theorem cptL_strict {l : List (List Int)} (hs : l.Pairwise (fun a b => scmp a b ≤ 0)) : (cptL l).Pairwise (fun a b => scmp a b < 0) := kpL_strict hs _ (Nat.le_refl _)
theorem cptL_len (l : List (List Int)) : (cptL l).length ≤ l.length := by
 have := (kpL_sub l l.length (Nat.le_refl _)).length_le
 rw [List.take_length] at this
 exact this
theorem below_split {S : List (List Int)} (hs : S.Pairwise (fun a b => scmp a b < 0)) (t : List Int) : ∀ i, i < S.length → (scmp (gt S (i : Int)) t < 0 ↔ i < below S t) := by
 induction S with
 | nil => intro i h; simp at h
 | cons a S ih =>
  rw [List.pairwise_cons] at hs
  intro i h
  by_cases ha : scmp a t < 0
  ·have hb : below (a :: S) t = below S t + 1 := by simp [below, List.filter_cons, ha]
   cases i with
   | zero => rw [gt_nat h, hb]; simpa using ha
   | succ i =>
    have := ih hs.2 i (by simpa using h)
    rw [gt_nat (by simpa using h)] at this
    rw [gt_nat h, hb]
    simp only [List.getElem_cons_succ, Nat.add_lt_add_iff_right]
    exact this
  ·have hb : below (a :: S) t = 0 := by
    simp only [below, List.length_eq_zero_iff, List.filter_eq_nil_iff, decide_eq_true_eq]
    intro x hx
    rcases List.mem_cons.1 hx with rfl | hx
    ·exact ha
    ·intro hxt
     exact ha (scmp_tr _ _ _ (hs.1 x hx) hxt)
   rw [hb]
   refine ⟨fun hlt => ?_, fun h => by omega⟩
   exfalso
   rw [gt_nat h] at hlt
   cases i with
   | zero => exact ha (by simpa using hlt)
   | succ i =>
    simp only [List.getElem_cons_succ] at hlt
    exact ha (scmp_tr _ _ _ (hs.1 _ (List.getElem_mem _)) hlt)
theorem below_le (S : List (List Int)) (t : List Int) : below S t ≤ S.length := List.length_filter_le _ _
end
section
variable {P : Program} {F : String → Nat} {α : Type}
theorem w_cmp_Compare_I (hn : K_cmp_isNaN_I P F) (x y : Int) : W P (c_cmp_Compare_I F) (Done [.t 4] [] (.int .i64 (if x = y then 0 else sgn (x - y))) []) (init [.int .i64 x, .int .i64 y]) := by
 refine W_of ?_
 simp (disch := omega) only [go_sem, ↓reduceIte]
 refine call_by (hn x) ?_
 simp (disch := omega) only [go_sem, ↓reduceIte]
 refine call_by (hn y) ?_
 rcases Int.lt_trichotomy x y with h | h | h
 ·have d1 : decide (x < y) = true := decide_eq_true h
  simp (disch := omega) only [go_sem, ↓reduceIte, d1]
  rw [if_neg (by omega), sgn, if_pos (by omega)]
 ·subst h
  have d1 : decide (x < x) = false := decide_eq_false (by omega)
  simp (disch := omega) only [go_sem, ↓reduceIte, d1]
  try rw [if_pos rfl]
 ·have d1 : decide (x < y) = false := decide_eq_false (by omega)
  have d2 : decide (y < x) = true := decide_eq_true h
  simp (disch := omega) only [go_sem, ↓reduceIte, d1, d2]
  rw [if_neg (by omega), sgn, if_neg (by omega), if_pos (by omega)]
theorem scmp_nil {b : List Int} : scmp [] b = if b.length = 0 then 0 else -1 := by cases b <;> simp [scmp]
theorem w_slices_Compare_I (hc : K_cmp_Compare_I P F) (a b : List Int) (h1 : a.length ≤ 1000000) (h2 : b.length ≤ 1000000) : W P (c_slices_Compare_I F) (Done [.t 4] [] (.int .i64 (scmp a b)) []) (init [.lst 1 (ints a), .lst 1 (ints b)]) := by
 refine W_of ?_
 simp (disch := omega) only [go_sem, ↓reduceIte]
 refine W_loop (fun i : Nat => ⟨[(0, .lst 1 (ints a)), (1, .lst 1 (ints b)), (9, .lst 1 (ints a)), (10, .int .i64 a.length), (11, .int .i64 i)], [], 0⟩) (fun i => i ≤ a.length ∧ i ≤ b.length ∧ scmp a b = scmp (a.drop i) (b.drop i)) (fun i => a.length - i) 0 ?_ ?_ ?_
 ·simp (disch := omega) only [go_sem, ↓reduceIte]
  rfl
 ·simp
 ·intro i hi
  by_cases c : i < a.length
  ·have d1 : decide ((i : Int) < a.length) = true := decide_eq_true (by omega)
   by_cases e : i < b.length
   ·have d2 : decide ((b.length : Int) ≤ i) = false := decide_eq_false (by omega)
    have st : scmp (a.drop i) (b.drop i) = if gt a i = gt b i then scmp (a.drop (i + 1)) (b.drop (i + 1)) else sgn (gt a i - gt b i) := by rw [drop_gt c, drop_gt e]; rfl
    have r1 := hc (gt a i) (gt b i)
    by_cases f : gt a i = gt b i
    ·rw [if_pos f] at r1 st
     simp (disch := omega) only [go_sem, ↓reduceIte, c_slices_Compare_I_b11, d1, d2]
     refine call_by r1 ?_
     have d3 : decide ((0 : Int) = 0) = true := rfl
     simp (disch := omega) only [go_sem, ↓reduceIte, d3]
     exact ⟨i + 1, by simp, ⟨by omega, by omega, by rw [hi.2.2, st]⟩, by omega⟩
    ·rw [if_neg f] at r1 st
     have d3 : decide (sgn (gt a i - gt b i) = 0) = false := decide_eq_false (by unfold sgn; split <;> (try split) <;> omega)
     simp (disch := omega) only [go_sem, ↓reduceIte, c_slices_Compare_I_b11, d1, d2]
     refine call_by r1 ?_
     generalize sgn (gt a i - gt b i) = z at *
     simp (disch := omega) only [go_sem, ↓reduceIte, d3]
     rw [hi.2.2, st]
   ·have d2 : decide ((b.length : Int) ≤ i) = true := decide_eq_true (by omega)
    simp (disch := omega) only [go_sem, ↓reduceIte, c_slices_Compare_I_b11, d1, d2]
    rw [hi.2.2, drop_gt c, List.drop_of_length_le (l := b) (by omega)]
    rfl
  ·have d1 : decide ((i : Int) < a.length) = false := decide_eq_false (by omega)
   obtain rfl : i = a.length := by omega
   have hs : scmp a b = if (b.length : Nat) = a.length then 0 else -1 := by
    rw [hi.2.2, List.drop_length, scmp_nil, List.length_drop]
    by_cases e : b.length = a.length
    ·rw [if_pos (by omega), if_pos e]
    ·rw [if_neg (by omega), if_neg e]
   by_cases e : a.length < b.length
   ·have d2 : decide ((a.length : Int) < b.length) = true := decide_eq_true (by omega)
    rw [if_neg (by omega)] at hs
    simp (disch := omega) only [go_sem, ↓reduceIte, c_slices_Compare_I_b11, d1, d2]
    rw [hs]
   ·have d2 : decide ((a.length : Int) < b.length) = false := decide_eq_false (by omega)
    rw [if_pos (by omega)] at hs
    simp (disch := omega) only [go_sem, ↓reduceIte, c_slices_Compare_I_b11, d1, d2]
    rw [hs]
theorem w_slices_Clone_int3 (l : List (List Int)) (hl : l.length ≤ 1000000) : W P (c_slices_Clone_int3 F) (Done [.t 2] [] (.arr 1 (iis l)) []) (init [.lst 1 (iis l)]) := by
 refine W_of ?_
 simp (disch := omega) only [go_sem, ↓reduceIte]
 refine nil_by (fun h => ?_) (fun _ => ?_)
 ·have : l = [] := by simpa [iis] using h
  subst this
  simp (disch := omega) only [go_sem, ↓reduceIte, iis_nil]
 ·simp (disch := omega) only [go_sem, ↓reduceIte]
theorem w_slices_CompactFunc_int3 (l : List (List Int)) (g : Nat) (hl : l.length ≤ 1000000) (hg : ∀ x ∈ l, ∀ y ∈ l, FC P g [.lst 1 (ints x), .lst 1 (ints y)] (.bool (decide (x = y))) []) : W P (c_slices_CompactFunc_int3 F) (Done [.t 4] [] (.arr 1 (iis (cptL l))) []) (init [.arr 1 (iis l), .clo g []]) := by
 refine W_of ?_
 simp (disch := omega) only [go_sem, ↓reduceIte]
 refine bran_dec (fun c => ?_) (fun c => ?_)
 ·have : cptL l = l := by
   match l, c with
   | [], _ => rfl
   | [x], _ => simp [cptL, kpL, keptL, List.range_succ, gt]
   | x :: y :: l, c => simp at c; omega
  simp (disch := omega) only [go_sem, ↓reduceIte]
  rw [this]
 ·simp (disch := omega) only [go_sem, ↓reduceIte]
  refine W_loop (fun k : Nat => ⟨[(0, .sl 0 0 l.length), (1, .clo g []), (5, .int .i64 k)], [(0, .arr 1 (iis l))], 1⟩) (fun k => 1 ≤ k ∧ k ≤ l.length ∧ kpL l k = l.take k) (fun k => l.length - k) 1 ?_ ?_ ?_
  ·simp (disch := omega) only [go_sem, ↓reduceIte]
   rfl
  ·refine ⟨by omega, by omega, ?_⟩
   rw [kpL_succ, if_pos (by simp [keptL]), take_gt (by omega)]
   rfl
  ·rintro k ⟨h1, h2, h3⟩
   have hs := kpL_succ l k
   simp (disch := omega) only [go_sem, ↓reduceIte, c_slices_CompactFunc_int3_b17]
   refine bran_dec (fun d => ?_) (fun d => ?_)
   ·have rg := hg (gt l (k : Int)) (gt_mem (by omega) (by omega)) (gt l ((k : Int) - 1)) (gt_mem (by omega) (by omega))
    simp (disch := omega) only [go_sem, ↓reduceIte]
    refine call_by rg ?_
    simp (disch := omega) only [go_sem, ↓reduceIte]
    refine bran_dec (fun e => ?_) (fun e => ?_)
    ·rw [if_neg (by simp [keptL, e]; omega)] at hs
     simp (disch := omega) only [go_sem, ↓reduceIte]
     refine W_loop (fun s : Nat × Nat × List (List Int) => ⟨[(0, .sl 0 0 l.length), (1, .clo g []), (5, .int .i64 s.2.1), (6, .sl 0 k (l.length - k)), (7, .int .i64 s.1)], [(0, .arr 1 (iis s.2.2))], 1⟩)
      (fun s => 1 ≤ s.1 ∧ k + s.1 ≤ l.length ∧ s.2.1 + 1 ≤ k + s.1 ∧ s.2.2.length = l.length ∧ s.2.2.take s.2.1 = kpL l (k + s.1) ∧ s.2.2.drop (k + s.1 - 1) = l.drop (k + s.1 - 1)) (fun s => l.length - s.1) (1, k, l) ?_ ?_ ?_
     ·simp (disch := omega) only [go_sem, ↓reduceIte]
      rfl
     ·exact ⟨by simp, by simp only; omega, by simp, rfl, by simp only; rw [hs, h3], rfl⟩
     ·rintro ⟨j, i, xs⟩ ⟨g1, g2, g3, g4, g5, g6⟩
      simp only at g1 g2 g3 g4 g5 g6
      have hs2 := kpL_succ l (k + j)
      have gat : ∀ m : Nat, k + j - 1 ≤ m → m < l.length → gt xs m = gt l m := fun m hm1 hm2 => by
       have := congrArg (fun l : List (List Int) => l[m - (k + j - 1)]?) g6
       simp only [List.getElem?_drop] at this
       rw [show k + j - 1 + (m - (k + j - 1)) = m by omega, List.getElem?_eq_getElem (by omega), List.getElem?_eq_getElem (by omega)] at this
       rw [gt_nat (by omega), gt_nat (by omega)]
       simpa using this
      simp (disch := omega) only [go_sem, ↓reduceIte, c_slices_CompactFunc_int3_b13, g4]
      refine bran_dec (fun d => ?_) (fun d => ?_)
      ·have e1 := gat (k + j) (by omega) (by omega)
       have e2 : gt xs ((k + ((j : Int) - 1).toNat : Nat) : Int) = gt l (((k + j : Nat) : Int) - 1) := by
        rw [show k + ((j : Int) - 1).toNat = k + j - 1 by omega, gat (k + j - 1) (by omega) (by omega)]
        congr 1
        omega
       have hd : xs.drop (k + j) = l.drop (k + j) := by
        have := congrArg (fun l : List (List Int) => l.drop 1) g6
        simp only [List.drop_drop] at this
        rw [show k + j - 1 + 1 = k + j by omega] at this
        exact this
       have rg := hg (gt l ((k + j : Nat) : Int)) (gt_mem (by omega) (by omega)) (gt l (((k + j : Nat) : Int) - 1)) (gt_mem (by omega) (by omega))
       simp (disch := omega) only [go_sem, ↓reduceIte, g4, e1, e2]
       refine call_by rg ?_
       simp (disch := omega) only [go_sem, ↓reduceIte]
       refine bran_ndec (fun f => ?_) (fun f => ?_)
       ·rw [if_pos (by unfold keptL; rw [Bool.or_eq_true]; exact .inr (decide_eq_true f))] at hs2
        simp (disch := omega) only [go_sem, ↓reduceIte, g4, e1]
        refine ⟨(j + 1, i + 1, xs.set i (gt l ((k + j : Nat) : Int))), by simp, ⟨by simp only; omega, by simp only; omega, by simp only; omega, by simp [g4], ?_, ?_⟩, by simp only; omega⟩
        ·simp only
         rw [← Nat.add_assoc, hs2, ← g5, List.take_succ_eq_append_getElem (by simp; omega), List.take_set_of_le (Nat.le_refl _)]
         simp
        ·simp only
         rw [show k + (j + 1) - 1 = k + j by omega, List.drop_set_of_lt (by omega), hd]
       ·rw [if_neg (by unfold keptL; simp only [Bool.or_eq_true, decide_eq_true_eq, not_or, ne_eq, Decidable.not_not]; exact ⟨by omega, f⟩)] at hs2
        simp (disch := omega) only [go_sem, ↓reduceIte, g4]
        refine ⟨(j + 1, i, xs), by simp, ⟨by simp only; omega, by simp only; omega, by simp only; omega, g4, ?_, ?_⟩, by simp only; omega⟩
        ·simp only
         rw [← Nat.add_assoc, hs2, ← g5]
        ·simp only
         rw [show k + (j + 1) - 1 = k + j by omega, hd]
      ·have hi : (xs.take i).length = i := by simp; omega
       have hkj : k + j = l.length := by omega
       simp (disch := omega) only [go_sem, ↓reduceIte, g4, hi, Nat.sub_zero]
       rw [g5, hkj, cptL]
    ·rw [if_pos (by simp [keptL, e])] at hs
     simp (disch := omega) only [go_sem, ↓reduceIte]
     exact ⟨k + 1, by simp, ⟨by omega, by omega, by rw [hs, h3, take_gt (by omega)]⟩, by omega⟩
   ·obtain rfl : k = l.length := by omega
    simp (disch := omega) only [go_sem, ↓reduceIte]
    rw [cptL, h3, List.take_length]
end
end Go.Am
