/- The graph package: searches. -/
import Derived.Test.YtelmgaflhmcihaaGreatAmPh
import Derived.Sort.Grow
namespace Go.Am
open Go
set_option linter.unusedVariables false
set_option linter.unusedSimpArgs false
@[go_sem] def c_graph_within_r0 : LL := [qb 4 false]
@[go_sem] def c_graph_within_r1 : LL := [qm 5 0,qk .geq 6 5 0,qm 7 6,qg 7 true (qm 8 0),qg 7 true (qm 9 1),qg 7 true (qo .leq 10 8 9),qP 11 7 10,qm 4 11]
@[go_sem] def c_graph_within (F : Fn) : LC := (.seq (.reg c_graph_within_r0 [0,1]) (.seq (.reg c_graph_within_r1 [4]) .ret))
def h_graph_within : Hints := hOf [] (c_graph_within fun _ => 0)
@[go_sem] def c_graph_fits_r0 : LL := [qB 2 0,qb 4 false]
@[go_sem] def c_graph_fits_r1 (F : Fn) : LL := [qf 5 0 2,ql 6 1 5,qc 7 (F "graph.within") [.t 6,.k (.int .i64 (99))],qm 8 7,qg 8 true (qf 9 1 2),qg 8 true (ql 10 1 9),qg 8 true (qm 11 1),qg 8 true (qk .sub 12 11 1),
 qg 8 true (qc 13 (F "graph.within") [.t 10,.t 12]),qP 14 8 13,qm 15 14,qg 15 true (qf 16 2 2),qg 15 true (ql 17 1 16),qg 15 true (qm 18 1),qg 15 true (qk .sub 19 18 1),
 qg 15 true (qc 20 (F "graph.within") [.t 17,.t 19]),qP 21 15 20,qm 4 21]
@[go_sem] def c_graph_fits (F : Fn) : LC := (.seq (.reg c_graph_fits_r0 [1,2]) (.seq (.reg (c_graph_fits_r1 F) [4]) .ret))
def h_graph_fits : Hints := hOf [] (c_graph_fits fun _ => 0)
@[go_sem] def c_graph_Valid_r0 : LL := [qB 1 0,qi 2 0]
@[go_sem] def c_graph_Valid_r1 : LL := [qf 3 0 1,ql 4 1 3,qz 5 4,qk .gtr 6 5 40,qm 7 6,qg 7 false (qf 8 1 1),qg 7 false (ql 9 1 8),qg 7 false (qz 10 9),qg 7 false (qk .gtr 11 10 80),qQ 12 7 11]
@[go_sem] def c_graph_Valid_r2 : LL := [qi 2 3]
@[go_sem] def c_graph_Valid_r3 (F : Fn) : LL := [qf 13 0 1,ql 14 1 13,⟨some 15,.call (F "slices.ContainsFunc.I") [.t 14,.k (.clo (F "graph.Valid.1") [])] [],none⟩]
@[go_sem] def c_graph_Valid_r4 : LL := [qi 2 6]
@[go_sem] def c_graph_Valid_r5 (F : Fn) : LL := [qf 16 1 1,ql 17 1 16,⟨some 18,.mkf (F "graph.Valid.2") [.t 1],none⟩,qc 19 (F "slices.ContainsFunc.E") [.t 17,.t 18]]
@[go_sem] def c_graph_Valid_r6 : LL := [qi 2 6]
@[go_sem] def c_graph_Valid_r7 : LL := [qi 2 0]
@[go_sem] def c_graph_Valid (F : Fn) : LC := (.seq (.reg c_graph_Valid_r0 [1]) (.seq (.seq (.reg c_graph_Valid_r1 [1,12]) (.cond (.t 12) (.seq (.reg c_graph_Valid_r2 [2]) .ret) .skip)) (.seq (.seq (.reg (c_graph_Valid_r3 F) [1,15]) (.cond (.t 15) (.seq (.reg c_graph_Valid_r4 [2]) .ret) .skip)) (.seq (.seq (.reg (c_graph_Valid_r5 F) [19]) (.cond (.t 19) (.seq (.reg c_graph_Valid_r6 [2]) .ret) .skip)) (.seq (.reg c_graph_Valid_r7 [2]) .ret)))))
def h_graph_Valid : Hints := hOf [] (c_graph_Valid fun _ => 0)
@[go_sem] def c_graph_Valid_1_r0 : LL := [qb 2 false]
@[go_sem] def c_graph_Valid_1_r1 (F : Fn) : LL := [qm 3 0,qc 4 (F "graph.within") [.t 3,.k (.int .i64 (99))],qv 5 4,qm 2 5]
@[go_sem] def c_graph_Valid_1 (F : Fn) : LC := (.seq (.reg c_graph_Valid_1_r0 [0]) (.seq (.reg (c_graph_Valid_1_r1 F) [2]) .ret))
def h_graph_Valid_1 : Hints := hOf [] (c_graph_Valid_1 fun _ => 0)
@[go_sem] def c_graph_Valid_2_r0 : LL := [qB 2 0,qb 3 false]
@[go_sem] def c_graph_Valid_2_r1 (F : Fn) : LL := [qL 4 3 2,qf 5 0 1,ql 6 1 5,qz 7 6,qc 8 (F "graph.fits") [.t 4,.t 7],qv 9 8,qm 3 9]
@[go_sem] def c_graph_Valid_2 (F : Fn) : LC := (.seq (.reg c_graph_Valid_2_r0 [1,2]) (.seq (.reg (c_graph_Valid_2_r1 F) [3]) .ret))
def h_graph_Valid_2 : Hints := hOf [] (c_graph_Valid_2 fun _ => 0)
@[go_sem] def c_slices_Index_I_r0 : LL := [qi 4 0]
@[go_sem] def c_slices_Index_I_r1 : LL := [qm 6 0,qz 7 6,qi 8 0]
@[go_sem] def c_slices_Index_I_r2 : LL := [qo .lss 9 8 7]
@[go_sem] def c_slices_Index_I_r3 : LL := [qm 10 8,qm 5 10]
@[go_sem] def c_slices_Index_I_r4 : LL := [qm 11 1,qm 12 0,qm 13 5,qd 14 1 12 13,ql 15 1 14,qo .eql 16 11 15]
@[go_sem] def c_slices_Index_I_r5 : LL := [qm 17 5,qm 4 17]
@[go_sem] def c_slices_Index_I_r6 : LL := [qk .add 18 8 1,qm 8 18]
def c_slices_Index_I_b7 : LC := (.seq (.reg c_slices_Index_I_r2 [0,1,7,8,9]) (.seq (.cond (.t 9) .skip (.exit 0)) (.seq (.block 1 (.seq (.reg c_slices_Index_I_r3 [0,1,5,7,8]) (.seq (.reg c_slices_Index_I_r4 [0,1,5,7,8,16]) (.cond (.t 16) (.seq (.reg c_slices_Index_I_r5 [4]) .ret) .skip)))) (.reg c_slices_Index_I_r6 [0,1,7,8]))))
@[go_sem] def c_slices_Index_I_r8 : LL := [qi 4 (-1)]
@[go_sem] def c_slices_Index_I (F : Fn) : LC := (.seq (.reg c_slices_Index_I_r0 [0,1]) (.seq (.seq (.reg c_slices_Index_I_r1 [0,1,7,8]) (.block 0 (.loop [0,1,7,8] c_slices_Index_I_b7))) (.seq (.reg c_slices_Index_I_r8 [4]) .ret)))
def h_slices_Index_I : Hints := hOf [] (c_slices_Index_I fun _ => 0)
@[go_sem] def c_slices_Contains_I_r0 : LL := [qb 4 false]
@[go_sem] def c_slices_Contains_I_r1 (F : Fn) : LL := [qm 5 0,qm 6 1,qc 7 (F "slices.Index.I") [.t 5,.t 6],qk .geq 8 7 0,qm 4 8]
@[go_sem] def c_slices_Contains_I (F : Fn) : LC := (.seq (.reg c_slices_Contains_I_r0 [0,1]) (.seq (.reg (c_slices_Contains_I_r1 F) [4]) .ret))
def h_slices_Contains_I : Hints := hOf [] (c_slices_Contains_I fun _ => 0)
@[go_sem] def c_slices_IndexFunc_I_r0 : LL := [qi 4 0]
@[go_sem] def c_slices_IndexFunc_I_r1 : LL := [qm 6 0,qz 7 6,qi 8 0]
@[go_sem] def c_slices_IndexFunc_I_r2 : LL := [qo .lss 9 8 7]
@[go_sem] def c_slices_IndexFunc_I_r3 : LL := [qm 10 8,qm 5 10]
@[go_sem] def c_slices_IndexFunc_I_r4 : LL := [qm 11 1,qm 12 0,qm 13 5,qd 14 1 12 13,ql 15 1 14,⟨some 16,.callv (.t 11) [.t 15],none⟩]
@[go_sem] def c_slices_IndexFunc_I_r5 : LL := [qm 17 5,qm 4 17]
@[go_sem] def c_slices_IndexFunc_I_r6 : LL := [qk .add 18 8 1,qm 8 18]
def c_slices_IndexFunc_I_b7 : LC := (.seq (.reg c_slices_IndexFunc_I_r2 [0,1,7,8,9]) (.seq (.cond (.t 9) .skip (.exit 0)) (.seq (.block 1 (.seq (.reg c_slices_IndexFunc_I_r3 [0,1,5,7,8]) (.seq (.reg c_slices_IndexFunc_I_r4 [0,1,5,7,8,16]) (.cond (.t 16) (.seq (.reg c_slices_IndexFunc_I_r5 [4]) .ret) .skip)))) (.reg c_slices_IndexFunc_I_r6 [0,1,7,8]))))
@[go_sem] def c_slices_IndexFunc_I_r8 : LL := [qi 4 (-1)]
@[go_sem] def c_slices_IndexFunc_I (F : Fn) : LC := (.seq (.reg c_slices_IndexFunc_I_r0 [0,1]) (.seq (.seq (.reg c_slices_IndexFunc_I_r1 [0,1,7,8]) (.block 0 (.loop [0,1,7,8] c_slices_IndexFunc_I_b7))) (.seq (.reg c_slices_IndexFunc_I_r8 [4]) .ret)))
def h_slices_IndexFunc_I : Hints := hOf [] (c_slices_IndexFunc_I fun _ => 0)
@[go_sem] def c_slices_ContainsFunc_I_r0 : LL := [qb 4 false]
@[go_sem] def c_slices_ContainsFunc_I_r1 (F : Fn) : LL := [qm 5 0,qm 6 1,qc 7 (F "slices.IndexFunc.I") [.t 5,.t 6],qk .geq 8 7 0,qm 4 8]
@[go_sem] def c_slices_ContainsFunc_I (F : Fn) : LC := (.seq (.reg c_slices_ContainsFunc_I_r0 [0,1]) (.seq (.reg (c_slices_ContainsFunc_I_r1 F) [4]) .ret))
def h_slices_ContainsFunc_I : Hints := hOf [] (c_slices_ContainsFunc_I fun _ => 0)
@[go_sem] def c_slices_IndexFunc_E_r0 : LL := [qi 4 0]
@[go_sem] def c_slices_IndexFunc_E_r1 : LL := [qm 6 0,qz 7 6,qi 8 0]
@[go_sem] def c_slices_IndexFunc_E_r2 : LL := [qo .lss 9 8 7]
@[go_sem] def c_slices_IndexFunc_E_r3 : LL := [qm 10 8,qm 5 10]
@[go_sem] def c_slices_IndexFunc_E_r4 : LL := [qm 11 1,qm 12 0,qm 13 5,qd 14 3 12 13,qL 15 3 14,⟨some 16,.callv (.t 11) [.t 15],none⟩]
@[go_sem] def c_slices_IndexFunc_E_r5 : LL := [qm 17 5,qm 4 17]
@[go_sem] def c_slices_IndexFunc_E_r6 : LL := [qk .add 18 8 1,qm 8 18]
def c_slices_IndexFunc_E_b7 : LC := (.seq (.reg c_slices_IndexFunc_E_r2 [0,1,7,8,9]) (.seq (.cond (.t 9) .skip (.exit 0)) (.seq (.block 1 (.seq (.reg c_slices_IndexFunc_E_r3 [0,1,5,7,8]) (.seq (.reg c_slices_IndexFunc_E_r4 [0,1,5,7,8,16]) (.cond (.t 16) (.seq (.reg c_slices_IndexFunc_E_r5 [4]) .ret) .skip)))) (.reg c_slices_IndexFunc_E_r6 [0,1,7,8]))))
@[go_sem] def c_slices_IndexFunc_E_r8 : LL := [qi 4 (-1)]
@[go_sem] def c_slices_IndexFunc_E (F : Fn) : LC := (.seq (.reg c_slices_IndexFunc_E_r0 [0,1]) (.seq (.seq (.reg c_slices_IndexFunc_E_r1 [0,1,7,8]) (.block 0 (.loop [0,1,7,8] c_slices_IndexFunc_E_b7))) (.seq (.reg c_slices_IndexFunc_E_r8 [4]) .ret)))
def h_slices_IndexFunc_E : Hints := hOf [] (c_slices_IndexFunc_E fun _ => 0)
@[go_sem] def c_slices_ContainsFunc_E_r0 : LL := [qb 4 false]
@[go_sem] def c_slices_ContainsFunc_E_r1 (F : Fn) : LL := [qm 5 0,qm 6 1,qc 7 (F "slices.IndexFunc.E") [.t 5,.t 6],qk .geq 8 7 0,qm 4 8]
@[go_sem] def c_slices_ContainsFunc_E (F : Fn) : LC := (.seq (.reg c_slices_ContainsFunc_E_r0 [0,1]) (.seq (.reg (c_slices_ContainsFunc_E_r1 F) [4]) .ret))
def h_slices_ContainsFunc_E : Hints := hOf [] (c_slices_ContainsFunc_E fun _ => 0)
section
variable (P : Program) (F : String → Nat)
def fitsE (n : Int) (x : E) : Bool := decide (0 ≤ x.t ∧ x.t ≤ 99) && decide (0 ≤ x.f ∧ x.f ≤ n - 1) && decide (0 ≤ x.o ∧ x.o ≤ n - 1)
def idx {α : Type} (p : α → Bool) : List α → Int → Int
 | [], _ => -1
 | a :: l, i => if p a then i else idx p l (i + 1)
def K_graph_within : Prop := ∀ n m : Int, FC P (F "graph.within") [.int .i64 n, .int .i64 m] (.bool (decide (0 ≤ n ∧ n ≤ m))) []
def K_graph_fits : Prop := ∀ (x : E) (n : Int), 0 ≤ n ∧ n ≤ 1000000 → FC P (F "graph.fits") [edD x, .int .i64 n] (.bool (fitsE n x)) []
def K_slices_Index_I : Prop := ∀ (l : List Int) (x : Int), l.length ≤ maxL → FC P (F "slices.Index.I") [.lst 1 (ints l), .int .i64 x] (.int .i64 (idx (fun y => decide (x = y)) l 0)) []
structure _root_.Go.Am.G where
 n : List Int
 e : List E
 deriving DecidableEq, Inhabited
def gD (g : G) : D := .agg [.lst 1 (ints g.n), .lst 3 (eds g.e)]
def gA (g : G) : D := .agg [.arr 1 (ints g.n), .arr 3 (eds g.e)]
def okN (x : Int) : Bool := decide (0 ≤ x ∧ x ≤ 99)
def validG (g : G) : Int := if 40 < g.n.length ∨ 80 < g.e.length then 3 else if g.n.all okN && g.e.all (fitsE g.n.length) then 0 else 6
def K_slices_IndexFunc_I : Prop := ∀ (l : List Int), l.length ≤ maxL → ∀ (g : Nat) (cs : List D), cs.all okC2 = true → ∀ p : Int → Bool, (∀ x, x ∈ l → FC P g (.int .i64 x :: cs) (.bool (p x)) []) → FC P (F "slices.IndexFunc.I") [.lst 1 (ints l), .clo g cs] (.int .i64 (idx p l 0)) []
def K_slices_IndexFunc_E : Prop := ∀ (l : List E), l.length ≤ maxL → ∀ (g : Nat) (cs : List D), cs.all okC2 = true → ∀ p : E → Bool, (∀ x, x ∈ l → FC P g (edD x :: cs) (.bool (p x)) []) → FC P (F "slices.IndexFunc.E") [.lst 3 (eds l), .clo g cs] (.int .i64 (idx p l 0)) []
def K_slices_ContainsFunc_I : Prop := ∀ (l : List Int), l.length ≤ maxL → ∀ (g : Nat) (cs : List D), cs.all okC2 = true → ∀ p : Int → Bool, (∀ x, x ∈ l → FC P g (.int .i64 x :: cs) (.bool (p x)) []) → FC P (F "slices.ContainsFunc.I") [.lst 1 (ints l), .clo g cs] (.bool (l.any p)) []
def K_slices_ContainsFunc_E : Prop := ∀ (l : List E), l.length ≤ maxL → ∀ (g : Nat) (cs : List D), cs.all okC2 = true → ∀ p : E → Bool, (∀ x, x ∈ l → FC P g (edD x :: cs) (.bool (p x)) []) → FC P (F "slices.ContainsFunc.E") [.lst 3 (eds l), .clo g cs] (.bool (l.any p)) []
def K_graph_Valid_1 : Prop := ∀ x : Int, FC P (F "graph.Valid.1") [.int .i64 x] (.bool (!decide (0 ≤ x ∧ x ≤ 99))) []
def K_graph_Valid_2 : Prop := ∀ (x : E) (ns : List Int) (es : List E), ns.length ≤ 1000000 → FC P (F "graph.Valid.2") [edD x, .ref [.lst 1 (ints ns), .lst 3 (eds es)]] (.bool (!fitsE ns.length x)) []
def K_graph_Valid : Prop := ∀ g : G, FC P (F "graph.Valid") [gD g] (.int .i64 (validG g)) []
theorem _root_.Go.Am.gt_mem {α : Type} [Inhabited α] {l : List α} {j : Int} (h0 : 0 ≤ j) (h : j < l.length) : gt l j ∈ l := List.mem_of_getElem? (get_gt h0 h)
def K_slices_Contains_I : Prop := ∀ (l : List Int) (x : Int), l.length ≤ maxL → FC P (F "slices.Contains.I") [.lst 1 (ints l), .int .i64 x] (.bool (decide (x ∈ l))) []
end
section
variable {P : Program} {F : String → Nat} {α : Type}
theorem idx_drop [Inhabited α] (p : α → Bool) (l : List α) (i : Nat) (h : i < l.length) : idx p (l.drop i) i = if p (gt l i) then (i : Int) else idx p (l.drop (i + 1)) ((i + 1 : Nat) : Int) := by
 rw [List.drop_eq_getElem_cons h, gt_nat h]; rfl
theorem idx_ge (p : α → Bool) : ∀ (l : List α) (i : Int), 0 ≤ i → (decide (0 ≤ idx p l i)) = l.any p
 | [], i, h => by simp [idx]
 | a :: l, i, h => by
  simp only [idx, List.any_cons]
  split
  ·rename_i ha; simp [ha, h]
  ·rename_i ha; rw [idx_ge p l (i + 1) (by omega)]; simp [ha]
theorem w_graph_within (n m : Int) : W P (c_graph_within F) (Done [.t 4] [] (.bool (decide (0 ≤ n ∧ n ≤ m))) []) (init [.int .i64 n, .int .i64 m]) := by
 refine W_of ?_
 simp (disch := omega) only [go_sem, ↓reduceIte]
 refine bran_dec (fun h => ?_) (fun h => ?_)
 ·simp (disch := omega) only [go_sem, ↓reduceIte, h]
 ·simp (disch := omega) only [go_sem, ↓reduceIte, h]
theorem w_graph_fits (h : K_graph_within P F) (x : E) (n : Int) (hn : 0 ≤ n ∧ n ≤ 1000000) : W P (c_graph_fits F) (Done [.t 4] [] (.bool (fitsE n x)) []) (init [edD x, .int .i64 n]) := by
 refine W_of ?_
 simp (disch := omega) only [go_sem, ↓reduceIte, edD]
 refine call_by (h _ _) ?_
 simp (disch := omega) only [go_sem, ↓reduceIte]
 refine bran_dec (fun h1 => ?_) (fun h1 => ?_)
 ·simp (disch := omega) only [go_sem, ↓reduceIte, h1]
  refine call_by (h _ _) ?_
  simp (disch := omega) only [go_sem, ↓reduceIte, h1]
  refine bran_dec (fun h2 => ?_) (fun h2 => ?_)
  ·simp (disch := omega) only [go_sem, ↓reduceIte, h2]
   refine call_by (h _ _) ?_
   simp (disch := omega) only [go_sem, ↓reduceIte, h2]
   simp [fitsE, h1, h2]
  ·simp (disch := omega) only [go_sem, ↓reduceIte, h2]
   simp [fitsE, h1, h2]
 ·simp (disch := omega) only [go_sem, ↓reduceIte, h1]
  simp [fitsE, h1]
theorem w_slices_Index_I (l : List Int) (x : Int) (hl : l.length ≤ maxL) : W P (c_slices_Index_I F) (Done [.t 4] [] (.int .i64 (idx (fun y => decide (x = y)) l 0)) []) (init [.lst 1 (ints l), .int .i64 x]) := by
 refine W_of ?_
 unfold maxL at hl
 simp (disch := omega) only [go_sem, ↓reduceIte]
 refine W_loop (fun i : Nat => ⟨[(0, .lst 1 (ints l)), (1, .int .i64 x), (7, .int .i64 l.length), (8, .int .i64 i)], [], 0⟩) (fun i => i ≤ l.length ∧ idx (fun y => decide (x = y)) l 0 = idx (fun y => decide (x = y)) (l.drop i) i) (fun i => l.length - i) 0 ?_ ?_ ?_
 ·simp (disch := omega) only [go_sem, ↓reduceIte]
  rfl
 ·simp
 ·intro i hi
  simp (disch := omega) only [go_sem, ↓reduceIte, c_slices_Index_I_b7]
  refine bran_dec (fun h => ?_) (fun h => ?_)
  ·have hd := idx_drop (fun y => decide (x = y)) l i (by omega)
   simp (disch := omega) only [go_sem, ↓reduceIte]
   refine bran_dec (fun h2 => ?_) (fun h2 => ?_)
   ·simp (disch := omega) only [go_sem, ↓reduceIte]
    rw [hi.2, hd, if_pos (by simpa using h2)]
   ·simp (disch := omega) only [go_sem, ↓reduceIte]
    exact ⟨i + 1, by simp, ⟨by omega, by rw [hi.2, hd, if_neg (by simpa using h2)]⟩, by omega⟩
  ·simp (disch := omega) only [go_sem, ↓reduceIte]
   rw [hi.2, List.drop_of_length_le (by omega)]
   rfl
theorem w_slices_Contains_I (hi : K_slices_Index_I P F) (l : List Int) (x : Int) (hl : l.length ≤ maxL) : W P (c_slices_Contains_I F) (Done [.t 4] [] (.bool (decide (x ∈ l))) []) (init [.lst 1 (ints l), .int .i64 x]) := by
 refine W_of ?_
 simp (disch := omega) only [go_sem, ↓reduceIte]
 refine call_by (hi l x hl) ?_
 simp (disch := omega) only [go_sem, ↓reduceIte]
 rw [idx_ge _ _ _ (by omega)]
 simp [List.any_eq]
theorem w_slices_IndexFunc_I (l : List Int) (hl : l.length ≤ maxL) (g : Nat) (cs : List D) (hcs : cs.all okC2 = true) (p : Int → Bool) (hg : ∀ x, x ∈ l → FC P g (.int .i64 x :: cs) (.bool (p x)) []) : W P (c_slices_IndexFunc_I F) (Done [.t 4] [] (.int .i64 (idx p l 0)) []) (init [.lst 1 (ints l), .clo g cs]) := by
 refine W_of ?_
 unfold maxL at hl
 have e1 := caps_lend2 hcs
 have e2 := caps_ren hcs
 simp (disch := omega) only [go_sem, ↓reduceIte]
 refine W_loop (fun i : Nat => ⟨[(0, .lst 1 (ints l)), (1, .clo g cs), (7, .int .i64 l.length), (8, .int .i64 i)], [], 0⟩) (fun i => i ≤ l.length ∧ idx p l 0 = idx p (l.drop i) i) (fun i => l.length - i) 0 ?_ ?_ ?_
 ·simp (disch := omega) only [go_sem, ↓reduceIte, e2]
  rfl
 ·simp
 ·intro i hi
  simp (disch := omega) only [go_sem, ↓reduceIte, c_slices_IndexFunc_I_b7]
  refine bran_dec (fun h => ?_) (fun h => ?_)
  ·have hd := idx_drop p l i (by omega)
   simp (disch := omega) only [go_sem, ↓reduceIte, e1]
   refine call_by (hg _ (gt_mem (by omega) h)) ?_
   simp (disch := omega) only [go_sem, ↓reduceIte]
   refine bran_by (fun h2 => ?_) (fun h2 => ?_)
   ·simp (disch := omega) only [go_sem, ↓reduceIte]
    rw [hi.2, hd, if_pos h2]
   ·simp (disch := omega) only [go_sem, ↓reduceIte, e2]
    exact ⟨i + 1, by simp, ⟨by omega, by rw [hi.2, hd, if_neg (by simp [h2])]⟩, by omega⟩
  ·simp (disch := omega) only [go_sem, ↓reduceIte]
   rw [hi.2, List.drop_of_length_le (by omega)]
   rfl
theorem w_slices_IndexFunc_E (l : List E) (hl : l.length ≤ maxL) (g : Nat) (cs : List D) (hcs : cs.all okC2 = true) (p : E → Bool) (hg : ∀ x, x ∈ l → FC P g (edD x :: cs) (.bool (p x)) []) : W P (c_slices_IndexFunc_E F) (Done [.t 4] [] (.int .i64 (idx p l 0)) []) (init [.lst 3 (eds l), .clo g cs]) := by
 refine W_of ?_
 unfold maxL at hl
 have e1 := caps_lend2 hcs
 have e2 := caps_ren hcs
 simp (disch := omega) only [go_sem, ↓reduceIte]
 refine W_loop (fun i : Nat => ⟨[(0, .lst 3 (eds l)), (1, .clo g cs), (7, .int .i64 l.length), (8, .int .i64 i)], [], 0⟩) (fun i => i ≤ l.length ∧ idx p l 0 = idx p (l.drop i) i) (fun i => l.length - i) 0 ?_ ?_ ?_
 ·simp (disch := omega) only [go_sem, ↓reduceIte, e2]
  rfl
 ·simp
 ·intro i hi
  simp (disch := omega) only [go_sem, ↓reduceIte, c_slices_IndexFunc_E_b7]
  refine bran_dec (fun h => ?_) (fun h => ?_)
  ·have hd := idx_drop p l i (by omega)
   simp (disch := omega) only [go_sem, ↓reduceIte, e1]
   refine call_by (hg _ (gt_mem (by omega) h)) ?_
   simp (disch := omega) only [go_sem, ↓reduceIte]
   refine bran_by (fun h2 => ?_) (fun h2 => ?_)
   ·simp (disch := omega) only [go_sem, ↓reduceIte]
    rw [hi.2, hd, if_pos h2]
   ·simp (disch := omega) only [go_sem, ↓reduceIte, e2]
    exact ⟨i + 1, by simp, ⟨by omega, by rw [hi.2, hd, if_neg (by simp [h2])]⟩, by omega⟩
  ·simp (disch := omega) only [go_sem, ↓reduceIte]
   rw [hi.2, List.drop_of_length_le (by omega)]
   rfl
theorem w_slices_ContainsFunc_I (hi : K_slices_IndexFunc_I P F) (l : List Int) (hl : l.length ≤ maxL) (g : Nat) (cs : List D) (hcs : cs.all okC2 = true) (p : Int → Bool) (hg : ∀ x, x ∈ l → FC P g (.int .i64 x :: cs) (.bool (p x)) []) : W P (c_slices_ContainsFunc_I F) (Done [.t 4] [] (.bool (l.any p)) []) (init [.lst 1 (ints l), .clo g cs]) := by
 refine W_of ?_
 simp (disch := omega) only [go_sem, ↓reduceIte, caps_lend hcs]
 refine call_by (hi l hl g cs hcs p hg) ?_
 simp (disch := omega) only [go_sem, ↓reduceIte]
 rw [idx_ge _ _ _ (by omega)]
theorem w_slices_ContainsFunc_E (hi : K_slices_IndexFunc_E P F) (l : List E) (hl : l.length ≤ maxL) (g : Nat) (cs : List D) (hcs : cs.all okC2 = true) (p : E → Bool) (hg : ∀ x, x ∈ l → FC P g (edD x :: cs) (.bool (p x)) []) : W P (c_slices_ContainsFunc_E F) (Done [.t 4] [] (.bool (l.any p)) []) (init [.lst 3 (eds l), .clo g cs]) := by
 refine W_of ?_
 simp (disch := omega) only [go_sem, ↓reduceIte, caps_lend hcs]
 refine call_by (hi l hl g cs hcs p hg) ?_
 simp (disch := omega) only [go_sem, ↓reduceIte]
 rw [idx_ge _ _ _ (by omega)]
theorem w_graph_Valid_1 (h : K_graph_within P F) (x : Int) : W P (c_graph_Valid_1 F) (Done [.t 2] [] (.bool (!decide (0 ≤ x ∧ x ≤ 99))) []) (init [.int .i64 x]) := by
 refine W_of ?_
 simp (disch := omega) only [go_sem, ↓reduceIte]
 refine call_by (h _ _) ?_
 simp (disch := omega) only [go_sem, ↓reduceIte]
theorem w_graph_Valid_2 (h : K_graph_fits P F) (x : E) (ns : List Int) (es : List E) (hn : ns.length ≤ 1000000) : W P (c_graph_Valid_2 F) (Done [.t 3] [] (.bool (!fitsE ns.length x)) []) (init [edD x, .ref [.lst 1 (ints ns), .lst 3 (eds es)]]) := by
 refine W_of ?_
 simp (disch := omega) only [go_sem, ↓reduceIte, edD]
 refine call_by (h _ _ (by omega)) ?_
 simp (disch := omega) only [go_sem, ↓reduceIte]
theorem w_graph_Valid (h1 : K_slices_ContainsFunc_I P F) (h2 : K_slices_ContainsFunc_E P F) (hv1 : K_graph_Valid_1 P F) (hv2 : K_graph_Valid_2 P F) (g : G) : W P (c_graph_Valid F) (Done [.t 2] [] (.int .i64 (validG g)) []) (init [gD g]) := by
 refine W_of ?_
 obtain ⟨ns, es⟩ := g
 simp (disch := omega) only [go_sem, ↓reduceIte, gD]
 refine bran_dec (fun a1 => ?_) (fun a1 => ?_)
 ·simp (disch := omega) only [go_sem, ↓reduceIte, a1]
  simp [validG]
  omega
 ·simp (disch := omega) only [go_sem, ↓reduceIte, a1]
  refine bran_dec (fun a2 => ?_) (fun a2 => ?_)
  ·simp (disch := omega) only [go_sem, ↓reduceIte]
   simp [validG]
   omega
  ·simp (disch := omega) only [go_sem, ↓reduceIte]
   refine call_by (h1 ns (by unfold maxL; omega) _ [] rfl _ (fun x _ => hv1 x)) ?_
   simp (disch := omega) only [go_sem, ↓reduceIte]
   refine bran_by (fun a3 => ?_) (fun a3 => ?_)
   ·simp (disch := omega) only [go_sem, ↓reduceIte]
    have e : ns.all okN = false := by
     rw [← Bool.not_eq_true, List.all_eq_true]
     rw [List.any_eq_true] at a3
     obtain ⟨x, hx, hp⟩ := a3
     exact fun h => by have := h x hx; simp [okN] at this hp; omega
    simp [validG, a1, a2, e]; omega
   ·have e : ns.all okN = true := by
     rw [List.all_eq_true]
     rw [List.any_eq_false] at a3
     exact fun x hx => by have := a3 x hx; simpa [okN] using this
    simp (disch := omega) only [go_sem, ↓reduceIte]
    refine call_by (h2 es (by unfold maxL; omega) _ _ rfl _ (fun x _ => hv2 x ns es (by omega))) ?_
    simp (disch := omega) only [go_sem, ↓reduceIte]
    refine bran_by (fun a4 => ?_) (fun a4 => ?_)
    ·simp (disch := omega) only [go_sem, ↓reduceIte]
     have e2 : es.all (fitsE ns.length) = false := by
      rw [← Bool.not_eq_true, List.all_eq_true]
      rw [List.any_eq_true] at a4
      obtain ⟨x, hx, hp⟩ := a4
      exact fun h => by have := h x hx; simp [this] at hp
     simp [validG, a1, a2, e, e2]; omega
    ·simp (disch := omega) only [go_sem, ↓reduceIte]
     have e2 : es.all (fitsE ns.length) = true := by
      rw [List.all_eq_true]
      rw [List.any_eq_false] at a4
      exact fun x hx => by have := a4 x hx; simpa using this
     simp [validG, a1, a2, e, e2]; omega
end
@[go_sem] def c_graph_numbers_r0 : LL := [qn 4 1]
@[go_sem] def c_graph_numbers_r1 : LL := [qn 5 1]
@[go_sem] def c_graph_numbers_r2 : LL := [qm 7 1,qi 8 0]
@[go_sem] def c_graph_numbers_r3 : LL := [qo .lss 9 8 7]
@[go_sem] def c_graph_numbers_r4 : LL := [qm 10 8,qm 6 10]
@[go_sem] def c_graph_numbers_r5 : LL := [qm 11 5,qm 12 0,qm 13 6,qo .add 14 12 13,⟨some 15,.buildSl 1 8 (.int .i64 (0)) 1 [(0,.t 14)],none⟩,qp 16 1 8 11 15,qm 5 16]
@[go_sem] def c_graph_numbers_r6 : LL := [qk .add 17 8 1,qm 8 17]
def c_graph_numbers_b7 : LC := (.seq (.reg c_graph_numbers_r3 [0,5,7,8,9]) (.seq (.cond (.t 9) .skip (.exit 0)) (.seq (.block 1 (.seq (.reg c_graph_numbers_r4 [0,5,6,7,8]) (.reg c_graph_numbers_r5 [0,5,7,8]))) (.reg c_graph_numbers_r6 [0,5,7,8]))))
@[go_sem] def c_graph_numbers_r8 : LL := [qm 18 5,qm 4 18]
@[go_sem] def c_graph_numbers (F : Fn) : LC := (.seq (.reg c_graph_numbers_r0 [0,1]) (.seq (.reg c_graph_numbers_r1 [0,1,5]) (.seq (.seq (.reg c_graph_numbers_r2 [0,5,7,8]) (.block 0 (.loop [0,5,7,8] c_graph_numbers_b7))) (.seq (.reg c_graph_numbers_r8 [4]) .ret))))
def h_graph_numbers : Hints := hOf [] (c_graph_numbers fun _ => 0)
@[go_sem] def c_r05_Copied_r0 : LL := [qB 1 0,qa 2 [.nl 1,.nl 3]]
@[go_sem] def c_r05_Copied_r1 : LL := [⟨some 3,.buildSl 1 8 (.int .i64 (0)) 0 [],none⟩,qf 4 0 1,ql 5 1 4,qp 6 1 8 3 5,⟨some 7,.buildSl 3 24 (.agg [.int .i64 (0),.int .i64 (0),.int .i64 (0)]) 0 [],none⟩,qf 8 1 1,
 ql 9 1 8,qp 10 3 24 7 9,qu 11 [.nl 1,.nl 3] [(0,1,.t 6),(1,1,.t 10)],qs 2 2 11]
@[go_sem] def c_r05_Copied (F : Fn) : LC := (.seq (.reg c_r05_Copied_r0 [1,2]) (.seq (.dreg [(2,(some 2),[],false),(3,none,[],true),(6,(some 32),[3],false)] c_r05_Copied_r1 [2]) .ret))
def h_r05_Copied : Hints := hOf [] (c_r05_Copied fun _ => 0)
@[go_sem] def c_r05_SameInts_r0 : LL := [qb 4 false]
@[go_sem] def c_r05_SameInts_r1 : LL := [qm 6 0,qz 7 6,qm 8 1,qz 9 8,qo .neq 10 7 9]
@[go_sem] def c_r05_SameInts_r2 : LL := [qb 4 false]
@[go_sem] def c_r05_SameInts_r3 : LL := [qi 5 0]
@[go_sem] def c_r05_SameInts_r4 : LL := [qm 11 5,qm 12 0,qz 13 12,qo .lss 14 11 13]
@[go_sem] def c_r05_SameInts_r5 : LL := [qm 17 0,qm 18 5,qd 19 1 17 18,ql 20 1 19,qm 21 1,qm 22 5,qd 23 1 21 22,ql 24 1 23,qo .neq 25 20 24]
@[go_sem] def c_r05_SameInts_r6 : LL := [qb 4 false]
@[go_sem] def c_r05_SameInts_r7 : LL := [qm 15 5,qk .add 16 15 1,qm 5 16]
def c_r05_SameInts_b8 : LC := (.seq (.seq (.reg c_r05_SameInts_r4 [0,1,5,14]) (.cond (.t 14) .skip (.exit 0))) (.seq (.block 1 (.seq (.dreg [] c_r05_SameInts_r5 [0,1,5,25]) (.cond (.t 25) (.seq (.reg c_r05_SameInts_r6 [4]) .ret) .skip))) (.reg c_r05_SameInts_r7 [0,1,5])))
@[go_sem] def c_r05_SameInts_r9 : LL := [qb 4 true]
@[go_sem] def c_r05_SameInts (F : Fn) : LC := (.seq (.reg c_r05_SameInts_r0 [0,1]) (.seq (.seq (.reg c_r05_SameInts_r1 [0,1,10]) (.cond (.t 10) (.seq (.reg c_r05_SameInts_r2 [4]) .ret) .skip)) (.seq (.seq (.reg c_r05_SameInts_r3 [0,1,5]) (.block 0 (.loop [0,1,5] c_r05_SameInts_b8))) (.seq (.reg c_r05_SameInts_r9 [4]) .ret))))
def h_r05_SameInts : Hints := hn [] [(0,[0,1]),(1,[0,1,10]),(2,[4]),(3,[0,1,5]),(4,[0,1,5,14]),(5,[0,1,5]),(6,[0,1,5,25]),(7,[4]),(8,[4])] [(4,[0,1,5])]
def leO (x : Int) : Option Int → Bool
 | some q => decide (x ≤ q)
 | none => false
def ascG (n : Int) : Option Int → List Int → Int
 | _, [] => 0
 | p, x :: l => if 0 ≤ x ∧ x ≤ n - 1 then (if leO x p = true then 12 else ascG n (some x) l) else 6
def nums (f : Int) (n : Nat) : List Int := (List.range n).map fun i : Nat => f + (i : Int)
structure Mo where
 n : List Int
 e : List Int
 deriving DecidableEq, Inhabited
def mD (m : Mo) : D := .agg [.lst 1 (ints m.n), .lst 1 (ints m.e)]
def mA (m : Mo) : D := .agg [.arr 1 (ints m.n), .arr 1 (ints m.e)]
section
variable (P : Program) (F : String → Nat)
def K_graph_numbers : Prop := ∀ (f : Int) (n : Nat), 0 ≤ f → f ≤ 1000000 → n ≤ 1000000 → FC P (F "graph.numbers") [.int .i64 f, .int .i64 n] (.arr 1 (ints (nums f n))) []
def K_r05_Copied : Prop := ∀ g : G, g.n.length ≤ 1000000 → g.e.length ≤ 1000000 → FC P (F "r05.Copied") [gD g] (gA g) []
def K_r05_SameInts : Prop := ∀ a b : List Int, a.length ≤ maxL → FC P (F "r05.SameInts") [.lst 1 (ints a), .lst 1 (ints b)] (.bool (decide (a = b))) []
def K_slices_Equal_I : Prop := ∀ a b : List Int, a.length ≤ maxL → FC P (F "slices.Equal.I") [.lst 1 (ints a), .lst 1 (ints b)] (.bool (decide (a = b))) []
def K_r05_Same : Prop := ∀ a b : G, a.n.length ≤ maxL → a.e.length ≤ maxL → FC P (F "r05.Same") [gD a, gD b] (.bool (decide (a = b))) []
end
section
variable {P : Program} {F : String → Nat} {α : Type}
theorem drop_gt [Inhabited α] {l : List α} {i : Nat} (h : i < l.length) : l.drop i = gt l i :: l.drop (i + 1) := by
 rw [List.drop_eq_getElem_cons h, gt_nat h]
theorem take_gt [Inhabited α] {l : List α} {i : Nat} (h : i < l.length) : l.take (i + 1) = l.take i ++ [gt l i] := by
 rw [List.take_succ_eq_append_getElem h, gt_nat h]
theorem nums_succ (f : Int) (n : Nat) : nums f (n + 1) = nums f n ++ [f + n] := by simp [nums, List.range_succ]
theorem nums_len (f : Int) (n : Nat) : (nums f n).length = n := by simp [nums]
theorem nums_zero (f : Int) : nums f 0 = [] := by simp [nums]
def prevO (l : List Int) (i : Nat) : Option Int := if i = 0 then none else some (gt l ((i : Int) - 1))
theorem prevO_succ (l : List Int) (i : Nat) : prevO l (i + 1) = some (gt l i) := by
 simp only [prevO]; rw [if_neg (by omega)]; congr 2; omega
theorem asc_step (n : Int) (l : List Int) (i : Nat) (h : i < l.length) : ascG n (prevO l i) (l.drop i) =
  if 0 ≤ gt l i ∧ gt l i ≤ n - 1 then (if 0 < i ∧ gt l i ≤ gt l ((i : Int) - 1) then 12 else ascG n (prevO l (i + 1)) (l.drop (i + 1))) else 6 := by
 rw [drop_gt h, prevO_succ]
 simp only [ascG, prevO]
 by_cases h0 : i = 0
 ·simp [h0, leO]
 ·simp [h0, leO, Nat.pos_of_ne_zero h0]
theorem w_graph_numbers (f : Int) (n : Nat) (h0 : 0 ≤ f) (h1 : f ≤ 1000000) (h2 : n ≤ 1000000) : W P (c_graph_numbers F) (Done [.t 4] [] (.arr 1 (ints (nums f n))) []) (init [.int .i64 f, .int .i64 n]) := by
 refine W_of ?_
 simp (disch := omega) only [go_sem, ↓reduceIte]
 refine W_loop (fun i : Nat => ⟨[(0, .int .i64 f), (5, .sl 0 0 i), (7, .int .i64 n), (8, .int .i64 i)], [(0, .arr 1 (ints (nums f i)))], 1⟩) (fun i => i ≤ n) (fun i => n - i) 0 ?_ ?_ ?_
 ·simp (disch := omega) only [go_sem, ↓reduceIte, nums_zero, ints_nil]
  rfl
 ·omega
 ·intro i hi
  have e1 := nums_len f i
  simp (disch := omega) only [go_sem, ↓reduceIte, c_graph_numbers_b7]
  refine bran_dec (fun a => ?_) (fun a => ?_)
  ·simp (disch := omega) only [go_sem, ↓reduceIte, e1]
   exact ⟨i + 1, by simp [nums_succ], by omega, by omega⟩
  ·obtain rfl : i = n := by omega
   simp (disch := omega) only [go_sem, ↓reduceIte, e1]
theorem w_r05_Copied (g : G) (h0 : g.n.length ≤ 1000000) (h1 : g.e.length ≤ 1000000) : W P (c_r05_Copied F) (Done [.c 2 true 2] [] (gA g) []) (init [gD g]) := by
 refine W_of ?_
 obtain ⟨ns, es⟩ := g
 simp only at h0 h1
 simp (disch := omega) only [go_sem, ↓reduceIte, gD, gA]
theorem w_r05_SameInts (a b : List Int) (hl : a.length ≤ maxL) : W P (c_r05_SameInts F) (Done [.t 4] [] (.bool (decide (a = b))) []) (init [.lst 1 (ints a), .lst 1 (ints b)]) := by
 refine W_of ?_
 unfold maxL at hl
 simp (disch := omega) only [go_sem, ↓reduceIte]
 refine bran_ndec (fun h => ?_) (fun h => ?_)
 ·simp (disch := omega) only [go_sem, ↓reduceIte]
  have : a ≠ b := fun e => h (by rw [e])
  simp [this]
 ·have h' : a.length = b.length := by omega
  simp (disch := omega) only [go_sem, ↓reduceIte]
  refine W_loop (fun i : Nat => ⟨[(0, .lst 1 (ints a)), (1, .lst 1 (ints b)), (5, .int .i64 i)], [], 0⟩) (fun i => i ≤ a.length ∧ a.take i = b.take i) (fun i => a.length - i) 0 ?_ ?_ ?_
  ·simp (disch := omega) only [go_sem, ↓reduceIte]
   rfl
  ·simp
  ·intro i hi
   simp (disch := omega) only [go_sem, ↓reduceIte, c_r05_SameInts_b8]
   refine bran_dec (fun c => ?_) (fun c => ?_)
   ·simp (disch := omega) only [go_sem, ↓reduceIte]
    refine bran_ndec (fun d => ?_) (fun d => ?_)
    ·simp (disch := omega) only [go_sem, ↓reduceIte]
     have : a ≠ b := fun e => d (by rw [e])
     simp [this]
    ·simp (disch := omega) only [go_sem, ↓reduceIte]
     exact ⟨i + 1, by simp, ⟨by omega, by rw [take_gt (by omega), take_gt (by omega), hi.2, d]⟩, by omega⟩
   ·simp (disch := omega) only [go_sem, ↓reduceIte]
    obtain rfl : i = a.length := by omega
    have := hi.2
    rw [List.take_length, List.take_of_length_le (by omega)] at this
    simp [this]
end
@[go_sem] def c_r05_Same_r0 : LL := [qB 2 0,qB 3 1,qb 4 false]
@[go_sem] def c_r05_Same_r1 (F : Fn) : LL := [qf 6 0 2,ql 7 1 6,qf 8 0 3,ql 9 1 8,qc 10 (F "r05.SameInts") [.t 7,.t 9],qv 11 10,qm 12 11,qg 12 false (qf 13 1 2),qg 12 false (ql 14 1 13),qg 12 false (qz 15 14),qg 12 false (qf 16 1 3),
 qg 12 false (ql 17 1 16),qg 12 false (qz 18 17),qg 12 false (qo .neq 19 15 18),qQ 20 12 19]
@[go_sem] def c_r05_Same_r2 : LL := [qb 4 false]
@[go_sem] def c_r05_Same_r3 : LL := [qi 5 0]
@[go_sem] def c_r05_Same_r4 : LL := [qm 21 5,qf 22 1 2,ql 23 1 22,qz 24 23,qo .lss 25 21 24]
@[go_sem] def c_r05_Same_r5 : LL := [qf 28 1 2,ql 29 1 28,qm 30 5,qd 31 3 29 30,qL 32 3 31,qf 33 1 3,ql 34 1 33,qm 35 5,qd 36 3 34 35,qL 37 3 36,⟨some 38,.eqA 3 true (.t 32) (.t 37),none⟩]
@[go_sem] def c_r05_Same_r6 : LL := [qb 4 false]
@[go_sem] def c_r05_Same_r7 : LL := [qm 26 5,qk .add 27 26 1,qm 5 27]
def c_r05_Same_b8 : LC := (.seq (.seq (.reg c_r05_Same_r4 [2,3,5,25]) (.cond (.t 25) .skip (.exit 0))) (.seq (.block 1 (.seq (.dreg [] c_r05_Same_r5 [2,3,5,38]) (.cond (.t 38) (.seq (.reg c_r05_Same_r6 [4]) .ret) .skip))) (.reg c_r05_Same_r7 [2,3,5])))
@[go_sem] def c_r05_Same_r9 : LL := [qb 4 true]
@[go_sem] def c_r05_Same (F : Fn) : LC := (.seq (.reg c_r05_Same_r0 [2,3]) (.seq (.seq (.reg (c_r05_Same_r1 F) [2,3,20]) (.cond (.t 20) (.seq (.reg c_r05_Same_r2 [4]) .ret) .skip)) (.seq (.seq (.reg c_r05_Same_r3 [2,3,5]) (.block 0 (.loop [2,3,5] c_r05_Same_b8))) (.seq (.reg c_r05_Same_r9 [4]) .ret))))
def h_r05_Same : Hints := hn [] [(0,[2,3]),(1,[2,3,20]),(2,[4]),(3,[2,3,5]),(4,[2,3,5,25]),(5,[2,3,5]),(6,[2,3,5,38]),(7,[4]),(8,[4])] [(4,[2,3,5])]
@[go_sem] def c_slices_Equal_I_r0 : LL := [qb 4 false]
@[go_sem] def c_slices_Equal_I_r1 : LL := [qm 6 0,qz 7 6,qm 8 1,qz 9 8,qo .neq 10 7 9]
@[go_sem] def c_slices_Equal_I_r2 : LL := [qb 4 false]
@[go_sem] def c_slices_Equal_I_r3 : LL := [qm 11 0,qz 12 11,qi 13 0]
@[go_sem] def c_slices_Equal_I_r4 : LL := [qo .lss 14 13 12]
@[go_sem] def c_slices_Equal_I_r5 : LL := [qm 15 13,qm 5 15]
@[go_sem] def c_slices_Equal_I_r6 : LL := [qm 16 0,qm 17 5,qd 18 1 16 17,ql 19 1 18,qm 20 1,qm 21 5,qd 22 1 20 21,ql 23 1 22,qo .neq 24 19 23]
@[go_sem] def c_slices_Equal_I_r7 : LL := [qb 4 false]
@[go_sem] def c_slices_Equal_I_r8 : LL := [qk .add 25 13 1,qm 13 25]
def c_slices_Equal_I_b9 : LC := (.seq (.reg c_slices_Equal_I_r4 [0,1,12,13,14]) (.seq (.cond (.t 14) .skip (.exit 0)) (.seq (.block 1 (.seq (.reg c_slices_Equal_I_r5 [0,1,5,12,13]) (.seq (.dreg [] c_slices_Equal_I_r6 [0,1,12,13,24]) (.cond (.t 24) (.seq (.reg c_slices_Equal_I_r7 [4]) .ret) .skip)))) (.reg c_slices_Equal_I_r8 [0,1,12,13]))))
@[go_sem] def c_slices_Equal_I_r10 : LL := [qb 4 true]
@[go_sem] def c_slices_Equal_I (F : Fn) : LC := (.seq (.reg c_slices_Equal_I_r0 [0,1]) (.seq (.seq (.reg c_slices_Equal_I_r1 [0,1,10]) (.cond (.t 10) (.seq (.reg c_slices_Equal_I_r2 [4]) .ret) .skip)) (.seq (.seq (.reg c_slices_Equal_I_r3 [0,1,12,13]) (.block 0 (.loop [0,1,12,13] c_slices_Equal_I_b9))) (.seq (.reg c_slices_Equal_I_r10 [4]) .ret))))
def h_slices_Equal_I : Hints := hOf [] (c_slices_Equal_I fun _ => 0)
section
variable {P : Program} {F : String → Nat} {α : Type}
theorem eqE (a b : E) : a = b ↔ a.t = b.t ∧ a.f = b.f ∧ a.o = b.o := by
 cases a; cases b; simp
theorem asc_gt (n : Int) : ∀ (l : List Int) (p : Option Int), ascG n p l = 0 → (∀ x, x ∈ l → 0 ≤ x ∧ x ≤ n - 1) ∧ (∀ q, p = some q → ∀ x, x ∈ l → q < x) ∧ l.Pairwise (· < ·)
 | [], p, _ => by simp
 | x :: l, p, h => by
  simp only [ascG] at h
  split at h
  case isFalse => simp at h
  rename_i hx
  by_cases hp : leO x p = true
  ·rw [if_pos hp] at h; simp at h
  ·rw [if_neg hp] at h
   obtain ⟨h1, h2, h3⟩ := asc_gt n l (some x) h
   refine ⟨by simpa using ⟨hx, h1⟩, ?_, ?_⟩
   ·rintro q rfl y hy
    simp only [leO, decide_eq_true_eq] at hp
    rcases List.mem_cons.1 hy with rfl | hy
    ·omega
    ·have := h2 x rfl y hy; omega
   ·simpa using ⟨fun y hy => h2 x rfl y hy, h3⟩
theorem w_slices_Equal_I (a b : List Int) (hl : a.length ≤ maxL) : W P (c_slices_Equal_I F) (Done [.t 4] [] (.bool (decide (a = b))) []) (init [.lst 1 (ints a), .lst 1 (ints b)]) := by
 refine W_of ?_
 unfold maxL at hl
 simp (disch := omega) only [go_sem, ↓reduceIte]
 refine bran_ndec (fun h => ?_) (fun h => ?_)
 ·simp (disch := omega) only [go_sem, ↓reduceIte]
  have : a ≠ b := fun e => h (by rw [e])
  simp [this]
 ·have h' : a.length = b.length := by omega
  simp (disch := omega) only [go_sem, ↓reduceIte]
  refine W_loop (fun i : Nat => ⟨[(0, .lst 1 (ints a)), (1, .lst 1 (ints b)), (12, .int .i64 a.length), (13, .int .i64 i)], [], 0⟩) (fun i => i ≤ a.length ∧ a.take i = b.take i) (fun i => a.length - i) 0 ?_ ?_ ?_
  ·simp (disch := omega) only [go_sem, ↓reduceIte]
   rfl
  ·simp
  ·intro i hi
   simp (disch := omega) only [go_sem, ↓reduceIte, c_slices_Equal_I_b9]
   refine bran_dec (fun c => ?_) (fun c => ?_)
   ·simp (disch := omega) only [go_sem, ↓reduceIte]
    refine bran_ndec (fun d => ?_) (fun d => ?_)
    ·simp (disch := omega) only [go_sem, ↓reduceIte]
     have : a ≠ b := fun e => d (by rw [e])
     simp [this]
    ·simp (disch := omega) only [go_sem, ↓reduceIte]
     exact ⟨i + 1, by simp, ⟨by omega, by rw [take_gt (by omega), take_gt (by omega), hi.2, d]⟩, by omega⟩
   ·simp (disch := omega) only [go_sem, ↓reduceIte]
    obtain rfl : i = a.length := by omega
    have := hi.2
    rw [List.take_length, List.take_of_length_le (by omega)] at this
    simp [this]
theorem w_r05_Same (hs : K_r05_SameInts P F) (a b : G) (h1 : a.n.length ≤ maxL) (h2 : a.e.length ≤ maxL) : W P (c_r05_Same F) (Done [.t 4] [] (.bool (decide (a = b))) []) (init [gD a, gD b]) := by
 refine W_of ?_
 obtain ⟨an, ae⟩ := a
 obtain ⟨bn, be⟩ := b
 simp only at h1 h2
 simp (disch := omega) only [go_sem, ↓reduceIte, gD]
 refine call_by (hs _ _ h1) ?_
 simp (disch := omega) only [go_sem, ↓reduceIte]
 refine bran_ndec (fun c => ?_) (fun c => ?_)
 ·simp (disch := omega) only [go_sem, ↓reduceIte, c]
  simp [c]
 ·subst c
  simp (disch := omega) only [go_sem, ↓reduceIte]
  refine bran_ndec (fun d => ?_) (fun d => ?_)
  ·simp (disch := omega) only [go_sem, ↓reduceIte]
   have : ae ≠ be := fun e => d (by rw [e])
   simp [this]
  ·have d' : ae.length = be.length := by omega
   unfold maxL at h2
   simp (disch := omega) only [go_sem, ↓reduceIte]
   refine W_loop (fun i : Nat => ⟨[(2, .pt 0 0), (3, .pt 1 0), (5, .int .i64 i)], [(0, .box [.lst 1 (ints an), .lst 3 (eds ae)]), (1, .box [.lst 1 (ints an), .lst 3 (eds be)])], 2⟩) (fun i => i ≤ ae.length ∧ ae.take i = be.take i) (fun i => ae.length - i) 0 ?_ ?_ ?_
   ·simp (disch := omega) only [go_sem, ↓reduceIte]
    rfl
   ·simp
   ·intro i hi
    simp (disch := omega) only [go_sem, ↓reduceIte, c_r05_Same_b8]
    refine bran_dec (fun f => ?_) (fun f => ?_)
    ·have he : (decide ((gt ae i).t = (gt be i).t) && (decide ((gt ae i).f = (gt be i).f) && decide ((gt ae i).o = (gt be i).o))) = decide (gt ae i = gt be i) := by
      rw [Bool.eq_iff_iff]; simp [eqE]
     simp (disch := omega) only [go_sem, ↓reduceIte, he]
     refine bran_ndec (fun d2 => ?_) (fun d2 => ?_)
     ·simp (disch := omega) only [go_sem, ↓reduceIte]
      have : ae ≠ be := fun e => d2 (by rw [e])
      simp [this]
     ·simp (disch := omega) only [go_sem, ↓reduceIte]
      exact ⟨i + 1, by simp, ⟨by omega, by rw [take_gt (by omega), take_gt (by omega), hi.2, d2]⟩, by omega⟩
    ·simp (disch := omega) only [go_sem, ↓reduceIte]
     obtain rfl : i = ae.length := by omega
     have := hi.2
     rw [List.take_length, List.take_of_length_le (by omega)] at this
     simp [this]
end
def u8s (l : List Int) : List D := l.map fun x => .int .u8 x
def trs (l : List E) : List D := l.map fun x => .agg [.int .u8 x.t, .int .u8 x.f, .int .u8 x.o]
theorem u8s_length (l : List Int) : (u8s l).length = l.length := by simp [u8s]
theorem trs_length (l : List E) : (trs l).length = l.length := by simp [trs]
theorem u8s_atn {l : List Int} {i : Nat} (h : i < l.length) : (u8s l)[i]? = some (.int .u8 (gt l (i : Int))) := by
 rw [gt_nat h]; simp [u8s, h]
theorem trs_atn {l : List E} {i : Nat} (h : i < l.length) : (trs l)[i]? = some (.agg [.int .u8 (gt l (i : Int)).t, .int .u8 (gt l (i : Int)).f, .int .u8 (gt l (i : Int)).o]) := by
 rw [gt_nat h]; simp [trs, h]
theorem flat_u8s (l : List Int) : (u8s l).all D.flatE = true := by simp [u8s, D.flatE, D.flat0]
theorem flat_trs (l : List E) : (trs l).all D.flatE = true := by simp [trs, D.flatE, D.flat0]
attribute [go_sem] u8s_length trs_length u8s_atn trs_atn flat_u8s flat_trs
structure Dr where
 n : List Int
 e : List E
 deriving DecidableEq, Inhabited
def Byte (x : Int) : Prop := 0 ≤ x ∧ x ≤ 255
def Dr.ok (x : Dr) : Prop := (∀ v ∈ x.n, Byte v) ∧ ∀ v ∈ x.e, Byte v.t ∧ Byte v.f ∧ Byte v.o
section
variable (P : Program) (F : String → Nat)
end
def Mo.sm (m : Mo) : Prop := m.n.length ≤ maxL ∧ m.e.length ≤ maxL
section
variable {P : Program} {F : String → Nat} {α : Type}
theorem valid_spec {g : G} (h : validG g = 0) : g.n.length ≤ 40 ∧ g.e.length ≤ 80 ∧ (∀ x, x ∈ g.n → okN x = true) ∧ ∀ x, x ∈ g.e → fitsE g.n.length x = true := by
 unfold validG at h
 split at h
 ·simp at h
 ·rename_i h1
  split at h
  ·rename_i h2
   simp only [Bool.and_eq_true, List.all_eq_true] at h2
   exact ⟨by omega, by omega, h2.1, h2.2⟩
  ·simp at h
theorem fits_spec {n : Int} {x : E} (h : fitsE n x = true) : (0 ≤ x.t ∧ x.t ≤ 99) ∧ (0 ≤ x.f ∧ x.f < n) ∧ (0 ≤ x.o ∧ x.o < n) := by
 simp only [fitsE, Bool.and_eq_true, decide_eq_true_eq] at h
 omega
theorem fits_mk {n : Int} {x : E} (h1 : 0 ≤ x.t ∧ x.t ≤ 99) (h2 : 0 ≤ x.f ∧ x.f < n) (h3 : 0 ≤ x.o ∧ x.o < n) : fitsE n x = true := by
 simp only [fitsE, Bool.and_eq_true, decide_eq_true_eq]
 omega
end
@[go_sem] def c_morphism_Valid_r0 : LL := [qB 3 0,qB 4 1,qB 5 2,qi 6 0]
@[go_sem] def c_morphism_Valid_r1 (F : Fn) : LL := [qL 15 2 3,qc 16 (F "graph.Valid") [.t 15],qm 7 16]
@[go_sem] def c_morphism_Valid_r2 : LL := [qm 17 7,qk .neq 18 17 0]
@[go_sem] def c_morphism_Valid_r3 : LL := [qm 19 7,qm 6 19]
@[go_sem] def c_morphism_Valid_r4 (F : Fn) : LL := [qL 20 2 4,qc 21 (F "graph.Valid") [.t 20],qm 8 21]
@[go_sem] def c_morphism_Valid_r5 : LL := [qm 22 8,qk .neq 23 22 0]
@[go_sem] def c_morphism_Valid_r6 : LL := [qm 24 8,qm 6 24]
@[go_sem] def c_morphism_Valid_r7 : LL := [qf 25 0 5,ql 26 1 25,qz 27 26,qf 28 0 3,ql 29 1 28,qz 30 29,qo .neq 31 27 30,qm 32 31,qg 32 false (qf 33 1 5),qg 32 false (ql 34 1 33),qg 32 false (qz 35 34),
 qg 32 false (qf 36 1 3),qg 32 false (ql 37 1 36),qg 32 false (qz 38 37),qg 32 false (qo .neq 39 35 38),qQ 40 32 39]
@[go_sem] def c_morphism_Valid_r8 : LL := [qi 6 20]
@[go_sem] def c_morphism_Valid_r9 : LL := [qf 41 0 5,ql 42 1 41,qz 43 42,qi 44 0]
@[go_sem] def c_morphism_Valid_r10 : LL := [qo .lss 45 44 43]
@[go_sem] def c_morphism_Valid_r11 : LL := [qm 46 44,qd 47 1 42 44,ql 48 1 47,qm 9 46,qm 10 48]
@[go_sem] def c_morphism_Valid_r12 : LL := [qm 49 10,qk .lss 50 49 0,qm 51 50,qg 51 false (qm 52 10),qg 51 false (qf 53 0 4),qg 51 false (ql 54 1 53),qg 51 false (qz 55 54),qg 51 false (qo .geq 56 52 55),qQ 57 51 56]
@[go_sem] def c_morphism_Valid_r13 : LL := [qi 6 6]
@[go_sem] def c_morphism_Valid_r14 : LL := [qf 58 0 4,ql 59 1 58,qm 60 10,qd 61 1 59 60,ql 62 1 61,qf 63 0 3,ql 64 1 63,qm 65 9,qd 66 1 64 65,ql 67 1 66,qo .neq 68 62 67]
@[go_sem] def c_morphism_Valid_r15 : LL := [qi 6 13]
@[go_sem] def c_morphism_Valid_r16 : LL := [qk .add 69 44 1,qm 44 69]
def c_morphism_Valid_b17 : LC := (.seq (.reg c_morphism_Valid_r10 [3,4,5,42,43,44,45]) (.seq (.cond (.t 45) .skip (.exit 0)) (.seq (.block 1 (.seq (.reg c_morphism_Valid_r11 [3,4,5,9,10,42,43,44]) (.seq (.seq (.reg c_morphism_Valid_r12 [3,4,5,9,10,42,43,44,57]) (.cond (.t 57) (.seq (.reg c_morphism_Valid_r13 [6]) .ret) .skip)) (.seq (.dreg [] c_morphism_Valid_r14 [3,4,5,42,43,44,68]) (.cond (.t 68) (.seq (.reg c_morphism_Valid_r15 [6]) .ret) .skip))))) (.reg c_morphism_Valid_r16 [3,4,5,42,43,44]))))
@[go_sem] def c_morphism_Valid_r18 : LL := [qf 70 1 5,ql 71 1 70,qz 72 71,qi 73 0]
@[go_sem] def c_morphism_Valid_r19 : LL := [qo .lss 74 73 72]
@[go_sem] def c_morphism_Valid_r20 : LL := [qm 75 73,qd 76 1 71 73,ql 77 1 76,qm 11 75,qm 12 77]
@[go_sem] def c_morphism_Valid_r21 : LL := [qm 78 12,qk .lss 79 78 0,qm 80 79,qg 80 false (qm 81 12),qg 80 false (qf 82 1 4),qg 80 false (ql 83 1 82),qg 80 false (qz 84 83),qg 80 false (qo .geq 85 81 84),qQ 86 80 85]
@[go_sem] def c_morphism_Valid_r22 : LL := [qi 6 6]
@[go_sem] def c_morphism_Valid_r23 : LL := [qf 87 1 3,ql 88 1 87,qm 89 11,qd 90 3 88 89,qL 91 3 90,qf 92 1 4,ql 93 1 92,qm 94 12,qd 95 3 93 94,qL 96 3 95,qa 13 [.int .i64 (0),.int .i64 (0),.int .i64 (0)],
 qa 14 [.int .i64 (0),.int .i64 (0),.int .i64 (0)],qs 3 13 91,qs 3 14 96]
@[go_sem] def c_morphism_Valid_r24 : LL := [qf 97 0 13,ql 98 1 97,qf 99 0 14,ql 100 1 99,qo .neq 101 98 100]
@[go_sem] def c_morphism_Valid_r25 : LL := [qi 6 13]
@[go_sem] def c_morphism_Valid_r26 : LL := [qf 102 0 5,ql 103 1 102,qf 104 1 13,ql 105 1 104,qd 106 1 103 105,ql 107 1 106,qf 108 1 14,ql 109 1 108,qo .neq 110 107 109,qm 111 110,qg 111 false (qf 112 0 5),
 qg 111 false (ql 113 1 112),qg 111 false (qf 114 2 13),qg 111 false (ql 115 1 114),qg 111 false (qd 116 1 113 115),qg 111 false (ql 117 1 116),qg 111 false (qf 118 2 14),
 qg 111 false (ql 119 1 118),qg 111 false (qo .neq 120 117 119),qQ 121 111 120]
@[go_sem] def c_morphism_Valid_r27 : LL := [qi 6 11]
@[go_sem] def c_morphism_Valid_r28 : LL := [qk .add 122 73 1,qm 73 122]
def c_morphism_Valid_b29 : LC := (.seq (.reg c_morphism_Valid_r19 [3,4,5,71,72,73,74]) (.seq (.cond (.t 74) .skip (.exit 2)) (.seq (.block 3 (.seq (.reg c_morphism_Valid_r20 [3,4,5,11,12,71,72,73]) (.seq (.seq (.reg c_morphism_Valid_r21 [3,4,5,11,12,71,72,73,86]) (.cond (.t 86) (.seq (.reg c_morphism_Valid_r22 [6]) .ret) .skip)) (.seq (.dreg [(6,none,[],true),(8,none,[],true),(9,none,[],true),(12,none,[6,8,9],false)] c_morphism_Valid_r23 [3,4,5,13,14,71,72,73]) (.seq (.seq (.reg c_morphism_Valid_r24 [3,4,5,13,14,71,72,73,101]) (.cond (.t 101) (.seq (.reg c_morphism_Valid_r25 [6]) .ret) .skip)) (.seq (.dreg [] c_morphism_Valid_r26 [3,4,5,71,72,73,121]) (.cond (.t 121) (.seq (.reg c_morphism_Valid_r27 [6]) .ret) .skip))))))) (.reg c_morphism_Valid_r28 [3,4,5,71,72,73]))))
@[go_sem] def c_morphism_Valid_r30 : LL := [qi 6 0]
@[go_sem] def c_morphism_Valid (F : Fn) : LC := (.seq (.reg c_morphism_Valid_r0 [3,4,5]) (.seq (.seq (.reg (c_morphism_Valid_r1 F) [3,4,5,7]) (.seq (.reg c_morphism_Valid_r2 [3,4,5,7,18]) (.cond (.t 18) (.seq (.reg c_morphism_Valid_r3 [6]) .ret) .skip))) (.seq (.seq (.reg (c_morphism_Valid_r4 F) [3,4,5,8]) (.seq (.reg c_morphism_Valid_r5 [3,4,5,8,23]) (.cond (.t 23) (.seq (.reg c_morphism_Valid_r6 [6]) .ret) .skip))) (.seq (.seq (.reg c_morphism_Valid_r7 [3,4,5,40]) (.cond (.t 40) (.seq (.reg c_morphism_Valid_r8 [6]) .ret) .skip)) (.seq (.seq (.reg c_morphism_Valid_r9 [3,4,5,42,43,44]) (.block 0 (.loop [3,4,5,42,43,44] c_morphism_Valid_b17))) (.seq (.seq (.reg c_morphism_Valid_r18 [3,4,5,71,72,73]) (.block 2 (.loop [3,4,5,71,72,73] c_morphism_Valid_b29))) (.seq (.reg c_morphism_Valid_r30 [6]) .ret)))))))
def h_morphism_Valid : Hints := hOf [] (c_morphism_Valid fun _ => 0)
def nodeE (bn : List Int) : List Int → List Int → Int
 | k :: ms, t :: as => if 0 ≤ k ∧ k < bn.length then (if gt bn k = t then nodeE bn ms as else 13) else 6
 | _, _ => 0
def edgeE (be : List E) (mn : List Int) : List Int → List E → Int
 | k :: ms, x :: as => if 0 ≤ k ∧ k < be.length then (if x.t = (gt be k).t then (if gt mn x.f = (gt be k).f ∧ gt mn x.o = (gt be k).o then edgeE be mn ms as else 11) else 13) else 6
 | _, _ => 0
def validM (a b : G) (m : Mo) : Int :=
 if validG a ≠ 0 then validG a else if validG b ≠ 0 then validG b else if m.n.length ≠ a.n.length ∨ m.e.length ≠ a.e.length then 20
 else if nodeE b.n m.n a.n ≠ 0 then nodeE b.n m.n a.n else edgeE b.e m.n m.e a.e
def thr (l by_ : List Int) : List Int := l.map fun x => gt by_ x
def thenM (m n : Mo) : Mo := ⟨thr m.n n.n, thr m.e n.e⟩
section
variable (P : Program) (F : String → Nat)
def K_morphism_Valid : Prop := ∀ (a b : G) (m : Mo), FC P (F "morphism.Valid") [gD a, gD b, mD m] (.int .i64 (validM a b m)) []
end
section
variable {P : Program} {F : String → Nat} {α : Type}
theorem nodeE_step {bn ms as : List Int} {i : Nat} (h1 : i < ms.length) (h2 : i < as.length) : nodeE bn (ms.drop i) (as.drop i) =
  if 0 ≤ gt ms i ∧ gt ms i < bn.length then (if gt bn (gt ms i) = gt as i then nodeE bn (ms.drop (i + 1)) (as.drop (i + 1)) else 13) else 6 := by
 rw [drop_gt h1, drop_gt h2, nodeE]
theorem edgeE_step {be : List E} {mn ms : List Int} {as : List E} {i : Nat} (h1 : i < ms.length) (h2 : i < as.length) : edgeE be mn (ms.drop i) (as.drop i) =
  if 0 ≤ gt ms i ∧ gt ms i < be.length then (if (gt as i).t = (gt be (gt ms i)).t then (if gt mn (gt as i).f = (gt be (gt ms i)).f ∧ gt mn (gt as i).o = (gt be (gt ms i)).o then edgeE be mn (ms.drop (i + 1)) (as.drop (i + 1)) else 11) else 13) else 6 := by
 rw [drop_gt h1, drop_gt h2, edgeE]
theorem nodeE_end {bn ms as : List Int} {i : Nat} (h1 : ms.length ≤ i) : nodeE bn (ms.drop i) (as.drop i) = 0 := by
 rw [List.drop_of_length_le h1]; rfl
theorem edgeE_end {be : List E} {mn ms : List Int} {as : List E} {i : Nat} (h1 : ms.length ≤ i) : edgeE be mn (ms.drop i) (as.drop i) = 0 := by
 rw [List.drop_of_length_le h1]; cases as.drop i <;> rfl
theorem w_morphism_Valid (hv : K_graph_Valid P F) (a b : G) (m : Mo) : W P (c_morphism_Valid F) (Done [.t 6] [] (.int .i64 (validM a b m)) []) (init [gD a, gD b, mD m]) := by
 refine W_of ?_
 have rva := hv a
 have rvb := hv b
 have sva := @valid_spec a
 have svb := @valid_spec b
 have hvm : validM a b m = if validG a ≠ 0 then validG a else if validG b ≠ 0 then validG b else if m.n.length ≠ a.n.length ∨ m.e.length ≠ a.e.length then 20
  else if nodeE b.n m.n a.n ≠ 0 then nodeE b.n m.n a.n else edgeE b.e m.n m.e a.e := rfl
 rw [hvm]
 generalize validG a = va at *
 generalize validG b = vb at *
 clear hvm
 obtain ⟨an, ae⟩ := a
 obtain ⟨bn, be⟩ := b
 obtain ⟨mn, me⟩ := m
 simp only [gD] at rva rvb
 simp only at sva svb
 simp (disch := omega) only [go_sem, ↓reduceIte, gD, mD]
 refine call_by rva ?_
 simp (disch := omega) only [go_sem, ↓reduceIte]
 refine bran_ndec (fun c1 => ?_) (fun c1 => ?_)
 ·simp (disch := omega) only [go_sem, ↓reduceIte]
 ·subst c1
  obtain ⟨a1, a2, _, a4⟩ := sva rfl
  simp (disch := omega) only [go_sem, ↓reduceIte]
  refine call_by rvb ?_
  simp (disch := omega) only [go_sem, ↓reduceIte]
  refine bran_ndec (fun c2 => ?_) (fun c2 => ?_)
  ·simp (disch := omega) only [go_sem, ↓reduceIte]
   simp [c2]
  ·subst c2
   obtain ⟨b1, b2, _, b4⟩ := svb rfl
   simp (disch := omega) only [go_sem, ↓reduceIte]
   refine bran_ndec (fun c3 => ?_) (fun c3 => ?_)
   ·simp (disch := omega) only [go_sem, ↓reduceIte, c3]
    rw [if_neg (by simp), if_neg (by simp)]
   ·simp (disch := omega) only [go_sem, ↓reduceIte, c3]
    refine bran_ndec (fun c4 => ?_) (fun c4 => ?_)
    ·simp (disch := omega) only [go_sem, ↓reduceIte, c3, c4]
     rw [if_neg (by simp), if_neg (by simp)]
    ·have d3 : mn.length = an.length := by omega
     have d4 : me.length = ae.length := by omega
     rw [if_neg (by simp), if_neg (by simp), if_neg (by simp only; omega)]
     clear c3 c4
     simp (disch := omega) only [go_sem, ↓reduceIte, d3, d4]
     refine W_loop (fun i : Nat => ⟨[(3, .pt 0 0), (4, .pt 1 0), (5, .pt 2 0), (42, .lst 1 (ints mn)), (43, .int .i64 an.length), (44, .int .i64 i)],
      [(0, .box [.lst 1 (ints an), .lst 3 (eds ae)]), (1, .box [.lst 1 (ints bn), .lst 3 (eds be)]), (2, .box [.lst 1 (ints mn), .lst 1 (ints me)])], 3⟩)
      (fun i => i ≤ mn.length ∧ nodeE bn mn an = nodeE bn (mn.drop i) (an.drop i)) (fun i => mn.length - i) 0 ?_ ?_ ?_
     ·simp (disch := omega) only [go_sem, ↓reduceIte, d3]
      rfl
     ·simp
     ·rintro i ⟨hi, hn⟩
      simp (disch := omega) only [go_sem, ↓reduceIte, c_morphism_Valid_b17]
      refine bran_dec (fun c5 => ?_) (fun c5 => ?_)
      ·have hs := nodeE_step (bn := bn) (ms := mn) (as := an) (i := i) (by omega) (by omega)
       simp (disch := omega) only [go_sem, ↓reduceIte]
       refine bran_dec (fun c6 => ?_) (fun c6 => ?_)
       ·simp (disch := omega) only [go_sem, ↓reduceIte, c6]
        rw [if_neg (show ¬ (0 ≤ gt mn i ∧ gt mn i < bn.length) by omega)] at hs
        rw [hn, hs]
        try simp
       ·simp (disch := omega) only [go_sem, ↓reduceIte, c6]
        refine bran_dec (fun c7 => ?_) (fun c7 => ?_)
        ·simp (disch := omega) only [go_sem, ↓reduceIte]
         rw [if_neg (show ¬ (0 ≤ gt mn i ∧ gt mn i < bn.length) by omega)] at hs
         rw [hn, hs]
         try simp
        ·rw [if_pos (show (0 ≤ gt mn i ∧ gt mn i < bn.length) by omega)] at hs
         simp (disch := omega) only [go_sem, ↓reduceIte]
         refine bran_ndec (fun c8 => ?_) (fun c8 => ?_)
         ·rw [if_neg c8] at hs
          simp (disch := omega) only [go_sem, ↓reduceIte]
          rw [hn, hs]
          try simp
         ·rw [if_pos c8] at hs
          simp (disch := omega) only [go_sem, ↓reduceIte]
          exact ⟨i + 1, by simp, ⟨by omega, by rw [hn, hs]⟩, by omega⟩
      ·rw [nodeE_end (by omega)] at hn
       simp (disch := omega) only [go_sem, ↓reduceIte]
       refine W_loop (fun i : Nat => ⟨[(3, .pt 0 0), (4, .pt 1 0), (5, .pt 2 0), (71, .lst 1 (ints me)), (72, .int .i64 ae.length), (73, .int .i64 i)],
        [(0, .box [.lst 1 (ints an), .lst 3 (eds ae)]), (1, .box [.lst 1 (ints bn), .lst 3 (eds be)]), (2, .box [.lst 1 (ints mn), .lst 1 (ints me)])], 3⟩)
        (fun i => i ≤ me.length ∧ edgeE be mn me ae = edgeE be mn (me.drop i) (ae.drop i)) (fun i => me.length - i) 0 ?_ ?_ ?_
       ·simp (disch := omega) only [go_sem, ↓reduceIte, d4]
        rfl
       ·simp
       ·rintro i ⟨hi, he⟩
        simp (disch := omega) only [go_sem, ↓reduceIte, c_morphism_Valid_b29]
        refine bran_dec (fun c5 => ?_) (fun c5 => ?_)
        ·have hs := edgeE_step (be := be) (mn := mn) (ms := me) (as := ae) (i := i) (by omega) (by omega)
         have hae := fits_spec (a4 _ (gt_mem (l := ae) (j := i) (by omega) (by omega)))
         simp (disch := omega) only [go_sem, ↓reduceIte]
         refine bran_dec (fun c6 => ?_) (fun c6 => ?_)
         ·simp (disch := omega) only [go_sem, ↓reduceIte, c6]
          rw [if_neg (show ¬ (0 ≤ gt me i ∧ gt me i < be.length) by omega)] at hs
          rw [hn, he, hs]
          simp
         ·simp (disch := omega) only [go_sem, ↓reduceIte, c6]
          refine bran_dec (fun c7 => ?_) (fun c7 => ?_)
          ·simp (disch := omega) only [go_sem, ↓reduceIte]
           rw [if_neg (show ¬ (0 ≤ gt me i ∧ gt me i < be.length) by omega)] at hs
           rw [hn, he, hs]
           simp
          ·rw [if_pos (show (0 ≤ gt me i ∧ gt me i < be.length) by omega)] at hs
           simp (disch := omega) only [go_sem, ↓reduceIte]
           refine bran_ndec (fun c8 => ?_) (fun c8 => ?_)
           ·rw [if_neg c8] at hs
            simp (disch := omega) only [go_sem, ↓reduceIte]
            rw [hn, he, hs]
            simp
           ·rw [if_pos c8] at hs
            simp (disch := omega) only [go_sem, ↓reduceIte]
            refine bran_ndec (fun c9 => ?_) (fun c9 => ?_)
            ·rw [if_neg (fun h => c9 h.1)] at hs
             simp (disch := omega) only [go_sem, ↓reduceIte, c9]
             rw [hn, he, hs]
             simp
            ·simp (disch := omega) only [go_sem, ↓reduceIte, c9]
             refine bran_ndec (fun d1 => ?_) (fun d1 => ?_)
             ·rw [if_neg (fun h => d1 h.2)] at hs
              simp (disch := omega) only [go_sem, ↓reduceIte]
              rw [hn, he, hs]
              simp
             ·rw [if_pos ⟨c9, d1⟩] at hs
              simp (disch := omega) only [go_sem, ↓reduceIte]
              exact ⟨i + 1, by simp, ⟨by omega, by rw [he, hs]⟩, by omega⟩
        ·rw [edgeE_end (by omega)] at he
         simp (disch := omega) only [go_sem, ↓reduceIte]
         rw [hn, he]
         simp
theorem thr_len (l b : List Int) : (thr l b).length = l.length := by simp [thr]
theorem thr_step {l b : List Int} {i : Nat} (h : i < l.length) : thr (l.take (i + 1)) b = thr (l.take i) b ++ [gt b (gt l i)] := by
 rw [take_gt h]; simp [thr]
end
open Go Go.Sort
set_option linter.unnecessarySimpa false
def srt (l : List Int) : List Int := l.mergeSort fun x y => decide (x ≤ y)
theorem srt_perm (l : List Int) : (srt l).Perm l := List.mergeSort_perm _ _
theorem srt_len (l : List Int) : (srt l).length = l.length := (srt_perm l).length_eq
theorem srt_sorted (l : List Int) : (srt l).Pairwise (· ≤ ·) := by
 have := List.pairwise_mergeSort (le := fun x y : Int => decide (x ≤ y)) (fun a b c h1 h2 => by simp at *; omega) (fun a b => by simp; omega) l
 simpa [srt] using this
section
variable (P : Program) (F : String → Nat)
def K_slices_Sort_I : Prop := ∀ l : List Int, l.length ≤ maxL → FC P (F "slices.Sort.I") [.arr 1 (ints l)] (.tup []) [(0, .arr 1 (ints (srt l)))]
end
theorem PE_ints {w : World} {I : Nat → Prop} : ∀ {l : List Int} {us : List Value}, PE w I 1 (ints l) us → us = l.map (Value.int .i64)
 | [], us, h => by simpa [ints, PE] using h
 | x :: l, us, h => by
  simp only [ints, List.map_cons, PE, P1] at h
  obtain ⟨u, us', rfl, _, rfl, h2⟩ := h
  rw [PE_ints (l := l) h2]; rfl
theorem PE_ints' {w : World} {I : Nat → Prop} : ∀ (l : List Int), PE w I 1 (ints l) (l.map (Value.int .i64))
 | [] => by simp [ints, PE]
 | x :: l => by
  simp only [ints, List.map_cons, PE, P1]
  exact ⟨[.int .i64 x], l.map (Value.int .i64), rfl, rfl, rfl, PE_ints' l⟩
theorem sort_world {w : World} {b n : Nat} {cur : Array Value} {e : TypeId} {d : Array Int} {os : Array Obj} (hg : w.heap[b]? = some (.cells cur e (0, 0))) (hd : d.size ≤ cur.size) :
  Stp (· = b) w (grow (putRow (Value.int .i64) (Sort.ahead w n) b 0 d) os) ∧ ∃ c, (grow (putRow (Value.int .i64) (Sort.ahead w n) b 0 d) os).heap[b]? = some (.cells c e (0, 0)) ∧ c.size = cur.size ∧ ∀ j, j < d.size → c[j]? = some (.int .i64 d[j]!) := by
 have hb : b < w.heap.size := (Array.getElem?_eq_some_iff.1 hg).1
 have hold : ∀ k, k < w.heap.size → (grow (putRow (Value.int .i64) (Sort.ahead w n) b 0 d) os).heap[k]? = if b = k then (w.heap[k]?).map (onCells (putCells (Value.int .i64) 0 d)) else w.heap[k]? := fun k hk => by
  rw [heap_grow_old _ _ (by simpa [Sort.ahead] using hk)]
  simp only [putRow, mapBlock, Sort.ahead, Array.getElem?_modify]
 have hnew : (grow (putRow (Value.int .i64) (Sort.ahead w n) b 0 d) os).heap[b]? = some (.cells (putCells (Value.int .i64) 0 d cur) e (0, 0)) := by
  rw [hold b hb, if_pos rfl, hg]; rfl
 refine ⟨⟨rfl, rfl, rfl, by simp [Sort.ahead], fun k hk hne => by rw [hold k hk, if_neg (fun h => hne h.symm)], fun k c e' fr hk => ?_, ?_⟩, _, hnew, by simp [putCells], fun j hj => ?_⟩
 ·have hk2 : k < w.heap.size := (Array.getElem?_eq_some_iff.1 hk).1
  rw [hold k hk2]
  by_cases h : b = k
  ·subst h
   rw [if_pos rfl, hk]
   exact ⟨_, rfl, by simp [putCells]⟩
  ·rw [if_neg h, hk]
   exact ⟨c, rfl, rfl⟩
 ·show w.drawn ≤ w.drawn + n
  omega
 ·simp only [putCells, Array.getElem?_mapIdx]
  rw [Array.getElem?_eq_getElem (by omega)]
  simp only [Option.map_some]
  rw [if_pos (by omega)]
  rfl
theorem sort_FC {P : Program} {f : Nat} (hen : ∀ (vs : Array Value) (w : World), (callFunc f vs).run P w = .ok (.enter f vs) w)
  (h1 : ∀ (blk off cap : Nat) (zs : List Int) (w : World), Holds (Value.int .i64) w blk off zs.toArray → blk < w.heap.size → zs.length < 4611686018427387904 → Calls P f #[.slice (some ⟨blk, off, none⟩) zs.length cap] w fun e w' =>
   e = .returned (.tuple #[]) ∧ ∃ n os, w' = grow (putRow (Value.int .i64) (Sort.ahead w n) blk off (zs.mergeSort fun x y => decide (x ≤ y)).toArray) os)
  (h2 : ∀ (p : Option Addr) (cap : Nat) (w : World), Calls P f #[.slice p 0 cap] w fun e w' => e = .returned (.tuple #[]) ∧ w' = w) (l : List Int) (hl : l.length ≤ maxL) :
  FC P f [.arr 1 (ints l)] (.tup []) [(0, .arr 1 (ints (srt l)))] := by
 refine ⟨hen, fun w I vs os hI hnd hos hdr => ?_⟩
 simp only [DRs] at hdr
 obtain ⟨v, vs', o, o', rfl, rfl, hd, rfl, rfl⟩ := hdr
 simp only [DR] at hd
 obtain ⟨hmax, ⟨rfl, hnil, rfl⟩ | ⟨b, cap, cur, e, us, rfl, rfl, hg, c1, c2, c3, hM, hP⟩⟩ := hd
 ·have hl0 : l = [] := by simpa [ints] using hnil
  subst hl0
  refine (h2 none 0 w).mono ?_
  rintro e w' ⟨rfl, rfl⟩
  refine ⟨_, [], rfl, Stp.refl _ _, by simp, by simp, ?_⟩
  simp only [List.map_cons, List.map_nil, DRs, DR]
  exact ⟨_, _, [], [], rfl, rfl, ⟨_, rfl, rfl, rfl⟩, _, _, [], [], rfl, rfl, ⟨by simp [srt, ints, maxL], .inl ⟨rfl, by simp [srt, ints], rfl⟩⟩, rfl, rfl⟩
 ·have hus := PE_ints hP
  subst hus
  have hlen : (ints l).length = l.length := ints_length l
  rw [hlen] at c1
  simp only [Nat.mul_one] at c3
  rw [hlen]
  have hcur : ∀ j, j < l.length → cur[j]? = some (.int .i64 l[j]!) := fun j hj => by
   have := Mem.cells hg hM j (.int .i64 l[j]!) (by simp [hj])
   simpa using this
  have hH : Holds (Value.int .i64) w b 0 l.toArray := fun j hj => by
   have hj : j < l.length := by simpa using hj
   have hc := hcur j hj
   refine ⟨?_, ?_⟩
   ·simp only [World.cell?, hg, Nat.zero_add, hc]
    simp [hj]
   ·simp [World.frozen?, hg]
  have hbs : b < w.heap.size := (Array.getElem?_eq_some_iff.1 hg).1
  refine (h1 b 0 cap l w hH hbs (by simp only [maxL] at hl; omega)).mono ?_
  rintro er w' ⟨rfl, n, os2, rfl⟩
  have hsz : (l.mergeSort fun x y => decide (x ≤ y)).toArray.size = l.length := by simp
  obtain ⟨k1, c, k2, k3, k4⟩ := sort_world (n := n) (os := os2) (d := (l.mergeSort fun x y => decide (x ≤ y)).toArray) hg (by rw [hsz]; omega)
  refine ⟨_, [b], rfl, k1.mono fun x _ hx => by simp [hx], by simp, fun x hx => by simp at hx; subst hx; exact ⟨.inl (by simp), Nat.lt_of_lt_of_le hbs k1.size⟩, ?_⟩
  simp only [List.map_cons, List.map_nil, DRs, DR]
  refine ⟨_, _, [], [b], rfl, rfl, ⟨_, rfl, rfl, rfl⟩, _, _, [b], [], rfl, rfl, ⟨by rw [ints_length, srt_len]; exact hl, .inr ⟨b, cap, c, e, (srt l).map (Value.int .i64), ?_, rfl, k2, by rw [ints_length, srt_len]; exact c1, c2, by omega, ?_, PE_ints' _⟩⟩, rfl, rfl⟩
  ·simp [ints_length, srt_len, hlen]
  ·refine Mem.of_cells k2 (fun j u hj => ?_)
   rw [List.getElem?_map] at hj
   have hjl : j < (srt l).length := by
    rcases Nat.lt_or_ge j (srt l).length with h | h
    ·exact h
    ·rw [List.getElem?_eq_none h] at hj; cases hj
   have := k4 j (by rw [hsz]; rw [srt_len] at hjl; exact hjl)
   rw [Nat.zero_add, this]
   rw [List.getElem?_eq_getElem hjl] at hj
   simp only [Option.map_some] at hj
   rw [← hj]
   congr 2
   simp [srt] at hjl ⊢
   rw [List.getElem?_eq_getElem (by simpa using hjl)]
   rfl
@[go_sem] def c_slices_Clone_I_r0 : LL := [qn 2 1]
@[go_sem] def c_slices_Clone_I_r1 : LL := [qm 3 0,⟨some 4,.isnil false (.t 3),none⟩]
@[go_sem] def c_slices_Clone_I_r2 : LL := [qn 2 1]
@[go_sem] def c_slices_Clone_I_r3 : LL := [⟨some 5,.buildSl 1 8 (.int .i64 (0)) 0 [],none⟩,qm 6 0,qp 7 1 8 5 6,qm 2 7]
@[go_sem] def c_slices_Clone_I (F : Fn) : LC := (.seq (.reg c_slices_Clone_I_r0 [0]) (.seq (.seq (.reg c_slices_Clone_I_r1 [0,4]) (.cond (.t 4) (.seq (.reg c_slices_Clone_I_r2 [2]) .ret) .skip)) (.seq (.reg c_slices_Clone_I_r3 [2]) .ret)))
def h_slices_Clone_I : Hints := hOf [] (c_slices_Clone_I fun _ => 0)
@[go_sem] def c_slices_Clone_E_r0 : LL := [qn 2 3]
@[go_sem] def c_slices_Clone_E_r1 : LL := [qm 3 0,⟨some 4,.isnil false (.t 3),none⟩]
@[go_sem] def c_slices_Clone_E_r2 : LL := [qn 2 3]
@[go_sem] def c_slices_Clone_E_r3 : LL := [⟨some 5,.buildSl 3 24 (.agg [.int .i64 (0),.int .i64 (0),.int .i64 (0)]) 0 [],none⟩,qm 6 0,qp 7 3 24 5 6,qm 2 7]
@[go_sem] def c_slices_Clone_E (F : Fn) : LC := (.seq (.reg c_slices_Clone_E_r0 [0]) (.seq (.seq (.reg c_slices_Clone_E_r1 [0,4]) (.cond (.t 4) (.seq (.reg c_slices_Clone_E_r2 [2]) .ret) .skip)) (.seq (.reg c_slices_Clone_E_r3 [2]) .ret)))
def h_slices_Clone_E : Hints := hOf [] (c_slices_Clone_E fun _ => 0)
def pts (l : List Mo) : List D := l.map mD
theorem pts_length (l : List Mo) : (pts l).length = l.length := by simp [pts]
theorem pts_snoc (l : List Mo) (a b : List Int) : pts l ++ [.agg [.lst 1 (ints a), .lst 1 (ints b)]] = pts (l ++ [⟨a, b⟩]) := by simp [pts, mD]
attribute [go_sem] pts_length pts_snoc
section
variable (P : Program) (F : String → Nat)
def K_slices_Clone_I : Prop := ∀ l : List Int, l.length ≤ 10000000000000 → FC P (F "slices.Clone.I") [.lst 1 (ints l)] (.arr 1 (ints l)) []
def K_slices_Clone_E : Prop := ∀ l : List E, l.length ≤ 1000000000000 → FC P (F "slices.Clone.E") [.lst 3 (eds l)] (.arr 3 (eds l)) []
end
section
variable {P : Program} {F : String → Nat} {α : Type}
theorem w_slices_Clone_I (l : List Int) (hl : l.length ≤ 10000000000000) : W P (c_slices_Clone_I F) (Done [.t 2] [] (.arr 1 (ints l)) []) (init [.lst 1 (ints l)]) := by
 refine W_of ?_
 simp (disch := omega) only [go_sem, ↓reduceIte]
 refine nil_by (fun h => ?_) (fun _ => ?_)
 ·have : l = [] := by simpa [ints] using h
  subst this
  simp (disch := omega) only [go_sem, ↓reduceIte, ints_nil]
 ·simp (disch := omega) only [go_sem, ↓reduceIte]
theorem w_slices_Clone_E (l : List E) (hl : l.length ≤ 1000000000000) : W P (c_slices_Clone_E F) (Done [.t 2] [] (.arr 3 (eds l)) []) (init [.lst 3 (eds l)]) := by
 refine W_of ?_
 simp (disch := omega) only [go_sem, ↓reduceIte]
 refine nil_by (fun h => ?_) (fun _ => ?_)
 ·have : l = [] := by simpa [eds] using h
  subst this
  have e : eds [] = [] := rfl
  simp (disch := omega) only [go_sem, ↓reduceIte, e]
 ·simp (disch := omega) only [go_sem, ↓reduceIte]
end
structure Pr where
 a : Int
 b : Int
 deriving DecidableEq, Inhabited
def prD (x : Pr) : D := .agg [.int .i64 x.a, .int .i64 x.b]
def prs (l : List Pr) : List D := l.map prD
theorem prs_length (l : List Pr) : (prs l).length = l.length := by simp [prs]
theorem prs_snoc (l : List Pr) (a b : Int) : prs l ++ [.agg [.int .i64 a, .int .i64 b]] = prs (l ++ [⟨a, b⟩]) := by simp [prs, prD]
theorem prs_app (l m : List Pr) : prs l ++ prs m = prs (l ++ m) := by simp [prs]
theorem flat_prs (l : List Pr) : (prs l).all D.flatE = true := by simp [prs, prD, D.flatE, D.flat0]
theorem prs_at {l : List Pr} {j : Int} (h0 : 0 ≤ j) (h : j < l.length) : (prs l)[j.toNat]? = some (.agg [.int .i64 (gt l j).a, .int .i64 (gt l j).b]) := by
 unfold prs
 rw [List.getElem?_map, get_gt h0 h]; rfl
theorem prs_atn {l : List Pr} {i : Nat} (h : i < l.length) : (prs l)[i]? = some (.agg [.int .i64 (gt l i).a, .int .i64 (gt l i).b]) := by
 have := prs_at (l := l) (j := i) (by omega) (by omega)
 simpa using this
theorem prs_set {l : List Pr} {i : Nat} {a b : Int} : (prs l).set i (.agg [.int .i64 a, .int .i64 b]) = prs (l.set i ⟨a, b⟩) := by simp [prs, List.map_set, prD]
theorem prs_take {l : List Pr} {n : Nat} : (prs l).take n = prs (l.take n) := by simp [prs, List.map_take]
theorem prs_drop {l : List Pr} {n : Nat} : (prs l).drop n = prs (l.drop n) := by simp [prs, List.map_drop]
theorem eqPr (a b : Pr) : a = b ↔ a.a = b.a ∧ a.b = b.b := by cases a; cases b; simp
attribute [go_sem] prs_length prs_snoc prs_app flat_prs prs_at prs_set prs_take prs_drop
attribute [go_sem low] prs_atn
def g0 : G := ⟨[], []⟩
def m0 : Mo := ⟨[], []⟩
def sel (p : Nat → Bool) (n : Nat) : List Int := ((List.range n).filter p).map fun i : Nat => (i : Int)
theorem sel_zero (p : Nat → Bool) : sel p 0 = [] := rfl
theorem sel_succ (p : Nat → Bool) (n : Nat) : sel p (n + 1) = if p n = true then sel p n ++ [(n : Int)] else sel p n := by
 simp only [sel, List.range_succ, List.filter_append, List.filter_cons, List.filter_nil, List.map_append]
 split <;> simp
theorem sel_len (p : Nat → Bool) (n : Nat) : (sel p n).length ≤ n := by
 simp only [sel, List.length_map]
 exact Nat.le_trans (List.length_filter_le _ _) (by simp)
def distinct (l : List Int) : Bool := decide l.Nodup
def injM (a b : G) (m : Mo) : Bool := decide (validM a b m = 0) && (distinct m.n && distinct m.e)
section
variable (P : Program) (F : String → Nat)
end
section
variable {P : Program} {F : String → Nat} {α : Type}
theorem validM_spec {a b : G} {m : Mo} (h : validM a b m = 0) : validG a = 0 ∧ validG b = 0 ∧ m.n.length = a.n.length ∧ m.e.length = a.e.length ∧ nodeE b.n m.n a.n = 0 ∧ edgeE b.e m.n m.e a.e = 0 := by
 unfold validM at h
 split at h
 ·rename_i h1; exact absurd h h1
 ·rename_i h1
  split at h
  ·rename_i h2; exact absurd h h2
  ·rename_i h2
   split at h
   ·cases h
   ·rename_i h3
    split at h
    ·rename_i h4; exact absurd h h4
    ·rename_i h4
     exact ⟨by simpa using h1, by simpa using h2, by omega, by omega, by simpa using h4, h⟩
theorem validM_len {a b : G} {m : Mo} (h : validM a b m = 0) : m.n.length ≤ 40 ∧ m.e.length ≤ 80 ∧ a.n.length ≤ 40 ∧ a.e.length ≤ 80 ∧ b.n.length ≤ 40 ∧ b.e.length ≤ 80 := by
 obtain ⟨h1, h2, h3, h4, _⟩ := validM_spec h
 obtain ⟨a1, a2, _⟩ := valid_spec h1
 obtain ⟨b1, b2, _⟩ := valid_spec h2
 omega
end
@[go_sem] def c_slices_Compact_I_r0 : LL := [qn 2 1]
@[go_sem] def c_slices_Compact_I_r1 : LL := [qm 6 0,qz 7 6,qk .lss 8 7 2]
@[go_sem] def c_slices_Compact_I_r2 : LL := [qm 9 0,qm 2 9]
@[go_sem] def c_slices_Compact_I_r3 : LL := [qi 3 1]
@[go_sem] def c_slices_Compact_I_r4 : LL := [qm 10 3,qm 11 0,qz 12 11,qo .lss 13 10 12]
@[go_sem] def c_slices_Compact_I_r5 : LL := [qm 16 0,qm 17 3,qd 18 1 16 17,ql 19 1 18,qm 20 0,qm 21 3,qk .sub 22 21 1,qd 23 1 20 22,ql 24 1 23,qo .eql 25 19 24]
@[go_sem] def c_slices_Compact_I_r6 : LL := [qm 26 0,qm 27 3,⟨some 28,.slc 1 (.t 26) (some (.t 27)) none,none⟩,qm 4 28]
@[go_sem] def c_slices_Compact_I_r7 : LL := [qi 5 1]
@[go_sem] def c_slices_Compact_I_r8 : LL := [qm 29 5,qm 30 4,qz 31 30,qo .lss 32 29 31]
@[go_sem] def c_slices_Compact_I_r9 : LL := [qm 35 4,qm 36 5,qd 37 1 35 36,ql 38 1 37,qm 39 4,qm 40 5,qk .sub 41 40 1,qd 42 1 39 41,ql 43 1 42,qo .neq 44 38 43]
@[go_sem] def c_slices_Compact_I_r10 : LL := [qm 45 0,qm 46 3,qm 47 4,qm 48 5,qd 49 1 47 48,ql 50 1 49,qd 51 1 45 46,qs 1 51 50]
@[go_sem] def c_slices_Compact_I_r11 : LL := [qm 52 3,qk .add 53 52 1,qm 3 53]
@[go_sem] def c_slices_Compact_I_r12 : LL := [qm 33 5,qk .add 34 33 1,qm 5 34]
def c_slices_Compact_I_b13 : LC := (.seq (.seq (.reg c_slices_Compact_I_r8 [0,3,4,5,32]) (.cond (.t 32) .skip (.exit 2))) (.seq (.block 3 (.seq (.dreg [] c_slices_Compact_I_r9 [0,3,4,5,44]) (.cond (.t 44) (.seq (.reg c_slices_Compact_I_r10 [0,3,4,5]) (.reg c_slices_Compact_I_r11 [0,3,4,5])) .skip))) (.reg c_slices_Compact_I_r12 [0,3,4,5])))
@[go_sem] def c_slices_Compact_I_r14 : LL := [qm 54 0,qm 55 3,⟨some 56,.slc 1 (.t 54) (some (.t 55)) none,none⟩,⟨none,.clr 1 (.t 56),none⟩]
@[go_sem] def c_slices_Compact_I_r15 : LL := [qm 57 0,qm 58 3,⟨some 59,.slc 1 (.t 57) none (some (.t 58)),none⟩,qm 2 59]
@[go_sem] def c_slices_Compact_I_r16 : LL := [qm 14 3,qk .add 15 14 1,qm 3 15]
def c_slices_Compact_I_b17 : LC := (.seq (.seq (.reg c_slices_Compact_I_r4 [0,3,13]) (.cond (.t 13) .skip (.exit 0))) (.seq (.block 1 (.seq (.dreg [] c_slices_Compact_I_r5 [0,3,25]) (.cond (.t 25) (.seq (.reg c_slices_Compact_I_r6 [0,3,4]) (.seq (.seq (.reg c_slices_Compact_I_r7 [0,3,4,5]) (.block 2 (.loop [0,3,4,5] c_slices_Compact_I_b13))) (.seq (.reg c_slices_Compact_I_r14 [0,3]) (.seq (.reg c_slices_Compact_I_r15 [2]) .ret)))) .skip))) (.reg c_slices_Compact_I_r16 [0,3])))
@[go_sem] def c_slices_Compact_I_r18 : LL := [qm 60 0,qm 2 60]
@[go_sem] def c_slices_Compact_I (F : Fn) : LC := (.seq (.reg c_slices_Compact_I_r0 [0]) (.seq (.seq (.reg c_slices_Compact_I_r1 [0,8]) (.cond (.t 8) (.seq (.reg c_slices_Compact_I_r2 [2]) .ret) .skip)) (.seq (.seq (.reg c_slices_Compact_I_r3 [0,3]) (.block 0 (.loop [0,3] c_slices_Compact_I_b17))) (.seq (.reg c_slices_Compact_I_r18 [2]) .ret))))
def h_slices_Compact_I : Hints := hn [] [(0,[0]),(1,[0,8]),(2,[2]),(3,[0,3]),(4,[0,3,13]),(5,[0,3]),(6,[0,3,25]),(7,[0,3,4]),(8,[0,3,4,5]),(9,[0,3,4,5,32]),(10,[0,3,4,5]),(11,[0,3,4,5,44]),(12,[0,3,4,5]),(13,[0,3,4,5]),(14,[0,3]),(15,[2]),(16,[2])] [(4,[0,3]),(9,[0,3,4,5])]
@[go_sem] def c_morphism_images_r0 : LL := [qi 2 0]
@[go_sem] def c_morphism_images_r1 (F : Fn) : LL := [qm 4 0,qc 5 (F "slices.Clone.I") [.t 4],qm 3 5]
@[go_sem] def c_morphism_images_r2 (F : Fn) : LL := [qm 6 3,⟨some 7,.call (F "slices.Sort.I") [.t 6] [.mu],none⟩]
@[go_sem] def c_morphism_images_r3 (F : Fn) : LL := [qm 8 3,⟨some 9,.call (F "slices.Compact.I") [.t 8] [.ow],none⟩,qz 10 9,qm 2 10]
@[go_sem] def c_morphism_images (F : Fn) : LC := (.seq (.reg c_morphism_images_r0 [0]) (.seq (.reg (c_morphism_images_r1 F) [3]) (.seq (.reg (c_morphism_images_r2 F) [3]) (.seq (.reg (c_morphism_images_r3 F) [2]) .ret))))
def h_morphism_images : Hints := hOf [] (c_morphism_images fun _ => 0)
@[go_sem] def c_morphism_Injective_r0 : LL := [qB 3 0,qB 4 1,qB 5 2,qb 6 false]
@[go_sem] def c_morphism_Injective_r1 (F : Fn) : LL := [qL 7 2 3,qL 8 2 4,qL 9 2 5,qc 10 (F "morphism.Valid") [.t 7,.t 8,.t 9],qk .eql 11 10 0,qm 12 11,qg 12 true (qf 13 0 5),qg 12 true (ql 14 1 13),qg 12 true (qc 15 (F "morphism.images") [.t 14]),
 qg 12 true (qf 16 0 5),qg 12 true (ql 17 1 16),qg 12 true (qz 18 17),qg 12 true (qo .eql 19 15 18),qP 20 12 19,qm 21 20,qg 21 true (qf 22 1 5),qg 21 true (ql 23 1 22),
 qg 21 true (qc 24 (F "morphism.images") [.t 23]),qg 21 true (qf 25 1 5),qg 21 true (ql 26 1 25),qg 21 true (qz 27 26),qg 21 true (qo .eql 28 24 27),qP 29 21 28,qm 6 29]
@[go_sem] def c_morphism_Injective (F : Fn) : LC := (.seq (.reg c_morphism_Injective_r0 [3,4,5]) (.seq (.dreg [(8,none,[],true),(10,(some 575),[8],false),(17,none,[],true),(19,(some 294911),[17],false)] (c_morphism_Injective_r1 F) [6]) .ret))
def h_morphism_Injective : Hints := hOf [] (c_morphism_Injective fun _ => 0)
@[go_sem] def c_morphism_Surjective_r0 : LL := [qB 3 0,qB 4 1,qB 5 2,qb 6 false]
@[go_sem] def c_morphism_Surjective_r1 (F : Fn) : LL := [qL 7 2 3,qL 8 2 4,qL 9 2 5,qc 10 (F "morphism.Valid") [.t 7,.t 8,.t 9],qk .eql 11 10 0,qm 12 11,qg 12 true (qf 13 0 5),qg 12 true (ql 14 1 13),qg 12 true (qc 15 (F "morphism.images") [.t 14]),
 qg 12 true (qf 16 0 4),qg 12 true (ql 17 1 16),qg 12 true (qz 18 17),qg 12 true (qo .eql 19 15 18),qP 20 12 19,qm 21 20,qg 21 true (qf 22 1 5),qg 21 true (ql 23 1 22),
 qg 21 true (qc 24 (F "morphism.images") [.t 23]),qg 21 true (qf 25 1 4),qg 21 true (ql 26 1 25),qg 21 true (qz 27 26),qg 21 true (qo .eql 28 24 27),qP 29 21 28,qm 6 29]
@[go_sem] def c_morphism_Surjective (F : Fn) : LC := (.seq (.reg c_morphism_Surjective_r0 [3,4,5]) (.seq (.dreg [(8,none,[],true),(10,(some 575),[8],false),(17,none,[],true),(19,(some 294911),[17],false)] (c_morphism_Surjective_r1 F) [6]) .ret))
def h_morphism_Surjective : Hints := hOf [] (c_morphism_Surjective fun _ => 0)
def kept (l : List Int) (i : Nat) : Bool := decide (i = 0) || decide (gt l i ≠ gt l ((i : Int) - 1))
def kp (l : List Int) (n : Nat) : List Int := ((List.range n).filter (kept l)).map fun i : Nat => gt l i
def cpt (l : List Int) : List Int := kp l l.length
def imgs (l : List Int) : List Int := cpt (srt l)
def covers (l : List Int) (n : Nat) : Bool := (List.range n).all fun k : Nat => decide ((k : Int) ∈ l)
def surM (a b : G) (m : Mo) : Bool := decide (validM a b m = 0) && (covers m.n b.n.length && covers m.e b.e.length)
section
variable (P : Program) (F : String → Nat)
def K_slices_Compact_I : Prop := ∀ l : List Int, l.length ≤ maxL → FC P (F "slices.Compact.I") [.arr 1 (ints l)] (.arr 1 (ints (cpt l))) []
def K_morphism_images : Prop := ∀ l : List Int, l.length ≤ 1000000 → FC P (F "morphism.images") [.lst 1 (ints l)] (.int .i64 (imgs l).length) []
def K_morphism_Injective : Prop := ∀ (a b : G) (m : Mo), FC P (F "morphism.Injective") [gD a, gD b, mD m] (.bool (injM a b m)) []
def K_morphism_Surjective : Prop := ∀ (a b : G) (m : Mo), FC P (F "morphism.Surjective") [gD a, gD b, mD m] (.bool (surM a b m)) []
end
section
variable {P : Program} {F : String → Nat} {α : Type}
theorem kp_succ (l : List Int) (n : Nat) : kp l (n + 1) = if kept l n = true then kp l n ++ [gt l n] else kp l n := by
 simp only [kp, List.range_succ, List.filter_append, List.filter_cons, List.filter_nil, List.map_append]
 split <;> simp
theorem kp_len (l : List Int) (n : Nat) : (kp l n).length ≤ n := by
 simp only [kp, List.length_map]
 exact Nat.le_trans (List.length_filter_le _ _) (by simp)
theorem w_slices_Compact_I (l : List Int) (hl : l.length ≤ maxL) : W P (c_slices_Compact_I F) (Done [.t 2] [] (.arr 1 (ints (cpt l))) []) (init [.arr 1 (ints l)]) := by
 refine W_of ?_
 unfold maxL at hl
 simp (disch := omega) only [go_sem, ↓reduceIte]
 refine bran_dec (fun c => ?_) (fun c => ?_)
 ·have : cpt l = l := by
   match l, c with
   | [], _ => rfl
   | [x], _ => simp [cpt, kp, kept, List.range_succ, gt]
   | x :: y :: l, c => simp at c; omega
  simp (disch := omega) only [go_sem, ↓reduceIte]
  rw [this]
 ·simp (disch := omega) only [go_sem, ↓reduceIte]
  refine W_loop (fun k : Nat => ⟨[(0, .sl 0 0 l.length), (3, .int .i64 k)], [(0, .arr 1 (ints l))], 1⟩) (fun k => 1 ≤ k ∧ k ≤ l.length ∧ kp l k = l.take k) (fun k => l.length - k) 1 ?_ ?_ ?_
  ·simp (disch := omega) only [go_sem, ↓reduceIte]
   rfl
  ·refine ⟨by omega, by omega, ?_⟩
   rw [kp_succ, if_pos (by simp [kept]), take_gt (by omega)]
   rfl
  ·rintro k ⟨h1, h2, h3⟩
   have hs := kp_succ l k
   simp (disch := omega) only [go_sem, ↓reduceIte, c_slices_Compact_I_b17]
   refine bran_dec (fun d => ?_) (fun d => ?_)
   ·simp (disch := omega) only [go_sem, ↓reduceIte]
    refine bran_dec (fun e => ?_) (fun e => ?_)
    ·rw [if_neg (by simp [kept, e]; omega)] at hs
     simp (disch := omega) only [go_sem, ↓reduceIte]
     refine W_loop (fun s : Nat × Nat × List Int => ⟨[(0, .sl 0 0 l.length), (3, .int .i64 s.2.1), (4, .sl 0 k (l.length - k)), (5, .int .i64 s.1)], [(0, .arr 1 (ints s.2.2))], 1⟩)
      (fun s => 1 ≤ s.1 ∧ k + s.1 ≤ l.length ∧ s.2.1 + 1 ≤ k + s.1 ∧ s.2.2.length = l.length ∧ s.2.2.take s.2.1 = kp l (k + s.1) ∧ s.2.2.drop (k + s.1 - 1) = l.drop (k + s.1 - 1)) (fun s => l.length - s.1) (1, k, l) ?_ ?_ ?_
     ·simp (disch := omega) only [go_sem, ↓reduceIte]
      rfl
     ·exact ⟨by simp, by simp only; omega, by simp, rfl, by simp only; rw [hs, h3], rfl⟩
     ·rintro ⟨j, i, xs⟩ ⟨g1, g2, g3, g4, g5, g6⟩
      simp only at g1 g2 g3 g4 g5 g6
      have hs2 := kp_succ l (k + j)
      have gat : ∀ m : Nat, k + j - 1 ≤ m → m < l.length → gt xs m = gt l m := fun m hm1 hm2 => by
       have := congrArg (fun l : List Int => l[m - (k + j - 1)]?) g6
       simp only [List.getElem?_drop] at this
       rw [show k + j - 1 + (m - (k + j - 1)) = m by omega, List.getElem?_eq_getElem (by omega), List.getElem?_eq_getElem (by omega)] at this
       rw [gt_nat (by omega), gt_nat (by omega)]
       simpa using this
      simp (disch := omega) only [go_sem, ↓reduceIte, c_slices_Compact_I_b13, g4]
      refine bran_dec (fun d => ?_) (fun d => ?_)
      ·have e1 := gat (k + j) (by omega) (by omega)
       have e2 : gt xs ((k + ((j : Int) - 1).toNat : Nat) : Int) = gt l (((k + j : Nat) : Int) - 1) := by
        rw [show k + ((j : Int) - 1).toNat = k + j - 1 by omega, gat (k + j - 1) (by omega) (by omega)]
        congr 1
        omega
       have hd : xs.drop (k + j) = l.drop (k + j) := by
        have := congrArg (fun l : List Int => l.drop 1) g6
        simp only [List.drop_drop] at this
        rw [show k + j - 1 + 1 = k + j by omega] at this
        exact this
       simp (disch := omega) only [go_sem, ↓reduceIte, g4, e1, e2]
       refine bran_ndec (fun f => ?_) (fun f => ?_)
       ·rw [if_pos (by unfold kept; rw [Bool.or_eq_true]; exact .inr (decide_eq_true f))] at hs2
        simp (disch := omega) only [go_sem, ↓reduceIte, g4, e1]
        refine ⟨(j + 1, i + 1, xs.set i (gt l ((k + j : Nat) : Int))), by simp, ⟨by simp only; omega, by simp only; omega, by simp only; omega, by simp [g4], ?_, ?_⟩, by simp only; omega⟩
        ·simp only
         rw [← Nat.add_assoc, hs2, ← g5, List.take_succ_eq_append_getElem (by simp; omega), List.take_set_of_le (Nat.le_refl _)]
         simp
        ·simp only
         rw [show k + (j + 1) - 1 = k + j by omega, List.drop_set_of_lt (by omega), hd]
       ·rw [if_neg (by unfold kept; simp only [Bool.or_eq_true, decide_eq_true_eq, not_or, ne_eq, Decidable.not_not]; exact ⟨by omega, f⟩)] at hs2
        simp (disch := omega) only [go_sem, ↓reduceIte, g4]
        refine ⟨(j + 1, i, xs), by simp, ⟨by simp only; omega, by simp only; omega, by simp only; omega, g4, ?_, ?_⟩, by simp only; omega⟩
        ·simp only
         rw [← Nat.add_assoc, hs2, ← g5]
        ·simp only
         rw [show k + (j + 1) - 1 = k + j by omega, hd]
      ·have hi : (xs.take i).length = i := by simp; omega
       have hkj : k + j = l.length := by omega
       simp (disch := omega) only [go_sem, ↓reduceIte, g4, hi, Nat.sub_zero]
       rw [g5, hkj, cpt]
    ·rw [if_pos (by simp [kept, e])] at hs
     simp (disch := omega) only [go_sem, ↓reduceIte]
     exact ⟨k + 1, by simp, ⟨by omega, by omega, by rw [hs, h3, take_gt (by omega)]⟩, by omega⟩
   ·obtain rfl : k = l.length := by omega
    simp (disch := omega) only [go_sem, ↓reduceIte]
    rw [cpt, h3, List.take_length]
theorem kp_sub (l : List Int) : ∀ n, n ≤ l.length → (kp l n).Sublist (l.take n)
 | 0, _ => by simp [kp]
 | n + 1, h => by
  rw [kp_succ, take_gt (by omega)]
  split
  ·exact (kp_sub l n (by omega)).append (List.Sublist.refl _)
  ·exact (kp_sub l n (by omega)).trans (List.sublist_append_left _ _)
theorem kp_mem (l : List Int) : ∀ n, n ≤ l.length → ∀ x ∈ l.take n, x ∈ kp l n
 | 0, _ => by simp
 | n + 1, h => by
  intro x hx
  rw [take_gt (by omega)] at hx
  rw [kp_succ]
  rcases List.mem_append.1 hx with hx | hx
  ·split
   ·exact List.mem_append_left _ (kp_mem l n (by omega) x hx)
   ·exact kp_mem l n (by omega) x hx
  ·simp only [List.mem_singleton] at hx
   subst hx
   split
   ·simp
   ·rename_i hk
    simp only [kept, Bool.or_eq_true, decide_eq_true_eq, not_or, ne_eq, Decidable.not_not] at hk
    refine kp_mem l n (by omega) _ ?_
    rw [hk.2, show (n : Int) - 1 = ((n - 1 : Nat) : Int) by omega, gt_nat (by omega)]
    exact List.mem_take_iff_getElem.2 ⟨n - 1, by omega, rfl⟩
theorem kp_lt {l : List Int} (hs : l.Pairwise (· ≤ ·)) : ∀ n, n ≤ l.length → (kp l n).Pairwise (· < ·)
 | 0, _ => by simp [kp]
 | n + 1, h => by
  rw [kp_succ]
  split
  ·rename_i hk
   rw [List.pairwise_append]
   refine ⟨kp_lt hs n (by omega), by simp, fun x hx y hy => ?_⟩
   simp only [List.mem_singleton] at hy
   subst hy
   obtain ⟨m, hm, rfl⟩ := List.mem_take_iff_getElem.1 ((kp_sub l n (by omega)).subset hx)
   simp only [kept, Bool.or_eq_true, decide_eq_true_eq, ne_eq] at hk
   have hn : n ≠ 0 := by omega
   have hne : gt l n ≠ gt l ((n : Int) - 1) := hk.resolve_left hn
   rw [gt_nat (by omega), show (n : Int) - 1 = ((n - 1 : Nat) : Int) by omega, gt_nat (by omega)] at hne
   rw [gt_nat (by omega)]
   have h1 : l[n - 1] ≤ l[n] := List.pairwise_iff_getElem.1 hs (n - 1) n (by omega) (by omega) (by omega)
   have h2 : l[m] ≤ l[n - 1] := by
    by_cases he : m = n - 1
    ·subst he; exact Int.le_refl _
    ·exact List.pairwise_iff_getElem.1 hs m (n - 1) (by omega) (by omega) (by omega)
   omega
  ·exact kp_lt hs n (by omega)
theorem imgs_mem {l : List Int} {x : Int} : x ∈ imgs l ↔ x ∈ l := by
 unfold imgs cpt
 constructor
 ·intro h
  have := (kp_sub (srt l) _ (Nat.le_refl _)).subset h
  rw [List.take_length] at this
  exact (srt_perm l).mem_iff.1 this
 ·intro h
  exact kp_mem (srt l) _ (Nat.le_refl _) x (by rw [List.take_length]; exact (srt_perm l).mem_iff.2 h)
theorem imgs_lt (l : List Int) : (imgs l).Pairwise (· < ·) := kp_lt (srt_sorted l) _ (Nat.le_refl _)
theorem imgs_nodup (l : List Int) : (imgs l).Nodup := (imgs_lt l).imp (fun h => by omega)
theorem imgs_len (l : List Int) : (imgs l).length ≤ l.length := by
 rw [← srt_len l]; exact kp_len _ _
theorem imgs_inj {l : List Int} : (imgs l).length = l.length ↔ l.Nodup := by
 have hsub : (imgs l).Sublist (srt l) := by
  have := kp_sub (srt l) _ (Nat.le_refl _)
  rwa [List.take_length] at this
 constructor
 ·intro h
  have : imgs l = srt l := hsub.eq_of_length (by rw [h, srt_len])
  exact (srt_perm l).nodup_iff.1 (this ▸ imgs_nodup l)
 ·intro h
  have hp : (imgs l).Perm l := (List.perm_ext_iff_of_nodup (imgs_nodup l) h).2 fun x => imgs_mem
  exact hp.length_eq
theorem imgs_sur {l : List Int} {n : Nat} (hb : ∀ x ∈ l, 0 ≤ x ∧ x < n) : (imgs l).length = n ↔ ∀ k : Nat, k < n → (k : Int) ∈ l := by
 have hnn : (nums 0 n).Nodup := by
  unfold nums List.Nodup
  rw [List.pairwise_map]
  exact (List.nodup_range (n := n)).imp fun h => by omega
 have hmem : ∀ x : Int, x ∈ nums 0 n ↔ 0 ≤ x ∧ x < n := fun x => by
  unfold nums
  simp only [List.mem_map, List.mem_range]
  constructor
  ·rintro ⟨k, hk, rfl⟩; omega
  ·rintro ⟨h1, h2⟩; exact ⟨x.toNat, by omega, by omega⟩
 have hp : (imgs l).Perm ((nums 0 n).filter fun x => decide (x ∈ l)) := (List.perm_ext_iff_of_nodup (imgs_nodup l) (hnn.filter _)).2 fun x => by
  rw [imgs_mem, List.mem_filter, hmem, decide_eq_true_eq]
  exact ⟨fun h => ⟨hb x h, h⟩, fun h => h.2⟩
 rw [hp.length_eq]
 have hn := nums_len 0 n
 constructor
 ·intro h k hk
  have := (List.filter_eq_self.1 ((List.filter_sublist (l := nums 0 n) (p := fun x => decide (x ∈ l))).eq_of_length (by rw [h, hn]))) k ((hmem k).2 (by omega))
  simpa using this
 ·intro h
  rw [List.filter_eq_self.2 fun x hx => ?_, hn]
  have hx := (hmem x).1 hx
  have := h x.toNat (by omega)
  rw [Int.toNat_of_nonneg hx.1] at this
  simpa using this
end
section
variable {P : Program} {F : String → Nat} {α : Type}
theorem w_morphism_images (hc : K_slices_Clone_I P F) (hs : K_slices_Sort_I P F) (hp : K_slices_Compact_I P F) (l : List Int) (hl : l.length ≤ 1000000) : W P (c_morphism_images F) (Done [.t 2] [] (.int .i64 (imgs l).length) []) (init [.lst 1 (ints l)]) := by
 refine W_of ?_
 have e1 := srt_len l
 have e2 := imgs_len l
 have r1 := hc l (by omega)
 have r2 := hs l (by unfold maxL; omega)
 have r3 := hp (srt l) (by unfold maxL; omega)
 change FC P _ _ (.arr 1 (ints (imgs l))) _ at r3
 generalize imgs l = m at *
 generalize srt l = q at *
 simp (disch := omega) only [go_sem, ↓reduceIte]
 refine call_by r1 ?_
 simp (disch := omega) only [go_sem, ↓reduceIte]
 refine call_by r2 ?_
 simp (disch := omega) only [go_sem, ↓reduceIte, e1]
 refine call_by r3 ?_
 simp (disch := omega) only [go_sem, ↓reduceIte]
theorem inj_imgs (l : List Int) : decide (((imgs l).length : Int) = l.length) = distinct l := by
 rw [Bool.eq_iff_iff, distinct, decide_eq_true_eq, decide_eq_true_eq, ← imgs_inj]
 omega
theorem w_morphism_Injective (hv : K_morphism_Valid P F) (hi : K_morphism_images P F) (a b : G) (m : Mo) : W P (c_morphism_Injective F) (Done [.t 6] [] (.bool (injM a b m)) []) (init [gD a, gD b, mD m]) := by
 refine W_of ?_
 have rv := hv a b m
 have hl := @validM_len a b m
 have hd : injM a b m = (decide (validM a b m = 0) && (distinct m.n && distinct m.e)) := rfl
 rw [hd, ← inj_imgs m.n, ← inj_imgs m.e]
 generalize validM a b m = v at *
 obtain ⟨an, ae⟩ := a
 obtain ⟨bn, be⟩ := b
 obtain ⟨mn, me⟩ := m
 simp only [gD, mD] at rv ⊢
 simp (disch := omega) only [go_sem, ↓reduceIte]
 refine call_by rv ?_
 simp (disch := omega) only [go_sem, ↓reduceIte]
 refine bran_dec (fun c => ?_) (fun c => ?_)
 ·subst c
  obtain ⟨l1, l2, _⟩ := hl rfl
  simp only at l1 l2
  have r1 := hi mn (by omega)
  have r2 := hi me (by omega)
  have e1 := imgs_len mn
  have e2 := imgs_len me
  generalize imgs mn = pn at *
  generalize imgs me = pe at *
  simp (disch := omega) only [go_sem, ↓reduceIte]
  refine call_by r1 ?_
  simp (disch := omega) only [go_sem, ↓reduceIte]
  refine bran_dec (fun d => ?_) (fun d => ?_)
  ·simp (disch := omega) only [go_sem, ↓reduceIte, d]
   refine call_by r2 ?_
   simp (disch := omega) only [go_sem, ↓reduceIte, d]
   try simp
  ·simp (disch := omega) only [go_sem, ↓reduceIte, d]
   try simp
 ·simp (disch := omega) only [go_sem, ↓reduceIte, c]
  try simp
theorem nodeE_all {bn : List Int} : ∀ {ms as : List Int}, nodeE bn ms as = 0 → ms.length = as.length → ∀ i : Nat, i < ms.length → (0 ≤ gt ms i ∧ gt ms i < bn.length) ∧ gt bn (gt ms i) = gt as i
 | [], _, _, _, i, hi => by simp at hi
 | k :: ms, [], _, hl, _, _ => by simp at hl
 | k :: ms, t :: as, h, hl, i, hi => by
  rw [nodeE] at h
  split at h
  ·rename_i h1
   split at h
   ·rename_i h2
    cases i with
    | zero => exact ⟨h1, h2⟩
    | succ i =>
     have := nodeE_all h (by simpa using hl) i (by simpa using hi)
     have e1 : gt (k :: ms) ((i + 1 : Nat) : Int) = gt ms i := by simp [gt]
     have e2 : gt (t :: as) ((i + 1 : Nat) : Int) = gt as i := by simp [gt]
     rw [e1, e2]; exact this
   ·simp at h
  ·simp at h
theorem edgeE_all {be : List E} {mn : List Int} : ∀ {ms : List Int} {as : List E}, edgeE be mn ms as = 0 → ms.length = as.length → ∀ i : Nat, i < ms.length →
  (0 ≤ gt ms i ∧ gt ms i < be.length) ∧ (gt as i).t = (gt be (gt ms i)).t ∧ gt mn (gt as i).f = (gt be (gt ms i)).f ∧ gt mn (gt as i).o = (gt be (gt ms i)).o
 | [], _, _, _, i, hi => by simp at hi
 | k :: ms, [], _, hl, _, _ => by simp at hl
 | k :: ms, x :: as, h, hl, i, hi => by
  rw [edgeE] at h
  split at h
  ·rename_i h1
   split at h
   ·rename_i h2
    split at h
    ·rename_i h3
     cases i with
     | zero => exact ⟨h1, h2, h3⟩
     | succ i =>
      have := edgeE_all h (by simpa using hl) i (by simpa using hi)
      have e1 : gt (k :: ms) ((i + 1 : Nat) : Int) = gt ms i := by simp [gt]
      have e2 : gt (x :: as) ((i + 1 : Nat) : Int) = gt as i := by simp [gt]
      rw [e1, e2]; exact this
    ·simp at h
   ·simp at h
  ·simp at h
theorem mem_gt {α : Type} [Inhabited α] {l : List α} {x : α} (h : x ∈ l) : ∃ i : Nat, i < l.length ∧ gt l i = x := by
 obtain ⟨i, hi, rfl⟩ := List.getElem_of_mem h
 exact ⟨i, hi, gt_nat hi⟩
theorem validM_bd {a b : G} {m : Mo} (h : validM a b m = 0) : (∀ x ∈ m.n, 0 ≤ x ∧ x < b.n.length) ∧ ∀ x ∈ m.e, 0 ≤ x ∧ x < b.e.length := by
 obtain ⟨_, _, h3, h4, h5, h6⟩ := validM_spec h
 refine ⟨fun x hx => ?_, fun x hx => ?_⟩
 ·obtain ⟨i, hi, rfl⟩ := mem_gt hx
  exact (nodeE_all h5 h3 i hi).1
 ·obtain ⟨i, hi, rfl⟩ := mem_gt hx
  exact (edgeE_all h6 h4 i hi).1
theorem sur_imgs {l : List Int} {n : Nat} (hb : ∀ x ∈ l, 0 ≤ x ∧ x < n) : decide (((imgs l).length : Int) = n) = covers l n := by
 rw [Bool.eq_iff_iff, covers, decide_eq_true_eq, List.all_eq_true]
 simp only [List.mem_range, decide_eq_true_eq]
 rw [← imgs_sur hb]
 omega
theorem w_morphism_Surjective (hv : K_morphism_Valid P F) (hi : K_morphism_images P F) (a b : G) (m : Mo) : W P (c_morphism_Surjective F) (Done [.t 6] [] (.bool (surM a b m)) []) (init [gD a, gD b, mD m]) := by
 refine W_of ?_
 have rv := hv a b m
 have hl := @validM_len a b m
 have hbd := @validM_bd a b m
 have hd : surM a b m = (decide (validM a b m = 0) && (covers m.n b.n.length && covers m.e b.e.length)) := rfl
 rw [hd]
 generalize validM a b m = v at *
 obtain ⟨an, ae⟩ := a
 obtain ⟨bn, be⟩ := b
 obtain ⟨mn, me⟩ := m
 simp only [gD, mD] at rv ⊢
 simp (disch := omega) only [go_sem, ↓reduceIte]
 refine call_by rv ?_
 simp (disch := omega) only [go_sem, ↓reduceIte]
 refine bran_dec (fun c => ?_) (fun c => ?_)
 ·subst c
  obtain ⟨l1, l2, _⟩ := hl rfl
  obtain ⟨b1, b2⟩ := hbd rfl
  simp only at l1 l2 b1 b2
  rw [← sur_imgs b1, ← sur_imgs b2]
  have r1 := hi mn (by omega)
  have r2 := hi me (by omega)
  have e1 := imgs_len mn
  have e2 := imgs_len me
  generalize imgs mn = pn at *
  generalize imgs me = pe at *
  simp (disch := omega) only [go_sem, ↓reduceIte]
  refine call_by r1 ?_
  simp (disch := omega) only [go_sem, ↓reduceIte]
  refine bran_dec (fun d => ?_) (fun d => ?_)
  ·simp (disch := omega) only [go_sem, ↓reduceIte, d]
   refine call_by r2 ?_
   simp (disch := omega) only [go_sem, ↓reduceIte, d]
   try simp
  ·simp (disch := omega) only [go_sem, ↓reduceIte, d]
   try simp
 ·simp (disch := omega) only [go_sem, ↓reduceIte, c]
  try simp
end
section
variable {α : Type}
theorem list_ext_gt [Inhabited α] {a b : List α} (hl : a.length = b.length) (h : ∀ i : Nat, i < a.length → gt a i = gt b i) : a = b := by
 refine List.ext_getElem hl fun i h1 h2 => ?_
 have := h i h1
 rwa [gt_nat h1, gt_nat h2] at this
theorem thr_gt {l b : List Int} {i : Nat} (h : i < l.length) : gt (thr l b) i = gt b (gt l i) := by
 rw [gt_nat (by rw [thr_len]; exact h)]
 simp only [thr, List.getElem_map]
 rw [gt_nat h]
theorem gt_cons {α : Type} [Inhabited α] (a : α) (l : List α) (i : Nat) : gt (a :: l) ((i + 1 : Nat) : Int) = gt l i := by simp [gt]
theorem gt_cons0 {α : Type} [Inhabited α] (a : α) (l : List α) : gt (a :: l) ((0 : Nat) : Int) = a := by simp [gt]
theorem nodeE_mk {bn : List Int} : ∀ {ms as : List Int}, ms.length = as.length → (∀ i : Nat, i < ms.length → (0 ≤ gt ms i ∧ gt ms i < bn.length) ∧ gt bn (gt ms i) = gt as i) → nodeE bn ms as = 0
 | [], as, _, _ => rfl
 | k :: ms, [], hl, _ => by simp at hl
 | k :: ms, t :: as, hl, h => by
  have h0 := h 0 (by simp)
  rw [gt_cons0, gt_cons0] at h0
  rw [nodeE, if_pos h0.1, if_pos h0.2]
  exact nodeE_mk (by simpa using hl) fun i hi => by have := h (i + 1) (by simpa using hi); rwa [gt_cons, gt_cons] at this
theorem edgeE_mk {be : List E} {mn : List Int} : ∀ {ms : List Int} {as : List E}, ms.length = as.length → (∀ i : Nat, i < ms.length →
  (0 ≤ gt ms i ∧ gt ms i < be.length) ∧ (gt as i).t = (gt be (gt ms i)).t ∧ gt mn (gt as i).f = (gt be (gt ms i)).f ∧ gt mn (gt as i).o = (gt be (gt ms i)).o) → edgeE be mn ms as = 0
 | [], as, _, _ => by cases as <;> rfl
 | k :: ms, [], hl, _ => by simp at hl
 | k :: ms, x :: as, hl, h => by
  have h0 := h 0 (by simp)
  rw [gt_cons0, gt_cons0] at h0
  rw [edgeE, if_pos h0.1, if_pos h0.2.1, if_pos h0.2.2]
  exact edgeE_mk (by simpa using hl) fun i hi => by have := h (i + 1) (by simpa using hi); rwa [gt_cons, gt_cons] at this
structure MOk (a b : G) (m : Mo) : Prop where
 va : validG a = 0
 vb : validG b = 0
 ln : m.n.length = a.n.length
 le : m.e.length = a.e.length
 nd : ∀ i : Nat, i < a.n.length → (0 ≤ gt m.n i ∧ gt m.n i < b.n.length) ∧ gt b.n (gt m.n i) = gt a.n i
 ed : ∀ i : Nat, i < a.e.length → (0 ≤ gt m.e i ∧ gt m.e i < b.e.length) ∧ (gt a.e i).t = (gt b.e (gt m.e i)).t ∧ gt m.n (gt a.e i).f = (gt b.e (gt m.e i)).f ∧ gt m.n (gt a.e i).o = (gt b.e (gt m.e i)).o
theorem mok {a b : G} {m : Mo} : validM a b m = 0 ↔ MOk a b m := by
 constructor
 ·intro h
  obtain ⟨h1, h2, h3, h4, h5, h6⟩ := validM_spec h
  exact ⟨h1, h2, h3, h4, fun i hi => nodeE_all h5 h3 i (by omega), fun i hi => edgeE_all h6 h4 i (by omega)⟩
 ·intro h
  unfold validM
  rw [if_neg (by simp [h.va]), if_neg (by simp [h.vb]), if_neg (by have := h.ln; have := h.le; omega), if_neg (by
   rw [nodeE_mk h.ln fun i hi => h.nd i (by have := h.ln; omega)]; simp)]
  exact edgeE_mk h.le fun i hi => h.ed i (by have := h.le; omega)
theorem valid_mk {g : G} (h1 : g.n.length ≤ 40) (h2 : g.e.length ≤ 80) (h3 : ∀ x, x ∈ g.n → okN x = true) (h4 : ∀ x, x ∈ g.e → fitsE g.n.length x = true) : validG g = 0 := by
 unfold validG
 rw [if_neg (by omega), if_pos]
 simp only [Bool.and_eq_true, List.all_eq_true]
 exact ⟨h3, h4⟩
theorem gt_inj {α : Type} [Inhabited α] {l : List α} (hn : l.Nodup) {i j : Nat} (hi : i < l.length) (hj : j < l.length) (h : gt l i = gt l j) : i = j := by
 rw [gt_nat hi, gt_nat hj] at h
 exact (List.getElem_inj hn).1 h
theorem gt_map {α β : Type} [Inhabited α] [Inhabited β] {l : List α} {f : α → β} {i : Nat} (h : i < l.length) : gt (l.map f) i = f (gt l i) := by
 rw [gt_nat (by simpa using h), gt_nat h]; simp
theorem gtI {α : Type} [Inhabited α] {l : List α} {y : Int} (h : 0 ≤ y ∧ y < l.length) : ∃ i : Nat, i < l.length ∧ y = (i : Int) := ⟨y.toNat, by omega, by omega⟩
theorem edge_fits {g : G} (h : validG g = 0) {i : Int} (hi : 0 ≤ i ∧ i < g.e.length) : (0 ≤ (gt g.e i).t ∧ (gt g.e i).t ≤ 99) ∧ (0 ≤ (gt g.e i).f ∧ (gt g.e i).f < g.n.length) ∧ (0 ≤ (gt g.e i).o ∧ (gt g.e i).o < g.n.length) :=
 fits_spec ((valid_spec h).2.2.2 _ (gt_mem hi.1 hi.2))
theorem nums_gt {n i : Nat} (hi : i < n) : gt (nums 0 n) i = i := by
 unfold nums
 rw [gt_nat (by simp; exact hi)]
 simp
theorem nums_mem {n : Nat} {x : Int} : x ∈ nums 0 n ↔ 0 ≤ x ∧ x < n := by
 unfold nums
 simp only [List.mem_map, List.mem_range]
 constructor
 ·rintro ⟨k, hk, rfl⟩; omega
 ·rintro ⟨h1, h2⟩; exact ⟨x.toNat, by omega, by omega⟩
theorem nums_nodup (n : Nat) : (nums 0 n).Nodup := by
 unfold nums List.Nodup
 rw [List.pairwise_map]
 exact (List.nodup_range (n := n)).imp fun h => by omega
def idM (g : G) : Mo := ⟨nums 0 g.n.length, nums 0 g.e.length⟩
theorem idM_ok {g : G} (h : validG g = 0) : MOk g g (idM g) := by
 refine ⟨h, h, by simp [idM, nums_len], by simp [idM, nums_len], fun i hi => ?_, fun i hi => ?_⟩
 ·simp only [idM]
  rw [nums_gt hi]
  exact ⟨by omega, rfl⟩
 ·simp only [idM]
  rw [nums_gt hi]
  obtain ⟨_, h1, h2⟩ := edge_fits h (i := i) (by omega)
  obtain ⟨j, hj, hj2⟩ := gtI h1
  obtain ⟨k, hk, hk2⟩ := gtI h2
  refine ⟨by omega, rfl, ?_, ?_⟩
  ·rw [hj2, nums_gt hj]
  ·rw [hk2, nums_gt hk]
end
def mergeL (p : List Int) (a b : Int) : List Int := p.map fun k => if k = max (gt p a) (gt p b) then min (gt p a) (gt p b) else k
def keyI (c : List Int) (i : Nat) : Int := (gt c ((i : Int).tmod c.length)).tmod ((i : Int) + 1)
def part (g : G) (c : List Int) : Nat → List Int
 | 0 => nums 0 g.n.length
 | k + 1 => if keyI c (k + 1) < ((k + 1 : Nat) : Int) ∧ gt g.n (keyI c (k + 1)) = gt g.n ((k + 1 : Nat) : Int) then mergeL (part g c k) (keyI c (k + 1)) ((k + 1 : Nat) : Int) else part g c k
def quo (p : List Int) : Nat → List Int × Nat
 | 0 => ([], 0)
 | i + 1 => if gt p i = i then ((quo p i).1 ++ [((quo p i).2 : Int)], (quo p i).2 + 1) else ((quo p i).1 ++ [gt (quo p i).1 (gt p i)], (quo p i).2)
section
theorem gt_appS {α : Type} [Inhabited α] {l : List α} {x : α} {i : Nat} (h : i < l.length) : gt (l ++ [x]) (i : Int) = gt l i := by
 rw [gt_nat (by simp; omega), gt_nat h, List.getElem_append_left h]
theorem gt_lastS {α : Type} [Inhabited α] {l : List α} {x : α} {i : Nat} (h : i = l.length) : gt (l ++ [x]) (i : Int) = x := by
 subst h
 rw [gt_nat (by simp)]; simp
theorem merge_len (p : List Int) (a b : Int) : (mergeL p a b).length = p.length := by simp [mergeL]
theorem gt_setH {l : List Int} {k i : Nat} {v : Int} (hi : i < l.length) : gt (l.set k v) i = if k = i then v else gt l i := by
 rw [gt_nat (by simpa using hi), gt_nat hi, List.getElem_set]
end
attribute [local irreducible] W
@[go_sem] def c_morphism_Same_r0 : LL := [qB 2 0,qB 3 1,qb 4 false]
@[go_sem] def c_morphism_Same_r1 (F : Fn) : LL := [qf 5 0 2,ql 6 1 5,qf 7 0 3,ql 8 1 7,qc 9 (F "slices.Equal.I") [.t 6,.t 8],qm 10 9,qg 10 true (qf 11 1 2),qg 10 true (ql 12 1 11),qg 10 true (qf 13 1 3),qg 10 true (ql 14 1 13),
 qg 10 true (qc 15 (F "slices.Equal.I") [.t 12,.t 14]),qP 16 10 15,qm 4 16]
@[go_sem] def c_morphism_Same (F : Fn) : LC := (.seq (.reg c_morphism_Same_r0 [2,3]) (.seq (.reg (c_morphism_Same_r1 F) [4]) .ret))
def h_morphism_Same : Hints := hOf [] (c_morphism_Same fun _ => 0)
@[go_sem] def c_r02_Finest_r0 : LL := [qn 2 1]
@[go_sem] def c_r02_Finest_r1 : LL := [qn 3 1]
@[go_sem] def c_r02_Finest_r2 : LL := [qi 4 0]
@[go_sem] def c_r02_Finest_r3 : LL := [qm 5 4,qm 6 0,qo .lss 7 5 6]
@[go_sem] def c_r02_Finest_r4 : LL := [qm 10 3,qm 11 4,⟨some 12,.buildSl 1 8 (.int .i64 (0)) 1 [(0,.t 11)],none⟩,qp 13 1 8 10 12,qm 3 13]
@[go_sem] def c_r02_Finest_r5 : LL := [qm 8 4,qk .add 9 8 1,qm 4 9]
def c_r02_Finest_b6 : LC := (.seq (.seq (.reg c_r02_Finest_r3 [0,3,4,7]) (.cond (.t 7) .skip (.exit 0))) (.seq (.block 1 (.reg c_r02_Finest_r4 [0,3,4])) (.reg c_r02_Finest_r5 [0,3,4])))
@[go_sem] def c_r02_Finest_r7 : LL := [qm 14 3,qm 2 14]
@[go_sem] def c_r02_Finest (F : Fn) : LC := (.seq (.reg c_r02_Finest_r0 [0]) (.seq (.reg c_r02_Finest_r1 [0,3]) (.seq (.seq (.reg c_r02_Finest_r2 [0,3,4]) (.block 0 (.loop [0,3,4] c_r02_Finest_b6))) (.seq (.reg c_r02_Finest_r7 [2]) .ret))))
def h_r02_Finest : Hints := hOf [] (c_r02_Finest fun _ => 0)
@[go_sem] def c_r06_Of_r0 : LL := [qB 1 0,qa 2 [.nl 1,.nl 1]]
@[go_sem] def c_r06_Of_r1 (F : Fn) : LL := [qf 3 0 1,ql 4 1 3,qz 5 4,qc 6 (F "r02.Finest") [.t 5],qf 7 1 1,ql 8 1 7,qz 9 8,qc 10 (F "r02.Finest") [.t 9],qu 11 [.nl 1,.nl 1] [(0,1,.t 6),(1,1,.t 10)],qs 2 2 11]
@[go_sem] def c_r06_Of (F : Fn) : LC := (.seq (.reg c_r06_Of_r0 [1,2]) (.seq (.dreg [(3,none,[],true),(5,(some 16),[3],false)] (c_r06_Of_r1 F) [2]) .ret))
def h_r06_Of : Hints := hOf [] (c_r06_Of fun _ => 0)
section
variable (P : Program) (F : String → Nat)
def K_morphism_Same : Prop := ∀ a b : Mo, a.n.length ≤ maxL → a.e.length ≤ maxL → FC P (F "morphism.Same") [mD a, mD b] (.bool (decide (a = b))) []
def K_r02_Finest : Prop := ∀ n : Nat, n ≤ 1000000 → FC P (F "r02.Finest") [.int .i64 n] (.arr 1 (ints (nums 0 n))) []
def K_r06_Of : Prop := ∀ g : G, g.n.length ≤ 1000000 → g.e.length ≤ 1000000 → FC P (F "r06.Of") [gD g] (mA (idM g)) []
end
section
variable {P : Program} {F : String → Nat} {α : Type}
theorem fillL {α : Type} (l : List α) (x z : α) (m : Nat) : (l ++ List.replicate (m + 1) z).set l.length x = (l ++ [x]) ++ List.replicate m z := by
 rw [List.set_append_right _ _ (Nat.le_refl _)]
 simp [List.replicate_succ]
theorem w_r02_Finest (n : Nat) (h2 : n ≤ 1000000) : W P (c_r02_Finest F) (Done [.t 2] [] (.arr 1 (ints (nums 0 n))) []) (init [.int .i64 n]) := by
 refine W_of ?_
 simp (disch := omega) only [go_sem, ↓reduceIte]
 refine W_loop (fun i : Nat => ⟨[(0, .int .i64 n), (3, .sl 0 0 i), (4, .int .i64 i)], [(0, .arr 1 (ints (nums 0 i)))], 1⟩) (fun i => i ≤ n) (fun i => n - i) 0 ?_ ?_ ?_
 ·simp (disch := omega) only [go_sem, ↓reduceIte, nums_zero, ints_nil]
  rfl
 ·omega
 ·intro i hi
  have e1 := nums_len 0 i
  simp (disch := omega) only [go_sem, ↓reduceIte, c_r02_Finest_b6]
  refine bran_dec (fun a => ?_) (fun a => ?_)
  ·simp (disch := omega) only [go_sem, ↓reduceIte, e1]
   exact ⟨i + 1, by simp [nums_succ], by omega, by omega⟩
  ·obtain rfl : i = n := by omega
   simp (disch := omega) only [go_sem, ↓reduceIte, e1]
theorem w_r06_Of (hn : K_r02_Finest P F) (g : G) (h1 : g.n.length ≤ 1000000) (h2 : g.e.length ≤ 1000000) : W P (c_r06_Of F) (Done [.c 2 true 2] [] (mA (idM g)) []) (init [gD g]) := by
 refine W_of ?_
 obtain ⟨gn, ge⟩ := g
 simp only at h1 h2
 have r1 := hn gn.length (by omega)
 have r2 := hn ge.length (by omega)
 simp only [gD]
 simp (disch := omega) only [go_sem, ↓reduceIte]
 refine call_by r1 ?_
 simp (disch := omega) only [go_sem, ↓reduceIte]
 refine call_by r2 ?_
 simp (disch := omega) only [go_sem, ↓reduceIte]
 simp [idM, mA]
theorem w_morphism_Same (he : K_slices_Equal_I P F) (a b : Mo) (h1 : a.n.length ≤ maxL) (h2 : a.e.length ≤ maxL) : W P (c_morphism_Same F) (Done [.t 4] [] (.bool (decide (a = b))) []) (init [mD a, mD b]) := by
 refine W_of ?_
 obtain ⟨an, ae⟩ := a
 obtain ⟨bn, be⟩ := b
 simp only at h1 h2
 simp (disch := omega) only [go_sem, ↓reduceIte, mD]
 refine call_by (he _ _ h1) ?_
 simp (disch := omega) only [go_sem, ↓reduceIte]
 refine bran_dec (fun c => ?_) (fun c => ?_)
 ·subst c
  simp (disch := omega) only [go_sem, ↓reduceIte]
  refine call_by (he _ _ h2) ?_
  simp (disch := omega) only [go_sem, ↓reduceIte]
  simp
 ·simp (disch := omega) only [go_sem, ↓reduceIte, c]
  simp [c]
end
end Go.Am
