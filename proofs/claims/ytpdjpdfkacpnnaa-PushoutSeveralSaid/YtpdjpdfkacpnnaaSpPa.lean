/- The graph package: searches. -/
import Derived.Test.YtpdjpdfkacpnnaaAmPh
namespace Go.Am
open Go
set_option linter.unusedVariables false
set_option linter.unusedSimpArgs false
@[go_sem] def c_graph_within_r0 : LL := [qb 4 false]
@[go_sem] def c_graph_within_r1 : LL := [qm 5 0,qk .geq 6 5 0,qm 7 6,qg 7 true (qm 8 0),qg 7 true (qm 9 1),qg 7 true (qo .leq 10 8 9),qP 11 7 10,qm 4 11]
@[go_sem] def c_graph_within (F : Fn) : LC := (.seq (.reg c_graph_within_r0 [0,1]) (.seq (.reg c_graph_within_r1 [4]) .ret))
def h_graph_within : Hints := hOf [] (c_graph_within fun _ => 0)
@[go_sem] def c_graph_fits_r0 : LL := [qB 2 0,qb 4 false]
@[go_sem] def c_graph_fits_r1 (F : Fn) : LL := [qf 5 0 2,ql 6 1 5,qc 7 (F "graph.within") [.t 6,.k (.int .i64 (99))],qm 8 7,qg 8 true (qf 9 1 2),qg 8 true (ql 10 1 9),qg 8 true (qm 11 1),qg 8 true (qk .sub 12 11 1),
 qg 8 true (qc 13 (F "graph.within") [.t 10,.t 12]),qP 14 8 13,qm 15 14,qg 15 true (qf 16 2 2),qg 15 true (ql 17 1 16),qg 15 true (qm 18 1),qg 15 true (qk .sub 19 18 1),
 qg 15 true (qc 20 (F "graph.within") [.t 17,.t 19]),qP 21 15 20,qm 4 21]
@[go_sem] def c_graph_fits (F : Fn) : LC := (.seq (.reg c_graph_fits_r0 [1,2]) (.seq (.reg (c_graph_fits_r1 F) [4]) .ret))
def h_graph_fits : Hints := hOf [] (c_graph_fits fun _ => 0)
@[go_sem] def c_graph_Valid_r0 : LL := [qB 1 0,qi 2 0]
@[go_sem] def c_graph_Valid_r1 : LL := [qf 3 0 1,ql 4 1 3,qz 5 4,qk .gtr 6 5 40,qm 7 6,qg 7 false (qf 8 1 1),qg 7 false (ql 9 1 8),qg 7 false (qz 10 9),qg 7 false (qk .gtr 11 10 80),qQ 12 7 11]
@[go_sem] def c_graph_Valid_r2 : LL := [qi 2 3]
@[go_sem] def c_graph_Valid_r3 (F : Fn) : LL := [qf 13 0 1,ql 14 1 13,⟨some 15,.call (F "slices.ContainsFunc.I") [.t 14,.k (.clo (F "graph.Valid.1") [])] [],none⟩]
@[go_sem] def c_graph_Valid_r4 : LL := [qi 2 6]
@[go_sem] def c_graph_Valid_r5 (F : Fn) : LL := [qf 16 1 1,ql 17 1 16,⟨some 18,.mkf (F "graph.Valid.2") [.t 1],none⟩,qc 19 (F "slices.ContainsFunc.E") [.t 17,.t 18]]
@[go_sem] def c_graph_Valid_r6 : LL := [qi 2 6]
@[go_sem] def c_graph_Valid_r7 : LL := [qi 2 0]
@[go_sem] def c_graph_Valid (F : Fn) : LC := (.seq (.reg c_graph_Valid_r0 [1]) (.seq (.seq (.reg c_graph_Valid_r1 [1,12]) (.cond (.t 12) (.seq (.reg c_graph_Valid_r2 [2]) .ret) .skip)) (.seq (.seq (.reg (c_graph_Valid_r3 F) [1,15]) (.cond (.t 15) (.seq (.reg c_graph_Valid_r4 [2]) .ret) .skip)) (.seq (.seq (.reg (c_graph_Valid_r5 F) [19]) (.cond (.t 19) (.seq (.reg c_graph_Valid_r6 [2]) .ret) .skip)) (.seq (.reg c_graph_Valid_r7 [2]) .ret)))))
def h_graph_Valid : Hints := hOf [] (c_graph_Valid fun _ => 0)
@[go_sem] def c_graph_Valid_1_r0 : LL := [qb 2 false]
@[go_sem] def c_graph_Valid_1_r1 (F : Fn) : LL := [qm 3 0,qc 4 (F "graph.within") [.t 3,.k (.int .i64 (99))],qv 5 4,qm 2 5]
@[go_sem] def c_graph_Valid_1 (F : Fn) : LC := (.seq (.reg c_graph_Valid_1_r0 [0]) (.seq (.reg (c_graph_Valid_1_r1 F) [2]) .ret))
def h_graph_Valid_1 : Hints := hOf [] (c_graph_Valid_1 fun _ => 0)
@[go_sem] def c_graph_Valid_2_r0 : LL := [qB 2 0,qb 3 false]
@[go_sem] def c_graph_Valid_2_r1 (F : Fn) : LL := [qL 4 3 2,qf 5 0 1,ql 6 1 5,qz 7 6,qc 8 (F "graph.fits") [.t 4,.t 7],qv 9 8,qm 3 9]
@[go_sem] def c_graph_Valid_2 (F : Fn) : LC := (.seq (.reg c_graph_Valid_2_r0 [1,2]) (.seq (.reg (c_graph_Valid_2_r1 F) [3]) .ret))
def h_graph_Valid_2 : Hints := hOf [] (c_graph_Valid_2 fun _ => 0)
@[go_sem] def c_slices_IndexFunc_I_r0 : LL := [qi 4 0]
@[go_sem] def c_slices_IndexFunc_I_r1 : LL := [qm 6 0,qz 7 6,qi 8 0]
@[go_sem] def c_slices_IndexFunc_I_r2 : LL := [qo .lss 9 8 7]
@[go_sem] def c_slices_IndexFunc_I_r3 : LL := [qm 10 8,qm 5 10]
@[go_sem] def c_slices_IndexFunc_I_r4 : LL := [qm 11 1,qm 12 0,qm 13 5,qd 14 1 12 13,ql 15 1 14,⟨some 16,.callv (.t 11) [.t 15],none⟩]
@[go_sem] def c_slices_IndexFunc_I_r5 : LL := [qm 17 5,qm 4 17]
@[go_sem] def c_slices_IndexFunc_I_r6 : LL := [qk .add 18 8 1,qm 8 18]
def c_slices_IndexFunc_I_b7 : LC := (.seq (.reg c_slices_IndexFunc_I_r2 [0,1,7,8,9]) (.seq (.cond (.t 9) .skip (.exit 0)) (.seq (.block 1 (.seq (.reg c_slices_IndexFunc_I_r3 [0,1,5,7,8]) (.seq (.reg c_slices_IndexFunc_I_r4 [0,1,5,7,8,16]) (.cond (.t 16) (.seq (.reg c_slices_IndexFunc_I_r5 [4]) .ret) .skip)))) (.reg c_slices_IndexFunc_I_r6 [0,1,7,8]))))
@[go_sem] def c_slices_IndexFunc_I_r8 : LL := [qi 4 (-1)]
@[go_sem] def c_slices_IndexFunc_I (F : Fn) : LC := (.seq (.reg c_slices_IndexFunc_I_r0 [0,1]) (.seq (.seq (.reg c_slices_IndexFunc_I_r1 [0,1,7,8]) (.block 0 (.loop [0,1,7,8] c_slices_IndexFunc_I_b7))) (.seq (.reg c_slices_IndexFunc_I_r8 [4]) .ret)))
def h_slices_IndexFunc_I : Hints := hOf [] (c_slices_IndexFunc_I fun _ => 0)
@[go_sem] def c_slices_ContainsFunc_I_r0 : LL := [qb 4 false]
@[go_sem] def c_slices_ContainsFunc_I_r1 (F : Fn) : LL := [qm 5 0,qm 6 1,qc 7 (F "slices.IndexFunc.I") [.t 5,.t 6],qk .geq 8 7 0,qm 4 8]
@[go_sem] def c_slices_ContainsFunc_I (F : Fn) : LC := (.seq (.reg c_slices_ContainsFunc_I_r0 [0,1]) (.seq (.reg (c_slices_ContainsFunc_I_r1 F) [4]) .ret))
def h_slices_ContainsFunc_I : Hints := hOf [] (c_slices_ContainsFunc_I fun _ => 0)
@[go_sem] def c_slices_IndexFunc_E_r0 : LL := [qi 4 0]
@[go_sem] def c_slices_IndexFunc_E_r1 : LL := [qm 6 0,qz 7 6,qi 8 0]
@[go_sem] def c_slices_IndexFunc_E_r2 : LL := [qo .lss 9 8 7]
@[go_sem] def c_slices_IndexFunc_E_r3 : LL := [qm 10 8,qm 5 10]
@[go_sem] def c_slices_IndexFunc_E_r4 : LL := [qm 11 1,qm 12 0,qm 13 5,qd 14 3 12 13,qL 15 3 14,⟨some 16,.callv (.t 11) [.t 15],none⟩]
@[go_sem] def c_slices_IndexFunc_E_r5 : LL := [qm 17 5,qm 4 17]
@[go_sem] def c_slices_IndexFunc_E_r6 : LL := [qk .add 18 8 1,qm 8 18]
def c_slices_IndexFunc_E_b7 : LC := (.seq (.reg c_slices_IndexFunc_E_r2 [0,1,7,8,9]) (.seq (.cond (.t 9) .skip (.exit 0)) (.seq (.block 1 (.seq (.reg c_slices_IndexFunc_E_r3 [0,1,5,7,8]) (.seq (.reg c_slices_IndexFunc_E_r4 [0,1,5,7,8,16]) (.cond (.t 16) (.seq (.reg c_slices_IndexFunc_E_r5 [4]) .ret) .skip)))) (.reg c_slices_IndexFunc_E_r6 [0,1,7,8]))))
@[go_sem] def c_slices_IndexFunc_E_r8 : LL := [qi 4 (-1)]
@[go_sem] def c_slices_IndexFunc_E (F : Fn) : LC := (.seq (.reg c_slices_IndexFunc_E_r0 [0,1]) (.seq (.seq (.reg c_slices_IndexFunc_E_r1 [0,1,7,8]) (.block 0 (.loop [0,1,7,8] c_slices_IndexFunc_E_b7))) (.seq (.reg c_slices_IndexFunc_E_r8 [4]) .ret)))
def h_slices_IndexFunc_E : Hints := hOf [] (c_slices_IndexFunc_E fun _ => 0)
@[go_sem] def c_slices_ContainsFunc_E_r0 : LL := [qb 4 false]
@[go_sem] def c_slices_ContainsFunc_E_r1 (F : Fn) : LL := [qm 5 0,qm 6 1,qc 7 (F "slices.IndexFunc.E") [.t 5,.t 6],qk .geq 8 7 0,qm 4 8]
@[go_sem] def c_slices_ContainsFunc_E (F : Fn) : LC := (.seq (.reg c_slices_ContainsFunc_E_r0 [0,1]) (.seq (.reg (c_slices_ContainsFunc_E_r1 F) [4]) .ret))
def h_slices_ContainsFunc_E : Hints := hOf [] (c_slices_ContainsFunc_E fun _ => 0)
section
variable (P : Program) (F : String → Nat)
def fitsE (n : Int) (x : E) : Bool := decide (0 ≤ x.t ∧ x.t ≤ 99) && decide (0 ≤ x.f ∧ x.f ≤ n - 1) && decide (0 ≤ x.o ∧ x.o ≤ n - 1)
def idx {α : Type} (p : α → Bool) : List α → Int → Int
 | [], _ => -1
 | a :: l, i => if p a then i else idx p l (i + 1)
def K_graph_within : Prop := ∀ n m : Int, FC P (F "graph.within") [.int .i64 n, .int .i64 m] (.bool (decide (0 ≤ n ∧ n ≤ m))) []
def K_graph_fits : Prop := ∀ (x : E) (n : Int), 0 ≤ n ∧ n ≤ 1000000 → FC P (F "graph.fits") [edD x, .int .i64 n] (.bool (fitsE n x)) []
structure _root_.Go.Am.G where
 n : List Int
 e : List E
 deriving DecidableEq, Inhabited
def gD (g : G) : D := .agg [.lst 1 (ints g.n), .lst 3 (eds g.e)]
def gA (g : G) : D := .agg [.arr 1 (ints g.n), .arr 3 (eds g.e)]
def okN (x : Int) : Bool := decide (0 ≤ x ∧ x ≤ 99)
def validG (g : G) : Int := if 40 < g.n.length ∨ 80 < g.e.length then 3 else if g.n.all okN && g.e.all (fitsE g.n.length) then 0 else 6
def K_slices_IndexFunc_I : Prop := ∀ (l : List Int), l.length ≤ maxL → ∀ (g : Nat) (cs : List D), cs.all okC2 = true → ∀ p : Int → Bool, (∀ x, x ∈ l → FC P g (.int .i64 x :: cs) (.bool (p x)) []) → FC P (F "slices.IndexFunc.I") [.lst 1 (ints l), .clo g cs] (.int .i64 (idx p l 0)) []
def K_slices_IndexFunc_E : Prop := ∀ (l : List E), l.length ≤ maxL → ∀ (g : Nat) (cs : List D), cs.all okC2 = true → ∀ p : E → Bool, (∀ x, x ∈ l → FC P g (edD x :: cs) (.bool (p x)) []) → FC P (F "slices.IndexFunc.E") [.lst 3 (eds l), .clo g cs] (.int .i64 (idx p l 0)) []
def K_slices_ContainsFunc_I : Prop := ∀ (l : List Int), l.length ≤ maxL → ∀ (g : Nat) (cs : List D), cs.all okC2 = true → ∀ p : Int → Bool, (∀ x, x ∈ l → FC P g (.int .i64 x :: cs) (.bool (p x)) []) → FC P (F "slices.ContainsFunc.I") [.lst 1 (ints l), .clo g cs] (.bool (l.any p)) []
def K_slices_ContainsFunc_E : Prop := ∀ (l : List E), l.length ≤ maxL → ∀ (g : Nat) (cs : List D), cs.all okC2 = true → ∀ p : E → Bool, (∀ x, x ∈ l → FC P g (edD x :: cs) (.bool (p x)) []) → FC P (F "slices.ContainsFunc.E") [.lst 3 (eds l), .clo g cs] (.bool (l.any p)) []
def K_graph_Valid_1 : Prop := ∀ x : Int, FC P (F "graph.Valid.1") [.int .i64 x] (.bool (!decide (0 ≤ x ∧ x ≤ 99))) []
def K_graph_Valid_2 : Prop := ∀ (x : E) (ns : List Int) (es : List E), ns.length ≤ 1000000 → FC P (F "graph.Valid.2") [edD x, .ref [.lst 1 (ints ns), .lst 3 (eds es)]] (.bool (!fitsE ns.length x)) []
def K_graph_Valid : Prop := ∀ g : G, FC P (F "graph.Valid") [gD g] (.int .i64 (validG g)) []
theorem _root_.Go.Am.gt_mem {α : Type} [Inhabited α] {l : List α} {j : Int} (h0 : 0 ≤ j) (h : j < l.length) : gt l j ∈ l := List.mem_of_getElem? (get_gt h0 h)
end
section
variable {P : Program} {F : String → Nat} {α : Type}
theorem idx_drop [Inhabited α] (p : α → Bool) (l : List α) (i : Nat) (h : i < l.length) : idx p (l.drop i) i = if p (gt l i) then (i : Int) else idx p (l.drop (i + 1)) ((i + 1 : Nat) : Int) := by
 rw [List.drop_eq_getElem_cons h, gt_nat h]; rfl
theorem idx_ge (p : α → Bool) : ∀ (l : List α) (i : Int), 0 ≤ i → (decide (0 ≤ idx p l i)) = l.any p
 | [], i, h => by simp [idx]
 | a :: l, i, h => by
  simp only [idx, List.any_cons]
  split
  ·rename_i ha; simp [ha, h]
  ·rename_i ha; rw [idx_ge p l (i + 1) (by omega)]; simp [ha]
theorem w_graph_within (n m : Int) : W P (c_graph_within F) (Done [.t 4] [] (.bool (decide (0 ≤ n ∧ n ≤ m))) []) (init [.int .i64 n, .int .i64 m]) := by
 refine W_of ?_
 simp (disch := omega) only [go_sem, ↓reduceIte]
 refine bran_dec (fun h => ?_) (fun h => ?_)
 ·simp (disch := omega) only [go_sem, ↓reduceIte, h]
 ·simp (disch := omega) only [go_sem, ↓reduceIte, h]
theorem w_graph_fits (h : K_graph_within P F) (x : E) (n : Int) (hn : 0 ≤ n ∧ n ≤ 1000000) : W P (c_graph_fits F) (Done [.t 4] [] (.bool (fitsE n x)) []) (init [edD x, .int .i64 n]) := by
 refine W_of ?_
 simp (disch := omega) only [go_sem, ↓reduceIte, edD]
 refine call_by (h _ _) ?_
 simp (disch := omega) only [go_sem, ↓reduceIte]
 refine bran_dec (fun h1 => ?_) (fun h1 => ?_)
 ·simp (disch := omega) only [go_sem, ↓reduceIte, h1]
  refine call_by (h _ _) ?_
  simp (disch := omega) only [go_sem, ↓reduceIte, h1]
  refine bran_dec (fun h2 => ?_) (fun h2 => ?_)
  ·simp (disch := omega) only [go_sem, ↓reduceIte, h2]
   refine call_by (h _ _) ?_
   simp (disch := omega) only [go_sem, ↓reduceIte, h2]
   simp [fitsE, h1, h2]
  ·simp (disch := omega) only [go_sem, ↓reduceIte, h2]
   simp [fitsE, h1, h2]
 ·simp (disch := omega) only [go_sem, ↓reduceIte, h1]
  simp [fitsE, h1]
theorem w_slices_IndexFunc_I (l : List Int) (hl : l.length ≤ maxL) (g : Nat) (cs : List D) (hcs : cs.all okC2 = true) (p : Int → Bool) (hg : ∀ x, x ∈ l → FC P g (.int .i64 x :: cs) (.bool (p x)) []) : W P (c_slices_IndexFunc_I F) (Done [.t 4] [] (.int .i64 (idx p l 0)) []) (init [.lst 1 (ints l), .clo g cs]) := by
 refine W_of ?_
 unfold maxL at hl
 have e1 := caps_lend2 hcs
 have e2 := caps_ren hcs
 simp (disch := omega) only [go_sem, ↓reduceIte]
 refine W_loop (fun i : Nat => ⟨[(0, .lst 1 (ints l)), (1, .clo g cs), (7, .int .i64 l.length), (8, .int .i64 i)], [], 0⟩) (fun i => i ≤ l.length ∧ idx p l 0 = idx p (l.drop i) i) (fun i => l.length - i) 0 ?_ ?_ ?_
 ·simp (disch := omega) only [go_sem, ↓reduceIte, e2]
  rfl
 ·simp
 ·intro i hi
  simp (disch := omega) only [go_sem, ↓reduceIte, c_slices_IndexFunc_I_b7]
  refine bran_dec (fun h => ?_) (fun h => ?_)
  ·have hd := idx_drop p l i (by omega)
   simp (disch := omega) only [go_sem, ↓reduceIte, e1]
   refine call_by (hg _ (gt_mem (by omega) h)) ?_
   simp (disch := omega) only [go_sem, ↓reduceIte]
   refine bran_by (fun h2 => ?_) (fun h2 => ?_)
   ·simp (disch := omega) only [go_sem, ↓reduceIte]
    rw [hi.2, hd, if_pos h2]
   ·simp (disch := omega) only [go_sem, ↓reduceIte, e2]
    exact ⟨i + 1, by simp, ⟨by omega, by rw [hi.2, hd, if_neg (by simp [h2])]⟩, by omega⟩
  ·simp (disch := omega) only [go_sem, ↓reduceIte]
   rw [hi.2, List.drop_of_length_le (by omega)]
   rfl
theorem w_slices_IndexFunc_E (l : List E) (hl : l.length ≤ maxL) (g : Nat) (cs : List D) (hcs : cs.all okC2 = true) (p : E → Bool) (hg : ∀ x, x ∈ l → FC P g (edD x :: cs) (.bool (p x)) []) : W P (c_slices_IndexFunc_E F) (Done [.t 4] [] (.int .i64 (idx p l 0)) []) (init [.lst 3 (eds l), .clo g cs]) := by
 refine W_of ?_
 unfold maxL at hl
 have e1 := caps_lend2 hcs
 have e2 := caps_ren hcs
 simp (disch := omega) only [go_sem, ↓reduceIte]
 refine W_loop (fun i : Nat => ⟨[(0, .lst 3 (eds l)), (1, .clo g cs), (7, .int .i64 l.length), (8, .int .i64 i)], [], 0⟩) (fun i => i ≤ l.length ∧ idx p l 0 = idx p (l.drop i) i) (fun i => l.length - i) 0 ?_ ?_ ?_
 ·simp (disch := omega) only [go_sem, ↓reduceIte, e2]
  rfl
 ·simp
 ·intro i hi
  simp (disch := omega) only [go_sem, ↓reduceIte, c_slices_IndexFunc_E_b7]
  refine bran_dec (fun h => ?_) (fun h => ?_)
  ·have hd := idx_drop p l i (by omega)
   simp (disch := omega) only [go_sem, ↓reduceIte, e1]
   refine call_by (hg _ (gt_mem (by omega) h)) ?_
   simp (disch := omega) only [go_sem, ↓reduceIte]
   refine bran_by (fun h2 => ?_) (fun h2 => ?_)
   ·simp (disch := omega) only [go_sem, ↓reduceIte]
    rw [hi.2, hd, if_pos h2]
   ·simp (disch := omega) only [go_sem, ↓reduceIte, e2]
    exact ⟨i + 1, by simp, ⟨by omega, by rw [hi.2, hd, if_neg (by simp [h2])]⟩, by omega⟩
  ·simp (disch := omega) only [go_sem, ↓reduceIte]
   rw [hi.2, List.drop_of_length_le (by omega)]
   rfl
theorem w_slices_ContainsFunc_I (hi : K_slices_IndexFunc_I P F) (l : List Int) (hl : l.length ≤ maxL) (g : Nat) (cs : List D) (hcs : cs.all okC2 = true) (p : Int → Bool) (hg : ∀ x, x ∈ l → FC P g (.int .i64 x :: cs) (.bool (p x)) []) : W P (c_slices_ContainsFunc_I F) (Done [.t 4] [] (.bool (l.any p)) []) (init [.lst 1 (ints l), .clo g cs]) := by
 refine W_of ?_
 simp (disch := omega) only [go_sem, ↓reduceIte, caps_lend hcs]
 refine call_by (hi l hl g cs hcs p hg) ?_
 simp (disch := omega) only [go_sem, ↓reduceIte]
 rw [idx_ge _ _ _ (by omega)]
theorem w_slices_ContainsFunc_E (hi : K_slices_IndexFunc_E P F) (l : List E) (hl : l.length ≤ maxL) (g : Nat) (cs : List D) (hcs : cs.all okC2 = true) (p : E → Bool) (hg : ∀ x, x ∈ l → FC P g (edD x :: cs) (.bool (p x)) []) : W P (c_slices_ContainsFunc_E F) (Done [.t 4] [] (.bool (l.any p)) []) (init [.lst 3 (eds l), .clo g cs]) := by
 refine W_of ?_
 simp (disch := omega) only [go_sem, ↓reduceIte, caps_lend hcs]
 refine call_by (hi l hl g cs hcs p hg) ?_
 simp (disch := omega) only [go_sem, ↓reduceIte]
 rw [idx_ge _ _ _ (by omega)]
theorem w_graph_Valid_1 (h : K_graph_within P F) (x : Int) : W P (c_graph_Valid_1 F) (Done [.t 2] [] (.bool (!decide (0 ≤ x ∧ x ≤ 99))) []) (init [.int .i64 x]) := by
 refine W_of ?_
 simp (disch := omega) only [go_sem, ↓reduceIte]
 refine call_by (h _ _) ?_
 simp (disch := omega) only [go_sem, ↓reduceIte]
theorem w_graph_Valid_2 (h : K_graph_fits P F) (x : E) (ns : List Int) (es : List E) (hn : ns.length ≤ 1000000) : W P (c_graph_Valid_2 F) (Done [.t 3] [] (.bool (!fitsE ns.length x)) []) (init [edD x, .ref [.lst 1 (ints ns), .lst 3 (eds es)]]) := by
 refine W_of ?_
 simp (disch := omega) only [go_sem, ↓reduceIte, edD]
 refine call_by (h _ _ (by omega)) ?_
 simp (disch := omega) only [go_sem, ↓reduceIte]
theorem w_graph_Valid (h1 : K_slices_ContainsFunc_I P F) (h2 : K_slices_ContainsFunc_E P F) (hv1 : K_graph_Valid_1 P F) (hv2 : K_graph_Valid_2 P F) (g : G) : W P (c_graph_Valid F) (Done [.t 2] [] (.int .i64 (validG g)) []) (init [gD g]) := by
 refine W_of ?_
 obtain ⟨ns, es⟩ := g
 simp (disch := omega) only [go_sem, ↓reduceIte, gD]
 refine bran_dec (fun a1 => ?_) (fun a1 => ?_)
 ·simp (disch := omega) only [go_sem, ↓reduceIte, a1]
  simp [validG]
  omega
 ·simp (disch := omega) only [go_sem, ↓reduceIte, a1]
  refine bran_dec (fun a2 => ?_) (fun a2 => ?_)
  ·simp (disch := omega) only [go_sem, ↓reduceIte]
   simp [validG]
   omega
  ·simp (disch := omega) only [go_sem, ↓reduceIte]
   refine call_by (h1 ns (by unfold maxL; omega) _ [] rfl _ (fun x _ => hv1 x)) ?_
   simp (disch := omega) only [go_sem, ↓reduceIte]
   refine bran_by (fun a3 => ?_) (fun a3 => ?_)
   ·simp (disch := omega) only [go_sem, ↓reduceIte]
    have e : ns.all okN = false := by
     rw [← Bool.not_eq_true, List.all_eq_true]
     rw [List.any_eq_true] at a3
     obtain ⟨x, hx, hp⟩ := a3
     exact fun h => by have := h x hx; simp [okN] at this hp; omega
    simp [validG, a1, a2, e]; omega
   ·have e : ns.all okN = true := by
     rw [List.all_eq_true]
     rw [List.any_eq_false] at a3
     exact fun x hx => by have := a3 x hx; simpa [okN] using this
    simp (disch := omega) only [go_sem, ↓reduceIte]
    refine call_by (h2 es (by unfold maxL; omega) _ _ rfl _ (fun x _ => hv2 x ns es (by omega))) ?_
    simp (disch := omega) only [go_sem, ↓reduceIte]
    refine bran_by (fun a4 => ?_) (fun a4 => ?_)
    ·simp (disch := omega) only [go_sem, ↓reduceIte]
     have e2 : es.all (fitsE ns.length) = false := by
      rw [← Bool.not_eq_true, List.all_eq_true]
      rw [List.any_eq_true] at a4
      obtain ⟨x, hx, hp⟩ := a4
      exact fun h => by have := h x hx; simp [this] at hp
     simp [validG, a1, a2, e, e2]; omega
    ·simp (disch := omega) only [go_sem, ↓reduceIte]
     have e2 : es.all (fitsE ns.length) = true := by
      rw [List.all_eq_true]
      rw [List.any_eq_false] at a4
      exact fun x hx => by have := a4 x hx; simpa using this
     simp [validG, a1, a2, e, e2]; omega
end
@[go_sem] def c_graph_numbers_r0 : LL := [qn 4 1]
@[go_sem] def c_graph_numbers_r1 : LL := [qn 5 1]
@[go_sem] def c_graph_numbers_r2 : LL := [qm 7 1,qi 8 0]
@[go_sem] def c_graph_numbers_r3 : LL := [qo .lss 9 8 7]
@[go_sem] def c_graph_numbers_r4 : LL := [qm 10 8,qm 6 10]
@[go_sem] def c_graph_numbers_r5 : LL := [qm 11 5,qm 12 0,qm 13 6,qo .add 14 12 13,⟨some 15,.buildSl 1 8 (.int .i64 (0)) 1 [(0,.t 14)],none⟩,qp 16 1 8 11 15,qm 5 16]
@[go_sem] def c_graph_numbers_r6 : LL := [qk .add 17 8 1,qm 8 17]
def c_graph_numbers_b7 : LC := (.seq (.reg c_graph_numbers_r3 [0,5,7,8,9]) (.seq (.cond (.t 9) .skip (.exit 0)) (.seq (.block 1 (.seq (.reg c_graph_numbers_r4 [0,5,6,7,8]) (.reg c_graph_numbers_r5 [0,5,7,8]))) (.reg c_graph_numbers_r6 [0,5,7,8]))))
@[go_sem] def c_graph_numbers_r8 : LL := [qm 18 5,qm 4 18]
@[go_sem] def c_graph_numbers (F : Fn) : LC := (.seq (.reg c_graph_numbers_r0 [0,1]) (.seq (.reg c_graph_numbers_r1 [0,1,5]) (.seq (.seq (.reg c_graph_numbers_r2 [0,5,7,8]) (.block 0 (.loop [0,5,7,8] c_graph_numbers_b7))) (.seq (.reg c_graph_numbers_r8 [4]) .ret))))
def h_graph_numbers : Hints := hOf [] (c_graph_numbers fun _ => 0)
@[go_sem] def c_r05_kind_r0 : LL := [qb 2 false]
@[go_sem] def c_r05_kind_r1 : LL := [qm 3 0,qk .geq 4 3 0,qm 5 4,qg 5 true (qm 6 0),qg 5 true (qk .leq 7 6 99),qP 8 5 7,qm 2 8]
@[go_sem] def c_r05_kind (F : Fn) : LC := (.seq (.reg c_r05_kind_r0 [0]) (.seq (.reg c_r05_kind_r1 [2]) .ret))
def h_r05_kind : Hints := hOf [] (c_r05_kind fun _ => 0)
@[go_sem] def c_r05_right_r0 : LL := [qB 2 0,qb 4 false]
@[go_sem] def c_r05_right_r1 (F : Fn) : LL := [qf 5 0 2,ql 6 1 5,qc 7 (F "r05.kind") [.t 6],qm 8 7,qg 8 true (qf 9 1 2),qg 8 true (ql 10 1 9),qg 8 true (qk .geq 11 10 0),qP 12 8 11,qm 13 12,qg 13 true (qf 14 1 2),qg 13 true (ql 15 1 14),
 qg 13 true (qm 16 1),qg 13 true (qo .lss 17 15 16),qP 18 13 17,qm 19 18,qg 19 true (qf 20 2 2),qg 19 true (ql 21 1 20),qg 19 true (qk .geq 22 21 0),qP 23 19 22,qm 24 23,
 qg 24 true (qf 25 2 2),qg 24 true (ql 26 1 25),qg 24 true (qm 27 1),qg 24 true (qo .lss 28 26 27),qP 29 24 28,qm 4 29]
@[go_sem] def c_r05_right (F : Fn) : LC := (.seq (.reg c_r05_right_r0 [1,2]) (.seq (.reg (c_r05_right_r1 F) [4]) .ret))
def h_r05_right : Hints := hOf [] (c_r05_right fun _ => 0)
@[go_sem] def c_r05_Copied_r0 : LL := [qB 1 0,qa 2 [.nl 1,.nl 3]]
@[go_sem] def c_r05_Copied_r1 : LL := [⟨some 3,.buildSl 1 8 (.int .i64 (0)) 0 [],none⟩,qf 4 0 1,ql 5 1 4,qp 6 1 8 3 5,⟨some 7,.buildSl 3 24 (.agg [.int .i64 (0),.int .i64 (0),.int .i64 (0)]) 0 [],none⟩,qf 8 1 1,
 ql 9 1 8,qp 10 3 24 7 9,qu 11 [.nl 1,.nl 3] [(0,1,.t 6),(1,1,.t 10)],qs 2 2 11]
@[go_sem] def c_r05_Copied (F : Fn) : LC := (.seq (.reg c_r05_Copied_r0 [1,2]) (.seq (.dreg [(2,(some 2),[],false),(3,none,[],true),(6,(some 32),[3],false)] c_r05_Copied_r1 [2]) .ret))
def h_r05_Copied : Hints := hOf [] (c_r05_Copied fun _ => 0)
@[go_sem] def c_r05_Few_r0 : LL := [qB 1 0,qb 2 false]
@[go_sem] def c_r05_Few_r1 : LL := [qf 3 0 1,ql 4 1 3,qz 5 4,qk .leq 6 5 45,qm 7 6,qg 7 true (qf 8 1 1),qg 7 true (ql 9 1 8),qg 7 true (qz 10 9),qg 7 true (qk .leq 11 10 90),qP 12 7 11,qm 2 12]
@[go_sem] def c_r05_Few (F : Fn) : LC := (.seq (.reg c_r05_Few_r0 [1]) (.seq (.reg c_r05_Few_r1 [2]) .ret))
def h_r05_Few : Hints := hOf [] (c_r05_Few fun _ => 0)
@[go_sem] def c_r05_SameInts_r0 : LL := [qb 4 false]
@[go_sem] def c_r05_SameInts_r1 : LL := [qm 6 0,qz 7 6,qm 8 1,qz 9 8,qo .neq 10 7 9]
@[go_sem] def c_r05_SameInts_r2 : LL := [qb 4 false]
@[go_sem] def c_r05_SameInts_r3 : LL := [qi 5 0]
@[go_sem] def c_r05_SameInts_r4 : LL := [qm 11 5,qm 12 0,qz 13 12,qo .lss 14 11 13]
@[go_sem] def c_r05_SameInts_r5 : LL := [qm 17 0,qm 18 5,qd 19 1 17 18,ql 20 1 19,qm 21 1,qm 22 5,qd 23 1 21 22,ql 24 1 23,qo .neq 25 20 24]
@[go_sem] def c_r05_SameInts_r6 : LL := [qb 4 false]
@[go_sem] def c_r05_SameInts_r7 : LL := [qm 15 5,qk .add 16 15 1,qm 5 16]
def c_r05_SameInts_b8 : LC := (.seq (.seq (.reg c_r05_SameInts_r4 [0,1,5,14]) (.cond (.t 14) .skip (.exit 0))) (.seq (.block 1 (.seq (.dreg [] c_r05_SameInts_r5 [0,1,5,25]) (.cond (.t 25) (.seq (.reg c_r05_SameInts_r6 [4]) .ret) .skip))) (.reg c_r05_SameInts_r7 [0,1,5])))
@[go_sem] def c_r05_SameInts_r9 : LL := [qb 4 true]
@[go_sem] def c_r05_SameInts (F : Fn) : LC := (.seq (.reg c_r05_SameInts_r0 [0,1]) (.seq (.seq (.reg c_r05_SameInts_r1 [0,1,10]) (.cond (.t 10) (.seq (.reg c_r05_SameInts_r2 [4]) .ret) .skip)) (.seq (.seq (.reg c_r05_SameInts_r3 [0,1,5]) (.block 0 (.loop [0,1,5] c_r05_SameInts_b8))) (.seq (.reg c_r05_SameInts_r9 [4]) .ret))))
def h_r05_SameInts : Hints := hn [] [(0,[0,1]),(1,[0,1,10]),(2,[4]),(3,[0,1,5]),(4,[0,1,5,14]),(5,[0,1,5]),(6,[0,1,5,25]),(7,[4]),(8,[4])] [(4,[0,1,5])]
@[go_sem] def c_r05_Numbers_r0 : LL := [qn 4 1]
@[go_sem] def c_r05_Numbers_r1 : LL := [qn 5 1]
@[go_sem] def c_r05_Numbers_r2 : LL := [qi 6 0]
@[go_sem] def c_r05_Numbers_r3 : LL := [qm 7 6,qm 8 1,qo .lss 9 7 8]
@[go_sem] def c_r05_Numbers_r4 : LL := [qm 12 5,qm 13 0,qm 14 6,qo .add 15 13 14,⟨some 16,.buildSl 1 8 (.int .i64 (0)) 1 [(0,.t 15)],none⟩,qp 17 1 8 12 16,qm 5 17]
@[go_sem] def c_r05_Numbers_r5 : LL := [qm 10 6,qk .add 11 10 1,qm 6 11]
def c_r05_Numbers_b6 : LC := (.seq (.seq (.reg c_r05_Numbers_r3 [0,1,5,6,9]) (.cond (.t 9) .skip (.exit 0))) (.seq (.block 1 (.reg c_r05_Numbers_r4 [0,1,5,6])) (.reg c_r05_Numbers_r5 [0,1,5,6])))
@[go_sem] def c_r05_Numbers_r7 : LL := [qm 18 5,qm 4 18]
@[go_sem] def c_r05_Numbers (F : Fn) : LC := (.seq (.reg c_r05_Numbers_r0 [0,1]) (.seq (.reg c_r05_Numbers_r1 [0,1,5]) (.seq (.seq (.reg c_r05_Numbers_r2 [0,1,5,6]) (.block 0 (.loop [0,1,5,6] c_r05_Numbers_b6))) (.seq (.reg c_r05_Numbers_r7 [4]) .ret))))
def h_r05_Numbers : Hints := hOf [] (c_r05_Numbers fun _ => 0)
def nums (f : Int) (n : Nat) : List Int := (List.range n).map fun i : Nat => f + (i : Int)
structure Mo where
 n : List Int
 e : List Int
 deriving DecidableEq, Inhabited
def mD (m : Mo) : D := .agg [.lst 1 (ints m.n), .lst 1 (ints m.e)]
def mA (m : Mo) : D := .agg [.arr 1 (ints m.n), .arr 1 (ints m.e)]
def few (g : G) : Bool := decide (g.n.length ≤ 45) && decide (g.e.length ≤ 90)
section
variable (P : Program) (F : String → Nat)
def K_graph_numbers : Prop := ∀ (f : Int) (n : Nat), 0 ≤ f → f ≤ 1000000 → n ≤ 1000000 → FC P (F "graph.numbers") [.int .i64 f, .int .i64 n] (.arr 1 (ints (nums f n))) []
def K_r05_Numbers : Prop := ∀ (f : Int) (n : Nat), 0 ≤ f → f ≤ 1000000 → n ≤ 1000000 → FC P (F "r05.Numbers") [.int .i64 f, .int .i64 n] (.arr 1 (ints (nums f n))) []
def K_r05_kind : Prop := ∀ n : Int, FC P (F "r05.kind") [.int .i64 n] (.bool (okN n)) []
def K_r05_right : Prop := ∀ (x : E) (n : Int), FC P (F "r05.right") [edD x, .int .i64 n] (.bool (fitsE n x)) []
def K_r05_Valid : Prop := ∀ g : G, FC P (F "r05.Valid") [gD g] (.int .i64 (validG g)) []
def K_r05_Copied : Prop := ∀ g : G, g.n.length ≤ 1000000 → g.e.length ≤ 1000000 → FC P (F "r05.Copied") [gD g] (gA g) []
def K_r05_Few : Prop := ∀ g : G, FC P (F "r05.Few") [gD g] (.bool (few g)) []
def K_r05_SameInts : Prop := ∀ a b : List Int, a.length ≤ maxL → FC P (F "r05.SameInts") [.lst 1 (ints a), .lst 1 (ints b)] (.bool (decide (a = b))) []
def K_r05_Same : Prop := ∀ a b : G, a.n.length ≤ maxL → a.e.length ≤ maxL → FC P (F "r05.Same") [gD a, gD b] (.bool (decide (a = b))) []
end
section
variable {P : Program} {F : String → Nat} {α : Type}
theorem drop_gt [Inhabited α] {l : List α} {i : Nat} (h : i < l.length) : l.drop i = gt l i :: l.drop (i + 1) := by
 rw [List.drop_eq_getElem_cons h, gt_nat h]
theorem take_gt [Inhabited α] {l : List α} {i : Nat} (h : i < l.length) : l.take (i + 1) = l.take i ++ [gt l i] := by
 rw [List.take_succ_eq_append_getElem h, gt_nat h]
theorem nums_succ (f : Int) (n : Nat) : nums f (n + 1) = nums f n ++ [f + n] := by simp [nums, List.range_succ]
theorem nums_len (f : Int) (n : Nat) : (nums f n).length = n := by simp [nums]
theorem nums_zero (f : Int) : nums f 0 = [] := by simp [nums]
theorem w_graph_numbers (f : Int) (n : Nat) (h0 : 0 ≤ f) (h1 : f ≤ 1000000) (h2 : n ≤ 1000000) : W P (c_graph_numbers F) (Done [.t 4] [] (.arr 1 (ints (nums f n))) []) (init [.int .i64 f, .int .i64 n]) := by
 refine W_of ?_
 simp (disch := omega) only [go_sem, ↓reduceIte]
 refine W_loop (fun i : Nat => ⟨[(0, .int .i64 f), (5, .sl 0 0 i), (7, .int .i64 n), (8, .int .i64 i)], [(0, .arr 1 (ints (nums f i)))], 1⟩) (fun i => i ≤ n) (fun i => n - i) 0 ?_ ?_ ?_
 ·simp (disch := omega) only [go_sem, ↓reduceIte, nums_zero, ints_nil]
  rfl
 ·omega
 ·intro i hi
  have e1 := nums_len f i
  simp (disch := omega) only [go_sem, ↓reduceIte, c_graph_numbers_b7]
  refine bran_dec (fun a => ?_) (fun a => ?_)
  ·simp (disch := omega) only [go_sem, ↓reduceIte, e1]
   exact ⟨i + 1, by simp [nums_succ], by omega, by omega⟩
  ·obtain rfl : i = n := by omega
   simp (disch := omega) only [go_sem, ↓reduceIte, e1]
theorem w_r05_Numbers (f : Int) (n : Nat) (h0 : 0 ≤ f) (h1 : f ≤ 1000000) (h2 : n ≤ 1000000) : W P (c_r05_Numbers F) (Done [.t 4] [] (.arr 1 (ints (nums f n))) []) (init [.int .i64 f, .int .i64 n]) := by
 refine W_of ?_
 simp (disch := omega) only [go_sem, ↓reduceIte]
 refine W_loop (fun i : Nat => ⟨[(0, .int .i64 f), (1, .int .i64 n), (5, .sl 0 0 i), (6, .int .i64 i)], [(0, .arr 1 (ints (nums f i)))], 1⟩) (fun i => i ≤ n) (fun i => n - i) 0 ?_ ?_ ?_
 ·simp (disch := omega) only [go_sem, ↓reduceIte, nums_zero, ints_nil]
  rfl
 ·omega
 ·intro i hi
  have e1 := nums_len f i
  simp (disch := omega) only [go_sem, ↓reduceIte, c_r05_Numbers_b6]
  refine bran_dec (fun a => ?_) (fun a => ?_)
  ·simp (disch := omega) only [go_sem, ↓reduceIte, e1]
   exact ⟨i + 1, by simp [nums_succ], by omega, by omega⟩
  ·obtain rfl : i = n := by omega
   simp (disch := omega) only [go_sem, ↓reduceIte, e1]
theorem w_r05_Copied (g : G) (h0 : g.n.length ≤ 1000000) (h1 : g.e.length ≤ 1000000) : W P (c_r05_Copied F) (Done [.c 2 true 2] [] (gA g) []) (init [gD g]) := by
 refine W_of ?_
 obtain ⟨ns, es⟩ := g
 simp only at h0 h1
 simp (disch := omega) only [go_sem, ↓reduceIte, gD, gA]
theorem w_r05_Few (g : G) : W P (c_r05_Few F) (Done [.t 2] [] (.bool (few g)) []) (init [gD g]) := by
 refine W_of ?_
 obtain ⟨ns, es⟩ := g
 simp (disch := omega) only [go_sem, ↓reduceIte, gD]
 refine bran_dec (fun a => ?_) (fun a => ?_)
 ·simp (disch := omega) only [go_sem, ↓reduceIte, a]
  have : ns.length ≤ 45 := by omega
  simp [few, this]
  omega
 ·simp (disch := omega) only [go_sem, ↓reduceIte, a]
  have : ¬ ns.length ≤ 45 := by omega
  simp [few, this]
theorem w_r05_kind (n : Int) : W P (c_r05_kind F) (Done [.t 2] [] (.bool (okN n)) []) (init [.int .i64 n]) := by
 refine W_of ?_
 simp (disch := omega) only [go_sem, ↓reduceIte]
 refine bran_dec (fun a => ?_) (fun a => ?_)
 ·simp (disch := omega) only [go_sem, ↓reduceIte, a]
  simp [okN, a]
 ·simp (disch := omega) only [go_sem, ↓reduceIte, a]
  simp [okN, a]
theorem w_r05_right (h : K_r05_kind P F) (x : E) (n : Int) : W P (c_r05_right F) (Done [.t 4] [] (.bool (fitsE n x)) []) (init [edD x, .int .i64 n]) := by
 refine W_of ?_
 simp (disch := omega) only [go_sem, ↓reduceIte, edD]
 refine call_by (h _) ?_
 simp (disch := omega) only [go_sem, ↓reduceIte]
 refine bran_by (fun a => ?_) (fun a => ?_)
 ·have a' : 0 ≤ x.t ∧ x.t ≤ 99 := by simpa [okN] using a
  simp (disch := omega) only [go_sem, ↓reduceIte, a]
  refine bran_dec (fun b => ?_) (fun b => ?_)
  ·simp (disch := omega) only [go_sem, ↓reduceIte, b]
   refine bran_dec (fun c => ?_) (fun c => ?_)
   ·simp (disch := omega) only [go_sem, ↓reduceIte, c]
    refine bran_dec (fun d => ?_) (fun d => ?_)
    ·simp (disch := omega) only [go_sem, ↓reduceIte, d]
     have e1 : decide (x.f ≤ n - 1) = true := by rw [decide_eq_true_eq]; omega
     have e2 : decide (x.o < n) = decide (x.o ≤ n - 1) := by rw [Bool.eq_iff_iff, decide_eq_true_eq, decide_eq_true_eq]; omega
     simp only [fitsE, Bool.decide_and, a', b, d, e1, e2, decide_true, Bool.true_and, Bool.and_true]
    ·simp (disch := omega) only [go_sem, ↓reduceIte, d]
     simp [fitsE, a', d]
   ·simp (disch := omega) only [go_sem, ↓reduceIte, c]
    simp [fitsE, a']
    omega
  ·simp (disch := omega) only [go_sem, ↓reduceIte, b]
   simp [fitsE, a']
   omega
 ·have a' : ¬ (0 ≤ x.t ∧ x.t ≤ 99) := by simpa [okN] using a
  simp (disch := omega) only [go_sem, ↓reduceIte, a]
  simp [fitsE, a']
theorem w_r05_SameInts (a b : List Int) (hl : a.length ≤ maxL) : W P (c_r05_SameInts F) (Done [.t 4] [] (.bool (decide (a = b))) []) (init [.lst 1 (ints a), .lst 1 (ints b)]) := by
 refine W_of ?_
 unfold maxL at hl
 simp (disch := omega) only [go_sem, ↓reduceIte]
 refine bran_ndec (fun h => ?_) (fun h => ?_)
 ·simp (disch := omega) only [go_sem, ↓reduceIte]
  have : a ≠ b := fun e => h (by rw [e])
  simp [this]
 ·have h' : a.length = b.length := by omega
  simp (disch := omega) only [go_sem, ↓reduceIte]
  refine W_loop (fun i : Nat => ⟨[(0, .lst 1 (ints a)), (1, .lst 1 (ints b)), (5, .int .i64 i)], [], 0⟩) (fun i => i ≤ a.length ∧ a.take i = b.take i) (fun i => a.length - i) 0 ?_ ?_ ?_
  ·simp (disch := omega) only [go_sem, ↓reduceIte]
   rfl
  ·simp
  ·intro i hi
   simp (disch := omega) only [go_sem, ↓reduceIte, c_r05_SameInts_b8]
   refine bran_dec (fun c => ?_) (fun c => ?_)
   ·simp (disch := omega) only [go_sem, ↓reduceIte]
    refine bran_ndec (fun d => ?_) (fun d => ?_)
    ·simp (disch := omega) only [go_sem, ↓reduceIte]
     have : a ≠ b := fun e => d (by rw [e])
     simp [this]
    ·simp (disch := omega) only [go_sem, ↓reduceIte]
     exact ⟨i + 1, by simp, ⟨by omega, by rw [take_gt (by omega), take_gt (by omega), hi.2, d]⟩, by omega⟩
   ·simp (disch := omega) only [go_sem, ↓reduceIte]
    obtain rfl : i = a.length := by omega
    have := hi.2
    rw [List.take_length, List.take_of_length_le (by omega)] at this
    simp [this]
end
@[go_sem] def c_r05_Valid_r0 : LL := [qB 1 0,qi 2 0]
@[go_sem] def c_r05_Valid_r1 : LL := [qf 5 0 1,ql 6 1 5,qz 7 6,qk .gtr 8 7 40,qm 9 8,qg 9 false (qf 10 1 1),qg 9 false (ql 11 1 10),qg 9 false (qz 12 11),qg 9 false (qk .gtr 13 12 80),qQ 14 9 13]
@[go_sem] def c_r05_Valid_r2 : LL := [qi 2 3]
@[go_sem] def c_r05_Valid_r3 : LL := [qi 3 0]
@[go_sem] def c_r05_Valid_r4 : LL := [qm 15 3,qf 16 0 1,ql 17 1 16,qz 18 17,qo .lss 19 15 18]
@[go_sem] def c_r05_Valid_r5 (F : Fn) : LL := [qf 22 0 1,ql 23 1 22,qm 24 3,qd 25 1 23 24,ql 26 1 25,qc 27 (F "r05.kind") [.t 26],qv 28 27]
@[go_sem] def c_r05_Valid_r6 : LL := [qi 2 6]
@[go_sem] def c_r05_Valid_r7 : LL := [qm 20 3,qk .add 21 20 1,qm 3 21]
def c_r05_Valid_b8 (F : Fn) : LC := (.seq (.seq (.reg c_r05_Valid_r4 [1,3,19]) (.cond (.t 19) .skip (.exit 0))) (.seq (.block 1 (.seq (.reg (c_r05_Valid_r5 F) [1,3,28]) (.cond (.t 28) (.seq (.reg c_r05_Valid_r6 [2]) .ret) .skip))) (.reg c_r05_Valid_r7 [1,3])))
@[go_sem] def c_r05_Valid_r9 : LL := [qi 4 0]
@[go_sem] def c_r05_Valid_r10 : LL := [qm 29 4,qf 30 1 1,ql 31 1 30,qz 32 31,qo .lss 33 29 32]
@[go_sem] def c_r05_Valid_r11 (F : Fn) : LL := [qf 36 1 1,ql 37 1 36,qm 38 4,qd 39 3 37 38,qL 40 3 39,qf 41 0 1,ql 42 1 41,qz 43 42,qc 44 (F "r05.right") [.t 40,.t 43],qv 45 44]
@[go_sem] def c_r05_Valid_r12 : LL := [qi 2 6]
@[go_sem] def c_r05_Valid_r13 : LL := [qm 34 4,qk .add 35 34 1,qm 4 35]
def c_r05_Valid_b14 (F : Fn) : LC := (.seq (.seq (.reg c_r05_Valid_r10 [1,4,33]) (.cond (.t 33) .skip (.exit 2))) (.seq (.block 3 (.seq (.dreg [] (c_r05_Valid_r11 F) [1,4,45]) (.cond (.t 45) (.seq (.reg c_r05_Valid_r12 [2]) .ret) .skip))) (.reg c_r05_Valid_r13 [1,4])))
@[go_sem] def c_r05_Valid_r15 : LL := [qi 2 0]
@[go_sem] def c_r05_Valid (F : Fn) : LC := (.seq (.reg c_r05_Valid_r0 [1]) (.seq (.seq (.reg c_r05_Valid_r1 [1,14]) (.cond (.t 14) (.seq (.reg c_r05_Valid_r2 [2]) .ret) .skip)) (.seq (.seq (.reg c_r05_Valid_r3 [1,3]) (.block 0 (.loop [1,3] (c_r05_Valid_b8 F)))) (.seq (.seq (.reg c_r05_Valid_r9 [1,4]) (.block 2 (.loop [1,4] (c_r05_Valid_b14 F)))) (.seq (.reg c_r05_Valid_r15 [2]) .ret)))))
def h_r05_Valid : Hints := hn [] [(0,[1]),(1,[1,14]),(2,[2]),(3,[1,3]),(4,[1,3,19]),(5,[1,3]),(6,[1,3,28]),(7,[2]),(8,[1,4]),(9,[1,4,33]),(10,[1,4]),(11,[1,4,45]),(12,[2]),(13,[2])] [(4,[1,3]),(9,[1,4])]
@[go_sem] def c_r05_Same_r0 : LL := [qB 2 0,qB 3 1,qb 4 false]
@[go_sem] def c_r05_Same_r1 (F : Fn) : LL := [qf 6 0 2,ql 7 1 6,qf 8 0 3,ql 9 1 8,qc 10 (F "r05.SameInts") [.t 7,.t 9],qv 11 10,qm 12 11,qg 12 false (qf 13 1 2),qg 12 false (ql 14 1 13),qg 12 false (qz 15 14),qg 12 false (qf 16 1 3),
 qg 12 false (ql 17 1 16),qg 12 false (qz 18 17),qg 12 false (qo .neq 19 15 18),qQ 20 12 19]
@[go_sem] def c_r05_Same_r2 : LL := [qb 4 false]
@[go_sem] def c_r05_Same_r3 : LL := [qi 5 0]
@[go_sem] def c_r05_Same_r4 : LL := [qm 21 5,qf 22 1 2,ql 23 1 22,qz 24 23,qo .lss 25 21 24]
@[go_sem] def c_r05_Same_r5 : LL := [qf 28 1 2,ql 29 1 28,qm 30 5,qd 31 3 29 30,qL 32 3 31,qf 33 1 3,ql 34 1 33,qm 35 5,qd 36 3 34 35,qL 37 3 36,⟨some 38,.eqA 3 true (.t 32) (.t 37),none⟩]
@[go_sem] def c_r05_Same_r6 : LL := [qb 4 false]
@[go_sem] def c_r05_Same_r7 : LL := [qm 26 5,qk .add 27 26 1,qm 5 27]
def c_r05_Same_b8 : LC := (.seq (.seq (.reg c_r05_Same_r4 [2,3,5,25]) (.cond (.t 25) .skip (.exit 0))) (.seq (.block 1 (.seq (.dreg [] c_r05_Same_r5 [2,3,5,38]) (.cond (.t 38) (.seq (.reg c_r05_Same_r6 [4]) .ret) .skip))) (.reg c_r05_Same_r7 [2,3,5])))
@[go_sem] def c_r05_Same_r9 : LL := [qb 4 true]
@[go_sem] def c_r05_Same (F : Fn) : LC := (.seq (.reg c_r05_Same_r0 [2,3]) (.seq (.seq (.reg (c_r05_Same_r1 F) [2,3,20]) (.cond (.t 20) (.seq (.reg c_r05_Same_r2 [4]) .ret) .skip)) (.seq (.seq (.reg c_r05_Same_r3 [2,3,5]) (.block 0 (.loop [2,3,5] c_r05_Same_b8))) (.seq (.reg c_r05_Same_r9 [4]) .ret))))
def h_r05_Same : Hints := hn [] [(0,[2,3]),(1,[2,3,20]),(2,[4]),(3,[2,3,5]),(4,[2,3,5,25]),(5,[2,3,5]),(6,[2,3,5,38]),(7,[4]),(8,[4])] [(4,[2,3,5])]
section
variable {P : Program} {F : String → Nat} {α : Type}
theorem eqE (a b : E) : a = b ↔ a.t = b.t ∧ a.f = b.f ∧ a.o = b.o := by
 cases a; cases b; simp
theorem w_r05_Same (hs : K_r05_SameInts P F) (a b : G) (h1 : a.n.length ≤ maxL) (h2 : a.e.length ≤ maxL) : W P (c_r05_Same F) (Done [.t 4] [] (.bool (decide (a = b))) []) (init [gD a, gD b]) := by
 refine W_of ?_
 obtain ⟨an, ae⟩ := a
 obtain ⟨bn, be⟩ := b
 simp only at h1 h2
 simp (disch := omega) only [go_sem, ↓reduceIte, gD]
 refine call_by (hs _ _ h1) ?_
 simp (disch := omega) only [go_sem, ↓reduceIte]
 refine bran_ndec (fun c => ?_) (fun c => ?_)
 ·simp (disch := omega) only [go_sem, ↓reduceIte, c]
  simp [c]
 ·subst c
  simp (disch := omega) only [go_sem, ↓reduceIte]
  refine bran_ndec (fun d => ?_) (fun d => ?_)
  ·simp (disch := omega) only [go_sem, ↓reduceIte]
   have : ae ≠ be := fun e => d (by rw [e])
   simp [this]
  ·have d' : ae.length = be.length := by omega
   unfold maxL at h2
   simp (disch := omega) only [go_sem, ↓reduceIte]
   refine W_loop (fun i : Nat => ⟨[(2, .pt 0 0), (3, .pt 1 0), (5, .int .i64 i)], [(0, .box [.lst 1 (ints an), .lst 3 (eds ae)]), (1, .box [.lst 1 (ints an), .lst 3 (eds be)])], 2⟩) (fun i => i ≤ ae.length ∧ ae.take i = be.take i) (fun i => ae.length - i) 0 ?_ ?_ ?_
   ·simp (disch := omega) only [go_sem, ↓reduceIte]
    rfl
   ·simp
   ·intro i hi
    simp (disch := omega) only [go_sem, ↓reduceIte, c_r05_Same_b8]
    refine bran_dec (fun f => ?_) (fun f => ?_)
    ·have he : (decide ((gt ae i).t = (gt be i).t) && (decide ((gt ae i).f = (gt be i).f) && decide ((gt ae i).o = (gt be i).o))) = decide (gt ae i = gt be i) := by
      rw [Bool.eq_iff_iff]; simp [eqE]
     simp (disch := omega) only [go_sem, ↓reduceIte, he]
     refine bran_ndec (fun d2 => ?_) (fun d2 => ?_)
     ·simp (disch := omega) only [go_sem, ↓reduceIte]
      have : ae ≠ be := fun e => d2 (by rw [e])
      simp [this]
     ·simp (disch := omega) only [go_sem, ↓reduceIte]
      exact ⟨i + 1, by simp, ⟨by omega, by rw [take_gt (by omega), take_gt (by omega), hi.2, d2]⟩, by omega⟩
    ·simp (disch := omega) only [go_sem, ↓reduceIte]
     obtain rfl : i = ae.length := by omega
     have := hi.2
     rw [List.take_length, List.take_of_length_le (by omega)] at this
     simp [this]
theorem w_r05_Valid (hk : K_r05_kind P F) (hr : K_r05_right P F) (g : G) : W P (c_r05_Valid F) (Done [.t 2] [] (.int .i64 (validG g)) []) (init [gD g]) := by
 refine W_of ?_
 obtain ⟨ns, es⟩ := g
 simp (disch := omega) only [go_sem, ↓reduceIte, gD]
 refine bran_dec (fun a1 => ?_) (fun a1 => ?_)
 ·simp (disch := omega) only [go_sem, ↓reduceIte, a1]
  simp [validG]
  omega
 ·simp (disch := omega) only [go_sem, ↓reduceIte, a1]
  refine bran_dec (fun a2 => ?_) (fun a2 => ?_)
  ·simp (disch := omega) only [go_sem, ↓reduceIte]
   simp [validG]
   omega
  ·have hv : validG ⟨ns, es⟩ = if ns.all okN && es.all (fitsE ns.length) then 0 else 6 := by
    simp only [validG]; rw [if_neg (by omega)]
   rw [hv]
   simp (disch := omega) only [go_sem, ↓reduceIte]
   refine W_loop (fun i : Nat => ⟨[(1, .pt 0 0), (3, .int .i64 i)], [(0, .box [.lst 1 (ints ns), .lst 3 (eds es)])], 1⟩) (fun i => i ≤ ns.length ∧ ns.all okN = (ns.drop i).all okN) (fun i => ns.length - i) 0 ?_ ?_ ?_
   ·simp (disch := omega) only [go_sem, ↓reduceIte]
    rfl
   ·simp
   ·intro i hi
    simp (disch := omega) only [go_sem, ↓reduceIte, c_r05_Valid_b8]
    refine bran_dec (fun f => ?_) (fun f => ?_)
    ·have hd := drop_gt (l := ns) (i := i) (by omega)
     simp (disch := omega) only [go_sem, ↓reduceIte]
     refine call_by (hk _) ?_
     simp (disch := omega) only [go_sem, ↓reduceIte]
     refine bran_nby (fun d => ?_) (fun d => ?_)
     ·simp (disch := omega) only [go_sem, ↓reduceIte]
      rw [hi.2, hd]
      simp [d]
     ·simp (disch := omega) only [go_sem, ↓reduceIte]
      exact ⟨i + 1, by simp, ⟨by omega, by rw [hi.2, hd]; simp [d]⟩, by omega⟩
    ·have hn : ns.all okN = true := by rw [hi.2, List.drop_of_length_le (by omega)]; rfl
     simp (disch := omega) only [go_sem, ↓reduceIte]
     refine W_loop (fun i : Nat => ⟨[(1, .pt 0 0), (4, .int .i64 i)], [(0, .box [.lst 1 (ints ns), .lst 3 (eds es)])], 1⟩) (fun i => i ≤ es.length ∧ es.all (fitsE ns.length) = (es.drop i).all (fitsE ns.length)) (fun i => es.length - i) 0 ?_ ?_ ?_
     ·simp (disch := omega) only [go_sem, ↓reduceIte]
      rfl
     ·simp
     ·intro i hi
      simp (disch := omega) only [go_sem, ↓reduceIte, c_r05_Valid_b14]
      refine bran_dec (fun f => ?_) (fun f => ?_)
      ·have hd := drop_gt (l := es) (i := i) (by omega)
       simp (disch := omega) only [go_sem, ↓reduceIte]
       refine call_by (hr _ _) ?_
       simp (disch := omega) only [go_sem, ↓reduceIte]
       refine bran_nby (fun d => ?_) (fun d => ?_)
       ·simp (disch := omega) only [go_sem, ↓reduceIte]
        rw [hi.2, hd]
        simp [d]
       ·simp (disch := omega) only [go_sem, ↓reduceIte]
        exact ⟨i + 1, by simp, ⟨by omega, by rw [hi.2, hd]; simp [d]⟩, by omega⟩
      ·simp (disch := omega) only [go_sem, ↓reduceIte]
       rw [hi.2, List.drop_of_length_le (by omega), hn]
       rfl
end
def u8s (l : List Int) : List D := l.map fun x => .int .u8 x
def trs (l : List E) : List D := l.map fun x => .agg [.int .u8 x.t, .int .u8 x.f, .int .u8 x.o]
theorem u8s_length (l : List Int) : (u8s l).length = l.length := by simp [u8s]
theorem trs_length (l : List E) : (trs l).length = l.length := by simp [trs]
theorem u8s_atn {l : List Int} {i : Nat} (h : i < l.length) : (u8s l)[i]? = some (.int .u8 (gt l (i : Int))) := by
 rw [gt_nat h]; simp [u8s, h]
theorem trs_atn {l : List E} {i : Nat} (h : i < l.length) : (trs l)[i]? = some (.agg [.int .u8 (gt l (i : Int)).t, .int .u8 (gt l (i : Int)).f, .int .u8 (gt l (i : Int)).o]) := by
 rw [gt_nat h]; simp [trs, h]
theorem flat_u8s (l : List Int) : (u8s l).all D.flatE = true := by simp [u8s, D.flatE, D.flat0]
theorem flat_trs (l : List E) : (trs l).all D.flatE = true := by simp [trs, D.flatE, D.flat0]
attribute [go_sem] u8s_length trs_length u8s_atn trs_atn flat_u8s flat_trs
structure Dr where
 n : List Int
 e : List E
 deriving DecidableEq, Inhabited
def Byte (x : Int) : Prop := 0 ≤ x ∧ x ≤ 255
def Dr.ok (x : Dr) : Prop := (∀ v ∈ x.n, Byte v) ∧ ∀ v ∈ x.e, Byte v.t ∧ Byte v.f ∧ Byte v.o
section
variable (P : Program) (F : String → Nat)
end
def Mo.sm (m : Mo) : Prop := m.n.length ≤ maxL ∧ m.e.length ≤ maxL
section
variable {P : Program} {F : String → Nat} {α : Type}
theorem valid_spec {g : G} (h : validG g = 0) : g.n.length ≤ 40 ∧ g.e.length ≤ 80 ∧ (∀ x, x ∈ g.n → okN x = true) ∧ ∀ x, x ∈ g.e → fitsE g.n.length x = true := by
 unfold validG at h
 split at h
 ·simp at h
 ·rename_i h1
  split at h
  ·rename_i h2
   simp only [Bool.and_eq_true, List.all_eq_true] at h2
   exact ⟨by omega, by omega, h2.1, h2.2⟩
  ·simp at h
theorem fits_spec {n : Int} {x : E} (h : fitsE n x = true) : (0 ≤ x.t ∧ x.t ≤ 99) ∧ (0 ≤ x.f ∧ x.f < n) ∧ (0 ≤ x.o ∧ x.o < n) := by
 simp only [fitsE, Bool.and_eq_true, decide_eq_true_eq] at h
 omega
theorem fits_mk {n : Int} {x : E} (h1 : 0 ≤ x.t ∧ x.t ≤ 99) (h2 : 0 ≤ x.f ∧ x.f < n) (h3 : 0 ≤ x.o ∧ x.o < n) : fitsE n x = true := by
 simp only [fitsE, Bool.and_eq_true, decide_eq_true_eq]
 omega
end
@[go_sem] def c_morphism_Valid_r0 : LL := [qB 3 0,qB 4 1,qB 5 2,qi 6 0]
@[go_sem] def c_morphism_Valid_r1 (F : Fn) : LL := [qL 15 2 3,qc 16 (F "graph.Valid") [.t 15],qm 7 16]
@[go_sem] def c_morphism_Valid_r2 : LL := [qm 17 7,qk .neq 18 17 0]
@[go_sem] def c_morphism_Valid_r3 : LL := [qm 19 7,qm 6 19]
@[go_sem] def c_morphism_Valid_r4 (F : Fn) : LL := [qL 20 2 4,qc 21 (F "graph.Valid") [.t 20],qm 8 21]
@[go_sem] def c_morphism_Valid_r5 : LL := [qm 22 8,qk .neq 23 22 0]
@[go_sem] def c_morphism_Valid_r6 : LL := [qm 24 8,qm 6 24]
@[go_sem] def c_morphism_Valid_r7 : LL := [qf 25 0 5,ql 26 1 25,qz 27 26,qf 28 0 3,ql 29 1 28,qz 30 29,qo .neq 31 27 30,qm 32 31,qg 32 false (qf 33 1 5),qg 32 false (ql 34 1 33),qg 32 false (qz 35 34),
 qg 32 false (qf 36 1 3),qg 32 false (ql 37 1 36),qg 32 false (qz 38 37),qg 32 false (qo .neq 39 35 38),qQ 40 32 39]
@[go_sem] def c_morphism_Valid_r8 : LL := [qi 6 20]
@[go_sem] def c_morphism_Valid_r9 : LL := [qf 41 0 5,ql 42 1 41,qz 43 42,qi 44 0]
@[go_sem] def c_morphism_Valid_r10 : LL := [qo .lss 45 44 43]
@[go_sem] def c_morphism_Valid_r11 : LL := [qm 46 44,qd 47 1 42 44,ql 48 1 47,qm 9 46,qm 10 48]
@[go_sem] def c_morphism_Valid_r12 : LL := [qm 49 10,qk .lss 50 49 0,qm 51 50,qg 51 false (qm 52 10),qg 51 false (qf 53 0 4),qg 51 false (ql 54 1 53),qg 51 false (qz 55 54),qg 51 false (qo .geq 56 52 55),qQ 57 51 56]
@[go_sem] def c_morphism_Valid_r13 : LL := [qi 6 6]
@[go_sem] def c_morphism_Valid_r14 : LL := [qf 58 0 4,ql 59 1 58,qm 60 10,qd 61 1 59 60,ql 62 1 61,qf 63 0 3,ql 64 1 63,qm 65 9,qd 66 1 64 65,ql 67 1 66,qo .neq 68 62 67]
@[go_sem] def c_morphism_Valid_r15 : LL := [qi 6 13]
@[go_sem] def c_morphism_Valid_r16 : LL := [qk .add 69 44 1,qm 44 69]
def c_morphism_Valid_b17 : LC := (.seq (.reg c_morphism_Valid_r10 [3,4,5,42,43,44,45]) (.seq (.cond (.t 45) .skip (.exit 0)) (.seq (.block 1 (.seq (.reg c_morphism_Valid_r11 [3,4,5,9,10,42,43,44]) (.seq (.seq (.reg c_morphism_Valid_r12 [3,4,5,9,10,42,43,44,57]) (.cond (.t 57) (.seq (.reg c_morphism_Valid_r13 [6]) .ret) .skip)) (.seq (.dreg [] c_morphism_Valid_r14 [3,4,5,42,43,44,68]) (.cond (.t 68) (.seq (.reg c_morphism_Valid_r15 [6]) .ret) .skip))))) (.reg c_morphism_Valid_r16 [3,4,5,42,43,44]))))
@[go_sem] def c_morphism_Valid_r18 : LL := [qf 70 1 5,ql 71 1 70,qz 72 71,qi 73 0]
@[go_sem] def c_morphism_Valid_r19 : LL := [qo .lss 74 73 72]
@[go_sem] def c_morphism_Valid_r20 : LL := [qm 75 73,qd 76 1 71 73,ql 77 1 76,qm 11 75,qm 12 77]
@[go_sem] def c_morphism_Valid_r21 : LL := [qm 78 12,qk .lss 79 78 0,qm 80 79,qg 80 false (qm 81 12),qg 80 false (qf 82 1 4),qg 80 false (ql 83 1 82),qg 80 false (qz 84 83),qg 80 false (qo .geq 85 81 84),qQ 86 80 85]
@[go_sem] def c_morphism_Valid_r22 : LL := [qi 6 6]
@[go_sem] def c_morphism_Valid_r23 : LL := [qf 87 1 3,ql 88 1 87,qm 89 11,qd 90 3 88 89,qL 91 3 90,qf 92 1 4,ql 93 1 92,qm 94 12,qd 95 3 93 94,qL 96 3 95,qa 13 [.int .i64 (0),.int .i64 (0),.int .i64 (0)],
 qa 14 [.int .i64 (0),.int .i64 (0),.int .i64 (0)],qs 3 13 91,qs 3 14 96]
@[go_sem] def c_morphism_Valid_r24 : LL := [qf 97 0 13,ql 98 1 97,qf 99 0 14,ql 100 1 99,qo .neq 101 98 100]
@[go_sem] def c_morphism_Valid_r25 : LL := [qi 6 13]
@[go_sem] def c_morphism_Valid_r26 : LL := [qf 102 0 5,ql 103 1 102,qf 104 1 13,ql 105 1 104,qd 106 1 103 105,ql 107 1 106,qf 108 1 14,ql 109 1 108,qo .neq 110 107 109,qm 111 110,qg 111 false (qf 112 0 5),
 qg 111 false (ql 113 1 112),qg 111 false (qf 114 2 13),qg 111 false (ql 115 1 114),qg 111 false (qd 116 1 113 115),qg 111 false (ql 117 1 116),qg 111 false (qf 118 2 14),
 qg 111 false (ql 119 1 118),qg 111 false (qo .neq 120 117 119),qQ 121 111 120]
@[go_sem] def c_morphism_Valid_r27 : LL := [qi 6 11]
@[go_sem] def c_morphism_Valid_r28 : LL := [qk .add 122 73 1,qm 73 122]
def c_morphism_Valid_b29 : LC := (.seq (.reg c_morphism_Valid_r19 [3,4,5,71,72,73,74]) (.seq (.cond (.t 74) .skip (.exit 2)) (.seq (.block 3 (.seq (.reg c_morphism_Valid_r20 [3,4,5,11,12,71,72,73]) (.seq (.seq (.reg c_morphism_Valid_r21 [3,4,5,11,12,71,72,73,86]) (.cond (.t 86) (.seq (.reg c_morphism_Valid_r22 [6]) .ret) .skip)) (.seq (.dreg [(6,none,[],true),(8,none,[],true),(9,none,[],true),(12,none,[6,8,9],false)] c_morphism_Valid_r23 [3,4,5,13,14,71,72,73]) (.seq (.seq (.reg c_morphism_Valid_r24 [3,4,5,13,14,71,72,73,101]) (.cond (.t 101) (.seq (.reg c_morphism_Valid_r25 [6]) .ret) .skip)) (.seq (.dreg [] c_morphism_Valid_r26 [3,4,5,71,72,73,121]) (.cond (.t 121) (.seq (.reg c_morphism_Valid_r27 [6]) .ret) .skip))))))) (.reg c_morphism_Valid_r28 [3,4,5,71,72,73]))))
@[go_sem] def c_morphism_Valid_r30 : LL := [qi 6 0]
@[go_sem] def c_morphism_Valid (F : Fn) : LC := (.seq (.reg c_morphism_Valid_r0 [3,4,5]) (.seq (.seq (.reg (c_morphism_Valid_r1 F) [3,4,5,7]) (.seq (.reg c_morphism_Valid_r2 [3,4,5,7,18]) (.cond (.t 18) (.seq (.reg c_morphism_Valid_r3 [6]) .ret) .skip))) (.seq (.seq (.reg (c_morphism_Valid_r4 F) [3,4,5,8]) (.seq (.reg c_morphism_Valid_r5 [3,4,5,8,23]) (.cond (.t 23) (.seq (.reg c_morphism_Valid_r6 [6]) .ret) .skip))) (.seq (.seq (.reg c_morphism_Valid_r7 [3,4,5,40]) (.cond (.t 40) (.seq (.reg c_morphism_Valid_r8 [6]) .ret) .skip)) (.seq (.seq (.reg c_morphism_Valid_r9 [3,4,5,42,43,44]) (.block 0 (.loop [3,4,5,42,43,44] c_morphism_Valid_b17))) (.seq (.seq (.reg c_morphism_Valid_r18 [3,4,5,71,72,73]) (.block 2 (.loop [3,4,5,71,72,73] c_morphism_Valid_b29))) (.seq (.reg c_morphism_Valid_r30 [6]) .ret)))))))
def h_morphism_Valid : Hints := hOf [] (c_morphism_Valid fun _ => 0)
@[go_sem] def c_r06_Valid_r0 : LL := [qB 3 0,qB 4 1,qB 5 2,qi 6 0]
@[go_sem] def c_r06_Valid_r1 (F : Fn) : LL := [qL 13 2 3,qc 14 (F "r05.Valid") [.t 13],qm 7 14]
@[go_sem] def c_r06_Valid_r2 : LL := [qm 15 7,qk .neq 16 15 0]
@[go_sem] def c_r06_Valid_r3 : LL := [qm 17 7,qm 6 17]
@[go_sem] def c_r06_Valid_r4 (F : Fn) : LL := [qL 18 2 4,qc 19 (F "r05.Valid") [.t 18],qm 8 19]
@[go_sem] def c_r06_Valid_r5 : LL := [qm 20 8,qk .neq 21 20 0]
@[go_sem] def c_r06_Valid_r6 : LL := [qm 22 8,qm 6 22]
@[go_sem] def c_r06_Valid_r7 : LL := [qf 23 0 5,ql 24 1 23,qz 25 24,qf 26 0 3,ql 27 1 26,qz 28 27,qo .neq 29 25 28,qm 30 29,qg 30 false (qf 31 1 5),qg 30 false (ql 32 1 31),qg 30 false (qz 33 32),
 qg 30 false (qf 34 1 3),qg 30 false (ql 35 1 34),qg 30 false (qz 36 35),qg 30 false (qo .neq 37 33 36),qQ 38 30 37]
@[go_sem] def c_r06_Valid_r8 : LL := [qi 6 20]
@[go_sem] def c_r06_Valid_r9 : LL := [qi 9 0]
@[go_sem] def c_r06_Valid_r10 : LL := [qm 39 9,qf 40 0 3,ql 41 1 40,qz 42 41,qo .lss 43 39 42]
@[go_sem] def c_r06_Valid_r11 : LL := [qf 46 0 5,ql 47 1 46,qm 48 9,qd 49 1 47 48,ql 50 1 49,qk .lss 51 50 0,qm 52 51,qg 52 false (qf 53 0 5),qg 52 false (ql 54 1 53),qg 52 false (qm 55 9),qg 52 false (qd 56 1 54 55),
 qg 52 false (ql 57 1 56),qg 52 false (qf 58 0 4),qg 52 false (ql 59 1 58),qg 52 false (qz 60 59),qg 52 false (qo .geq 61 57 60),qQ 62 52 61]
@[go_sem] def c_r06_Valid_r12 : LL := [qi 6 6]
@[go_sem] def c_r06_Valid_r13 : LL := [qf 63 0 4,ql 64 1 63,qf 65 0 5,ql 66 1 65,qm 67 9,qd 68 1 66 67,ql 69 1 68,qd 70 1 64 69,ql 71 1 70,qf 72 0 3,ql 73 1 72,qm 74 9,qd 75 1 73 74,ql 76 1 75,qo .neq 77 71 76]
@[go_sem] def c_r06_Valid_r14 : LL := [qi 6 13]
@[go_sem] def c_r06_Valid_r15 : LL := [qm 44 9,qk .add 45 44 1,qm 9 45]
def c_r06_Valid_b16 : LC := (.seq (.seq (.reg c_r06_Valid_r10 [3,4,5,9,43]) (.cond (.t 43) .skip (.exit 0))) (.seq (.block 1 (.seq (.seq (.dreg [] c_r06_Valid_r11 [3,4,5,9,62]) (.cond (.t 62) (.seq (.reg c_r06_Valid_r12 [6]) .ret) .skip)) (.seq (.dreg [] c_r06_Valid_r13 [3,4,5,9,77]) (.cond (.t 77) (.seq (.reg c_r06_Valid_r14 [6]) .ret) .skip)))) (.reg c_r06_Valid_r15 [3,4,5,9])))
@[go_sem] def c_r06_Valid_r17 : LL := [qi 10 0]
@[go_sem] def c_r06_Valid_r18 : LL := [qm 78 10,qf 79 1 3,ql 80 1 79,qz 81 80,qo .lss 82 78 81]
@[go_sem] def c_r06_Valid_r19 : LL := [qf 85 1 5,ql 86 1 85,qm 87 10,qd 88 1 86 87,ql 89 1 88,qk .lss 90 89 0,qm 91 90,qg 91 false (qf 92 1 5),qg 91 false (ql 93 1 92),qg 91 false (qm 94 10),qg 91 false (qd 95 1 93 94),
 qg 91 false (ql 96 1 95),qg 91 false (qf 97 1 4),qg 91 false (ql 98 1 97),qg 91 false (qz 99 98),qg 91 false (qo .geq 100 96 99),qQ 101 91 100]
@[go_sem] def c_r06_Valid_r20 : LL := [qi 6 6]
@[go_sem] def c_r06_Valid_r21 : LL := [qf 102 1 3,ql 103 1 102,qm 104 10,qd 105 3 103 104,qL 106 3 105,qf 107 1 4,ql 108 1 107,qf 109 1 5,ql 110 1 109,qm 111 10,qd 112 1 110 111,ql 113 1 112,qd 114 3 108 113,
 qL 115 3 114,qa 11 [.int .i64 (0),.int .i64 (0),.int .i64 (0)],qa 12 [.int .i64 (0),.int .i64 (0),.int .i64 (0)],qs 3 11 106,qs 3 12 115]
@[go_sem] def c_r06_Valid_r22 : LL := [qf 116 0 11,ql 117 1 116,qf 118 0 12,ql 119 1 118,qo .neq 120 117 119]
@[go_sem] def c_r06_Valid_r23 : LL := [qi 6 13]
@[go_sem] def c_r06_Valid_r24 : LL := [qf 121 0 5,ql 122 1 121,qf 123 1 11,ql 124 1 123,qd 125 1 122 124,ql 126 1 125,qf 127 1 12,ql 128 1 127,qo .neq 129 126 128,qm 130 129,qg 130 false (qf 131 0 5),
 qg 130 false (ql 132 1 131),qg 130 false (qf 133 2 11),qg 130 false (ql 134 1 133),qg 130 false (qd 135 1 132 134),qg 130 false (ql 136 1 135),qg 130 false (qf 137 2 12),
 qg 130 false (ql 138 1 137),qg 130 false (qo .neq 139 136 138),qQ 140 130 139]
@[go_sem] def c_r06_Valid_r25 : LL := [qi 6 11]
@[go_sem] def c_r06_Valid_r26 : LL := [qm 83 10,qk .add 84 83 1,qm 10 84]
def c_r06_Valid_b27 : LC := (.seq (.seq (.reg c_r06_Valid_r18 [3,4,5,10,82]) (.cond (.t 82) .skip (.exit 2))) (.seq (.block 3 (.seq (.seq (.dreg [] c_r06_Valid_r19 [3,4,5,10,101]) (.cond (.t 101) (.seq (.reg c_r06_Valid_r20 [6]) .ret) .skip)) (.seq (.dreg [(6,none,[],true),(8,none,[],true),(10,none,[],true),(11,none,[],true),(12,none,[],true),(13,none,[],true),(16,none,[6,8,10,11,12,13],false)] c_r06_Valid_r21 [3,4,5,10,11,12]) (.seq (.seq (.reg c_r06_Valid_r22 [3,4,5,10,11,12,120]) (.cond (.t 120) (.seq (.reg c_r06_Valid_r23 [6]) .ret) .skip)) (.seq (.dreg [] c_r06_Valid_r24 [3,4,5,10,140]) (.cond (.t 140) (.seq (.reg c_r06_Valid_r25 [6]) .ret) .skip)))))) (.reg c_r06_Valid_r26 [3,4,5,10])))
@[go_sem] def c_r06_Valid_r28 : LL := [qi 6 0]
@[go_sem] def c_r06_Valid (F : Fn) : LC := (.seq (.reg c_r06_Valid_r0 [3,4,5]) (.seq (.seq (.reg (c_r06_Valid_r1 F) [3,4,5,7]) (.seq (.reg c_r06_Valid_r2 [3,4,5,7,16]) (.cond (.t 16) (.seq (.reg c_r06_Valid_r3 [6]) .ret) .skip))) (.seq (.seq (.reg (c_r06_Valid_r4 F) [3,4,5,8]) (.seq (.reg c_r06_Valid_r5 [3,4,5,8,21]) (.cond (.t 21) (.seq (.reg c_r06_Valid_r6 [6]) .ret) .skip))) (.seq (.seq (.reg c_r06_Valid_r7 [3,4,5,38]) (.cond (.t 38) (.seq (.reg c_r06_Valid_r8 [6]) .ret) .skip)) (.seq (.seq (.reg c_r06_Valid_r9 [3,4,5,9]) (.block 0 (.loop [3,4,5,9] c_r06_Valid_b16))) (.seq (.seq (.reg c_r06_Valid_r17 [3,4,5,10]) (.block 2 (.loop [3,4,5,10] c_r06_Valid_b27))) (.seq (.reg c_r06_Valid_r28 [6]) .ret)))))))
def h_r06_Valid : Hints := hn [] [(0,[3,4,5]),(1,[3,4,5,7]),(2,[3,4,5,7,16]),(3,[6]),(4,[3,4,5,8]),(5,[3,4,5,8,21]),(6,[6]),(7,[3,4,5,38]),(8,[6]),(9,[3,4,5,9]),(10,[3,4,5,9,43]),(11,[3,4,5,9]),(12,[3,4,5,9,62]),(13,[6]),(14,[3,4,5,9,77]),(15,[6]),(16,[3,4,5,10]),(17,[3,4,5,10,82]),(18,[3,4,5,10]),(19,[3,4,5,10,101]),(20,[6]),(21,[3,4,5,10,11,12]),(22,[3,4,5,10,11,12,120]),(23,[6]),(24,[3,4,5,10,140]),(25,[6]),(26,[6])] [(10,[3,4,5,9]),(17,[3,4,5,10])]
@[go_sem] def c_r02_SameInts_r0 : LL := [qb 4 false]
@[go_sem] def c_r02_SameInts_r1 : LL := [qm 6 0,qz 7 6,qm 8 1,qz 9 8,qo .neq 10 7 9]
@[go_sem] def c_r02_SameInts_r2 : LL := [qb 4 false]
@[go_sem] def c_r02_SameInts_r3 : LL := [qi 5 0]
@[go_sem] def c_r02_SameInts_r4 : LL := [qm 11 5,qm 12 0,qz 13 12,qo .lss 14 11 13]
@[go_sem] def c_r02_SameInts_r5 : LL := [qm 17 0,qm 18 5,qd 19 1 17 18,ql 20 1 19,qm 21 1,qm 22 5,qd 23 1 21 22,ql 24 1 23,qo .neq 25 20 24]
@[go_sem] def c_r02_SameInts_r6 : LL := [qb 4 false]
@[go_sem] def c_r02_SameInts_r7 : LL := [qm 15 5,qk .add 16 15 1,qm 5 16]
def c_r02_SameInts_b8 : LC := (.seq (.seq (.reg c_r02_SameInts_r4 [0,1,5,14]) (.cond (.t 14) .skip (.exit 0))) (.seq (.block 1 (.seq (.dreg [] c_r02_SameInts_r5 [0,1,5,25]) (.cond (.t 25) (.seq (.reg c_r02_SameInts_r6 [4]) .ret) .skip))) (.reg c_r02_SameInts_r7 [0,1,5])))
@[go_sem] def c_r02_SameInts_r9 : LL := [qb 4 true]
@[go_sem] def c_r02_SameInts (F : Fn) : LC := (.seq (.reg c_r02_SameInts_r0 [0,1]) (.seq (.seq (.reg c_r02_SameInts_r1 [0,1,10]) (.cond (.t 10) (.seq (.reg c_r02_SameInts_r2 [4]) .ret) .skip)) (.seq (.seq (.reg c_r02_SameInts_r3 [0,1,5]) (.block 0 (.loop [0,1,5] c_r02_SameInts_b8))) (.seq (.reg c_r02_SameInts_r9 [4]) .ret))))
def h_r02_SameInts : Hints := hn [] [(0,[0,1]),(1,[0,1,10]),(2,[4]),(3,[0,1,5]),(4,[0,1,5,14]),(5,[0,1,5]),(6,[0,1,5,25]),(7,[4]),(8,[4])] [(4,[0,1,5])]
@[go_sem] def c_r06_Same_r0 : LL := [qB 2 0,qB 3 1,qb 4 false]
@[go_sem] def c_r06_Same_r1 (F : Fn) : LL := [qf 5 0 2,ql 6 1 5,qf 7 0 3,ql 8 1 7,qc 9 (F "r02.SameInts") [.t 6,.t 8],qm 10 9,qg 10 true (qf 11 1 2),qg 10 true (ql 12 1 11),qg 10 true (qf 13 1 3),qg 10 true (ql 14 1 13),
 qg 10 true (qc 15 (F "r02.SameInts") [.t 12,.t 14]),qP 16 10 15,qm 4 16]
@[go_sem] def c_r06_Same (F : Fn) : LC := (.seq (.reg c_r06_Same_r0 [2,3]) (.seq (.reg (c_r06_Same_r1 F) [4]) .ret))
def h_r06_Same : Hints := hOf [] (c_r06_Same fun _ => 0)
@[go_sem] def c_r06_Through_r0 : LL := [qn 4 1]
@[go_sem] def c_r06_Through_r1 : LL := [qn 5 1]
@[go_sem] def c_r06_Through_r2 : LL := [qi 6 0]
@[go_sem] def c_r06_Through_r3 : LL := [qm 7 6,qm 8 0,qz 9 8,qo .lss 10 7 9]
@[go_sem] def c_r06_Through_r4 : LL := [qm 13 5,qm 14 1,qm 15 0,qm 16 6,qd 17 1 15 16,ql 18 1 17,qd 19 1 14 18,ql 20 1 19,⟨some 21,.buildSl 1 8 (.int .i64 (0)) 1 [(0,.t 20)],none⟩,qp 22 1 8 13 21,qm 5 22]
@[go_sem] def c_r06_Through_r5 : LL := [qm 11 6,qk .add 12 11 1,qm 6 12]
def c_r06_Through_b6 : LC := (.seq (.seq (.reg c_r06_Through_r3 [0,1,5,6,10]) (.cond (.t 10) .skip (.exit 0))) (.seq (.block 1 (.reg c_r06_Through_r4 [0,1,5,6])) (.reg c_r06_Through_r5 [0,1,5,6])))
@[go_sem] def c_r06_Through_r7 : LL := [qm 23 5,qm 4 23]
@[go_sem] def c_r06_Through (F : Fn) : LC := (.seq (.reg c_r06_Through_r0 [0,1]) (.seq (.reg c_r06_Through_r1 [0,1,5]) (.seq (.seq (.reg c_r06_Through_r2 [0,1,5,6]) (.block 0 (.loop [0,1,5,6] c_r06_Through_b6))) (.seq (.reg c_r06_Through_r7 [4]) .ret))))
def h_r06_Through : Hints := hOf [] (c_r06_Through fun _ => 0)
@[go_sem] def c_r06_Then_r0 : LL := [qB 2 0,qB 3 1,qa 4 [.nl 1,.nl 1]]
@[go_sem] def c_r06_Then_r1 (F : Fn) : LL := [qf 5 0 2,ql 6 1 5,qf 7 0 3,ql 8 1 7,qc 9 (F "r06.Through") [.t 6,.t 8],qf 10 1 2,ql 11 1 10,qf 12 1 3,ql 13 1 12,qc 14 (F "r06.Through") [.t 11,.t 13],qu 15 [.nl 1,.nl 1] [(0,1,.t 9),(1,1,.t 14)],
 qs 2 4 15]
@[go_sem] def c_r06_Then (F : Fn) : LC := (.seq (.reg c_r06_Then_r0 [2,3,4]) (.seq (.dreg [(4,none,[],true),(6,(some 32),[4],false),(8,(some 128),[4],false)] (c_r06_Then_r1 F) [4]) .ret))
def h_r06_Then : Hints := hOf [] (c_r06_Then fun _ => 0)
@[go_sem] def c_r06_Few_r0 : LL := [qB 2 0,qb 4 false]
@[go_sem] def c_r06_Few_r1 : LL := [qf 5 0 2,ql 6 1 5,qz 7 6,qf 8 1 2,ql 9 1 8,qz 10 9,qo .add 11 7 10,qm 12 1,qo .leq 13 11 12,qm 4 13]
@[go_sem] def c_r06_Few (F : Fn) : LC := (.seq (.reg c_r06_Few_r0 [1,2]) (.seq (.reg c_r06_Few_r1 [4]) .ret))
def h_r06_Few : Hints := hOf [] (c_r06_Few fun _ => 0)
def nodeE (bn : List Int) : List Int → List Int → Int
 | k :: ms, t :: as => if 0 ≤ k ∧ k < bn.length then (if gt bn k = t then nodeE bn ms as else 13) else 6
 | _, _ => 0
def edgeE (be : List E) (mn : List Int) : List Int → List E → Int
 | k :: ms, x :: as => if 0 ≤ k ∧ k < be.length then (if x.t = (gt be k).t then (if gt mn x.f = (gt be k).f ∧ gt mn x.o = (gt be k).o then edgeE be mn ms as else 11) else 13) else 6
 | _, _ => 0
def validM (a b : G) (m : Mo) : Int :=
 if validG a ≠ 0 then validG a else if validG b ≠ 0 then validG b else if m.n.length ≠ a.n.length ∨ m.e.length ≠ a.e.length then 20
 else if nodeE b.n m.n a.n ≠ 0 then nodeE b.n m.n a.n else edgeE b.e m.n m.e a.e
def thr (l by_ : List Int) : List Int := l.map fun x => gt by_ x
def thenM (m n : Mo) : Mo := ⟨thr m.n n.n, thr m.e n.e⟩
def fewM (m : Mo) (n : Int) : Bool := decide ((m.n.length : Int) + m.e.length ≤ n)
section
variable (P : Program) (F : String → Nat)
def K_morphism_Valid : Prop := ∀ (a b : G) (m : Mo), FC P (F "morphism.Valid") [gD a, gD b, mD m] (.int .i64 (validM a b m)) []
def K_r06_Valid : Prop := ∀ (a b : G) (m : Mo), FC P (F "r06.Valid") [gD a, gD b, mD m] (.int .i64 (validM a b m)) []
def K_r02_SameInts : Prop := ∀ a b : List Int, a.length ≤ maxL → FC P (F "r02.SameInts") [.lst 1 (ints a), .lst 1 (ints b)] (.bool (decide (a = b))) []
def K_r06_Same : Prop := ∀ a b : Mo, a.n.length ≤ maxL → a.e.length ≤ maxL → FC P (F "r06.Same") [mD a, mD b] (.bool (decide (a = b))) []
def K_r06_Through : Prop := ∀ l b : List Int, l.length ≤ 1000000 → (∀ x ∈ l, 0 ≤ x ∧ x < b.length) → FC P (F "r06.Through") [.lst 1 (ints l), .lst 1 (ints b)] (.arr 1 (ints (thr l b))) []
def K_r06_Then : Prop := ∀ m n : Mo, m.n.length ≤ 1000000 → m.e.length ≤ 1000000 → (∀ x ∈ m.n, 0 ≤ x ∧ x < n.n.length) → (∀ x ∈ m.e, 0 ≤ x ∧ x < n.e.length) → FC P (F "r06.Then") [mD m, mD n] (mA (thenM m n)) []
def K_r06_Few : Prop := ∀ (m : Mo) (n : Int), m.n.length ≤ maxL → m.e.length ≤ maxL → FC P (F "r06.Few") [mD m, .int .i64 n] (.bool (fewM m n)) []
end
section
variable {P : Program} {F : String → Nat} {α : Type}
theorem nodeE_step {bn ms as : List Int} {i : Nat} (h1 : i < ms.length) (h2 : i < as.length) : nodeE bn (ms.drop i) (as.drop i) =
  if 0 ≤ gt ms i ∧ gt ms i < bn.length then (if gt bn (gt ms i) = gt as i then nodeE bn (ms.drop (i + 1)) (as.drop (i + 1)) else 13) else 6 := by
 rw [drop_gt h1, drop_gt h2, nodeE]
theorem edgeE_step {be : List E} {mn ms : List Int} {as : List E} {i : Nat} (h1 : i < ms.length) (h2 : i < as.length) : edgeE be mn (ms.drop i) (as.drop i) =
  if 0 ≤ gt ms i ∧ gt ms i < be.length then (if (gt as i).t = (gt be (gt ms i)).t then (if gt mn (gt as i).f = (gt be (gt ms i)).f ∧ gt mn (gt as i).o = (gt be (gt ms i)).o then edgeE be mn (ms.drop (i + 1)) (as.drop (i + 1)) else 11) else 13) else 6 := by
 rw [drop_gt h1, drop_gt h2, edgeE]
theorem nodeE_end {bn ms as : List Int} {i : Nat} (h1 : ms.length ≤ i) : nodeE bn (ms.drop i) (as.drop i) = 0 := by
 rw [List.drop_of_length_le h1]; rfl
theorem edgeE_end {be : List E} {mn ms : List Int} {as : List E} {i : Nat} (h1 : ms.length ≤ i) : edgeE be mn (ms.drop i) (as.drop i) = 0 := by
 rw [List.drop_of_length_le h1]; cases as.drop i <;> rfl
theorem w_morphism_Valid (hv : K_graph_Valid P F) (a b : G) (m : Mo) : W P (c_morphism_Valid F) (Done [.t 6] [] (.int .i64 (validM a b m)) []) (init [gD a, gD b, mD m]) := by
 refine W_of ?_
 have rva := hv a
 have rvb := hv b
 have sva := @valid_spec a
 have svb := @valid_spec b
 have hvm : validM a b m = if validG a ≠ 0 then validG a else if validG b ≠ 0 then validG b else if m.n.length ≠ a.n.length ∨ m.e.length ≠ a.e.length then 20
  else if nodeE b.n m.n a.n ≠ 0 then nodeE b.n m.n a.n else edgeE b.e m.n m.e a.e := rfl
 rw [hvm]
 generalize validG a = va at *
 generalize validG b = vb at *
 clear hvm
 obtain ⟨an, ae⟩ := a
 obtain ⟨bn, be⟩ := b
 obtain ⟨mn, me⟩ := m
 simp only [gD] at rva rvb
 simp only at sva svb
 simp (disch := omega) only [go_sem, ↓reduceIte, gD, mD]
 refine call_by rva ?_
 simp (disch := omega) only [go_sem, ↓reduceIte]
 refine bran_ndec (fun c1 => ?_) (fun c1 => ?_)
 ·simp (disch := omega) only [go_sem, ↓reduceIte]
 ·subst c1
  obtain ⟨a1, a2, _, a4⟩ := sva rfl
  simp (disch := omega) only [go_sem, ↓reduceIte]
  refine call_by rvb ?_
  simp (disch := omega) only [go_sem, ↓reduceIte]
  refine bran_ndec (fun c2 => ?_) (fun c2 => ?_)
  ·simp (disch := omega) only [go_sem, ↓reduceIte]
   simp [c2]
  ·subst c2
   obtain ⟨b1, b2, _, b4⟩ := svb rfl
   simp (disch := omega) only [go_sem, ↓reduceIte]
   refine bran_ndec (fun c3 => ?_) (fun c3 => ?_)
   ·simp (disch := omega) only [go_sem, ↓reduceIte, c3]
    rw [if_neg (by simp), if_neg (by simp)]
   ·simp (disch := omega) only [go_sem, ↓reduceIte, c3]
    refine bran_ndec (fun c4 => ?_) (fun c4 => ?_)
    ·simp (disch := omega) only [go_sem, ↓reduceIte, c3, c4]
     rw [if_neg (by simp), if_neg (by simp)]
    ·have d3 : mn.length = an.length := by omega
     have d4 : me.length = ae.length := by omega
     rw [if_neg (by simp), if_neg (by simp), if_neg (by simp only; omega)]
     clear c3 c4
     simp (disch := omega) only [go_sem, ↓reduceIte, d3, d4]
     refine W_loop (fun i : Nat => ⟨[(3, .pt 0 0), (4, .pt 1 0), (5, .pt 2 0), (42, .lst 1 (ints mn)), (43, .int .i64 an.length), (44, .int .i64 i)],
      [(0, .box [.lst 1 (ints an), .lst 3 (eds ae)]), (1, .box [.lst 1 (ints bn), .lst 3 (eds be)]), (2, .box [.lst 1 (ints mn), .lst 1 (ints me)])], 3⟩)
      (fun i => i ≤ mn.length ∧ nodeE bn mn an = nodeE bn (mn.drop i) (an.drop i)) (fun i => mn.length - i) 0 ?_ ?_ ?_
     ·simp (disch := omega) only [go_sem, ↓reduceIte, d3]
      rfl
     ·simp
     ·rintro i ⟨hi, hn⟩
      simp (disch := omega) only [go_sem, ↓reduceIte, c_morphism_Valid_b17]
      refine bran_dec (fun c5 => ?_) (fun c5 => ?_)
      ·have hs := nodeE_step (bn := bn) (ms := mn) (as := an) (i := i) (by omega) (by omega)
       simp (disch := omega) only [go_sem, ↓reduceIte]
       refine bran_dec (fun c6 => ?_) (fun c6 => ?_)
       ·simp (disch := omega) only [go_sem, ↓reduceIte, c6]
        rw [if_neg (show ¬ (0 ≤ gt mn i ∧ gt mn i < bn.length) by omega)] at hs
        rw [hn, hs]
        try simp
       ·simp (disch := omega) only [go_sem, ↓reduceIte, c6]
        refine bran_dec (fun c7 => ?_) (fun c7 => ?_)
        ·simp (disch := omega) only [go_sem, ↓reduceIte]
         rw [if_neg (show ¬ (0 ≤ gt mn i ∧ gt mn i < bn.length) by omega)] at hs
         rw [hn, hs]
         try simp
        ·rw [if_pos (show (0 ≤ gt mn i ∧ gt mn i < bn.length) by omega)] at hs
         simp (disch := omega) only [go_sem, ↓reduceIte]
         refine bran_ndec (fun c8 => ?_) (fun c8 => ?_)
         ·rw [if_neg c8] at hs
          simp (disch := omega) only [go_sem, ↓reduceIte]
          rw [hn, hs]
          try simp
         ·rw [if_pos c8] at hs
          simp (disch := omega) only [go_sem, ↓reduceIte]
          exact ⟨i + 1, by simp, ⟨by omega, by rw [hn, hs]⟩, by omega⟩
      ·rw [nodeE_end (by omega)] at hn
       simp (disch := omega) only [go_sem, ↓reduceIte]
       refine W_loop (fun i : Nat => ⟨[(3, .pt 0 0), (4, .pt 1 0), (5, .pt 2 0), (71, .lst 1 (ints me)), (72, .int .i64 ae.length), (73, .int .i64 i)],
        [(0, .box [.lst 1 (ints an), .lst 3 (eds ae)]), (1, .box [.lst 1 (ints bn), .lst 3 (eds be)]), (2, .box [.lst 1 (ints mn), .lst 1 (ints me)])], 3⟩)
        (fun i => i ≤ me.length ∧ edgeE be mn me ae = edgeE be mn (me.drop i) (ae.drop i)) (fun i => me.length - i) 0 ?_ ?_ ?_
       ·simp (disch := omega) only [go_sem, ↓reduceIte, d4]
        rfl
       ·simp
       ·rintro i ⟨hi, he⟩
        simp (disch := omega) only [go_sem, ↓reduceIte, c_morphism_Valid_b29]
        refine bran_dec (fun c5 => ?_) (fun c5 => ?_)
        ·have hs := edgeE_step (be := be) (mn := mn) (ms := me) (as := ae) (i := i) (by omega) (by omega)
         have hae := fits_spec (a4 _ (gt_mem (l := ae) (j := i) (by omega) (by omega)))
         simp (disch := omega) only [go_sem, ↓reduceIte]
         refine bran_dec (fun c6 => ?_) (fun c6 => ?_)
         ·simp (disch := omega) only [go_sem, ↓reduceIte, c6]
          rw [if_neg (show ¬ (0 ≤ gt me i ∧ gt me i < be.length) by omega)] at hs
          rw [hn, he, hs]
          simp
         ·simp (disch := omega) only [go_sem, ↓reduceIte, c6]
          refine bran_dec (fun c7 => ?_) (fun c7 => ?_)
          ·simp (disch := omega) only [go_sem, ↓reduceIte]
           rw [if_neg (show ¬ (0 ≤ gt me i ∧ gt me i < be.length) by omega)] at hs
           rw [hn, he, hs]
           simp
          ·rw [if_pos (show (0 ≤ gt me i ∧ gt me i < be.length) by omega)] at hs
           simp (disch := omega) only [go_sem, ↓reduceIte]
           refine bran_ndec (fun c8 => ?_) (fun c8 => ?_)
           ·rw [if_neg c8] at hs
            simp (disch := omega) only [go_sem, ↓reduceIte]
            rw [hn, he, hs]
            simp
           ·rw [if_pos c8] at hs
            simp (disch := omega) only [go_sem, ↓reduceIte]
            refine bran_ndec (fun c9 => ?_) (fun c9 => ?_)
            ·rw [if_neg (fun h => c9 h.1)] at hs
             simp (disch := omega) only [go_sem, ↓reduceIte, c9]
             rw [hn, he, hs]
             simp
            ·simp (disch := omega) only [go_sem, ↓reduceIte, c9]
             refine bran_ndec (fun d1 => ?_) (fun d1 => ?_)
             ·rw [if_neg (fun h => d1 h.2)] at hs
              simp (disch := omega) only [go_sem, ↓reduceIte]
              rw [hn, he, hs]
              simp
             ·rw [if_pos ⟨c9, d1⟩] at hs
              simp (disch := omega) only [go_sem, ↓reduceIte]
              exact ⟨i + 1, by simp, ⟨by omega, by rw [he, hs]⟩, by omega⟩
        ·rw [edgeE_end (by omega)] at he
         simp (disch := omega) only [go_sem, ↓reduceIte]
         rw [hn, he]
         simp
theorem w_r06_Valid (hv : K_r05_Valid P F) (a b : G) (m : Mo) : W P (c_r06_Valid F) (Done [.t 6] [] (.int .i64 (validM a b m)) []) (init [gD a, gD b, mD m]) := by
 refine W_of ?_
 have rva := hv a
 have rvb := hv b
 have sva := @valid_spec a
 have svb := @valid_spec b
 have hvm : validM a b m = if validG a ≠ 0 then validG a else if validG b ≠ 0 then validG b else if m.n.length ≠ a.n.length ∨ m.e.length ≠ a.e.length then 20
  else if nodeE b.n m.n a.n ≠ 0 then nodeE b.n m.n a.n else edgeE b.e m.n m.e a.e := rfl
 rw [hvm]
 generalize validG a = va at *
 generalize validG b = vb at *
 clear hvm
 obtain ⟨an, ae⟩ := a
 obtain ⟨bn, be⟩ := b
 obtain ⟨mn, me⟩ := m
 simp only [gD] at rva rvb
 simp only at sva svb
 simp (disch := omega) only [go_sem, ↓reduceIte, gD, mD]
 refine call_by rva ?_
 simp (disch := omega) only [go_sem, ↓reduceIte]
 refine bran_ndec (fun c1 => ?_) (fun c1 => ?_)
 ·simp (disch := omega) only [go_sem, ↓reduceIte]
 ·subst c1
  obtain ⟨a1, a2, _, a4⟩ := sva rfl
  simp (disch := omega) only [go_sem, ↓reduceIte]
  refine call_by rvb ?_
  simp (disch := omega) only [go_sem, ↓reduceIte]
  refine bran_ndec (fun c2 => ?_) (fun c2 => ?_)
  ·simp (disch := omega) only [go_sem, ↓reduceIte]
   simp [c2]
  ·subst c2
   obtain ⟨b1, b2, _, b4⟩ := svb rfl
   simp (disch := omega) only [go_sem, ↓reduceIte]
   refine bran_ndec (fun c3 => ?_) (fun c3 => ?_)
   ·simp (disch := omega) only [go_sem, ↓reduceIte, c3]
    rw [if_neg (by simp), if_neg (by simp)]
   ·simp (disch := omega) only [go_sem, ↓reduceIte, c3]
    refine bran_ndec (fun c4 => ?_) (fun c4 => ?_)
    ·simp (disch := omega) only [go_sem, ↓reduceIte, c3, c4]
     rw [if_neg (by simp), if_neg (by simp)]
    ·have d3 : mn.length = an.length := by omega
     have d4 : me.length = ae.length := by omega
     rw [if_neg (by simp), if_neg (by simp), if_neg (by simp only; omega)]
     clear c3 c4
     simp (disch := omega) only [go_sem, ↓reduceIte, d3, d4]
     refine W_loop (fun i : Nat => ⟨[(3, .pt 0 0), (4, .pt 1 0), (5, .pt 2 0), (9, .int .i64 i)],
      [(0, .box [.lst 1 (ints an), .lst 3 (eds ae)]), (1, .box [.lst 1 (ints bn), .lst 3 (eds be)]), (2, .box [.lst 1 (ints mn), .lst 1 (ints me)])], 3⟩)
      (fun i => i ≤ mn.length ∧ nodeE bn mn an = nodeE bn (mn.drop i) (an.drop i)) (fun i => mn.length - i) 0 ?_ ?_ ?_
     ·simp (disch := omega) only [go_sem, ↓reduceIte, d3]
      rfl
     ·simp
     ·rintro i ⟨hi, hn⟩
      simp (disch := omega) only [go_sem, ↓reduceIte, c_r06_Valid_b16]
      refine bran_dec (fun c5 => ?_) (fun c5 => ?_)
      ·have hs := nodeE_step (bn := bn) (ms := mn) (as := an) (i := i) (by omega) (by omega)
       simp (disch := omega) only [go_sem, ↓reduceIte]
       refine bran_dec (fun c6 => ?_) (fun c6 => ?_)
       ·simp (disch := omega) only [go_sem, ↓reduceIte, c6]
        rw [if_neg (show ¬ (0 ≤ gt mn i ∧ gt mn i < bn.length) by omega)] at hs
        rw [hn, hs]
        try simp
       ·simp (disch := omega) only [go_sem, ↓reduceIte, c6]
        refine bran_dec (fun c7 => ?_) (fun c7 => ?_)
        ·simp (disch := omega) only [go_sem, ↓reduceIte]
         rw [if_neg (show ¬ (0 ≤ gt mn i ∧ gt mn i < bn.length) by omega)] at hs
         rw [hn, hs]
         try simp
        ·rw [if_pos (show (0 ≤ gt mn i ∧ gt mn i < bn.length) by omega)] at hs
         simp (disch := omega) only [go_sem, ↓reduceIte]
         refine bran_ndec (fun c8 => ?_) (fun c8 => ?_)
         ·rw [if_neg c8] at hs
          simp (disch := omega) only [go_sem, ↓reduceIte]
          rw [hn, hs]
          try simp
         ·rw [if_pos c8] at hs
          simp (disch := omega) only [go_sem, ↓reduceIte]
          exact ⟨i + 1, by simp, ⟨by omega, by rw [hn, hs]⟩, by omega⟩
      ·rw [nodeE_end (by omega)] at hn
       simp (disch := omega) only [go_sem, ↓reduceIte]
       refine W_loop (fun i : Nat => ⟨[(3, .pt 0 0), (4, .pt 1 0), (5, .pt 2 0), (10, .int .i64 i)],
        [(0, .box [.lst 1 (ints an), .lst 3 (eds ae)]), (1, .box [.lst 1 (ints bn), .lst 3 (eds be)]), (2, .box [.lst 1 (ints mn), .lst 1 (ints me)])], 3⟩)
        (fun i => i ≤ me.length ∧ edgeE be mn me ae = edgeE be mn (me.drop i) (ae.drop i)) (fun i => me.length - i) 0 ?_ ?_ ?_
       ·simp (disch := omega) only [go_sem, ↓reduceIte, d4]
        rfl
       ·simp
       ·rintro i ⟨hi, he⟩
        simp (disch := omega) only [go_sem, ↓reduceIte, c_r06_Valid_b27]
        refine bran_dec (fun c5 => ?_) (fun c5 => ?_)
        ·have hs := edgeE_step (be := be) (mn := mn) (ms := me) (as := ae) (i := i) (by omega) (by omega)
         have hae := fits_spec (a4 _ (gt_mem (l := ae) (j := i) (by omega) (by omega)))
         simp (disch := omega) only [go_sem, ↓reduceIte]
         refine bran_dec (fun c6 => ?_) (fun c6 => ?_)
         ·simp (disch := omega) only [go_sem, ↓reduceIte, c6]
          rw [if_neg (show ¬ (0 ≤ gt me i ∧ gt me i < be.length) by omega)] at hs
          rw [hn, he, hs]
          simp
         ·simp (disch := omega) only [go_sem, ↓reduceIte, c6]
          refine bran_dec (fun c7 => ?_) (fun c7 => ?_)
          ·simp (disch := omega) only [go_sem, ↓reduceIte]
           rw [if_neg (show ¬ (0 ≤ gt me i ∧ gt me i < be.length) by omega)] at hs
           rw [hn, he, hs]
           simp
          ·rw [if_pos (show (0 ≤ gt me i ∧ gt me i < be.length) by omega)] at hs
           simp (disch := omega) only [go_sem, ↓reduceIte]
           refine bran_ndec (fun c8 => ?_) (fun c8 => ?_)
           ·rw [if_neg c8] at hs
            simp (disch := omega) only [go_sem, ↓reduceIte]
            rw [hn, he, hs]
            simp
           ·rw [if_pos c8] at hs
            simp (disch := omega) only [go_sem, ↓reduceIte]
            refine bran_ndec (fun c9 => ?_) (fun c9 => ?_)
            ·rw [if_neg (fun h => c9 h.1)] at hs
             simp (disch := omega) only [go_sem, ↓reduceIte, c9]
             rw [hn, he, hs]
             simp
            ·simp (disch := omega) only [go_sem, ↓reduceIte, c9]
             refine bran_ndec (fun d1 => ?_) (fun d1 => ?_)
             ·rw [if_neg (fun h => d1 h.2)] at hs
              simp (disch := omega) only [go_sem, ↓reduceIte]
              rw [hn, he, hs]
              simp
             ·rw [if_pos ⟨c9, d1⟩] at hs
              simp (disch := omega) only [go_sem, ↓reduceIte]
              exact ⟨i + 1, by simp, ⟨by omega, by rw [he, hs]⟩, by omega⟩
        ·rw [edgeE_end (by omega)] at he
         simp (disch := omega) only [go_sem, ↓reduceIte]
         rw [hn, he]
         simp
theorem w_r02_SameInts (a b : List Int) (hl : a.length ≤ maxL) : W P (c_r02_SameInts F) (Done [.t 4] [] (.bool (decide (a = b))) []) (init [.lst 1 (ints a), .lst 1 (ints b)]) := by
 refine W_of ?_
 unfold maxL at hl
 simp (disch := omega) only [go_sem, ↓reduceIte]
 refine bran_ndec (fun h => ?_) (fun h => ?_)
 ·simp (disch := omega) only [go_sem, ↓reduceIte]
  have : a ≠ b := fun e => h (by rw [e])
  simp [this]
 ·have h' : a.length = b.length := by omega
  simp (disch := omega) only [go_sem, ↓reduceIte]
  refine W_loop (fun i : Nat => ⟨[(0, .lst 1 (ints a)), (1, .lst 1 (ints b)), (5, .int .i64 i)], [], 0⟩) (fun i => i ≤ a.length ∧ a.take i = b.take i) (fun i => a.length - i) 0 ?_ ?_ ?_
  ·simp (disch := omega) only [go_sem, ↓reduceIte]
   rfl
  ·simp
  ·intro i hi
   simp (disch := omega) only [go_sem, ↓reduceIte, c_r02_SameInts_b8]
   refine bran_dec (fun c => ?_) (fun c => ?_)
   ·simp (disch := omega) only [go_sem, ↓reduceIte]
    refine bran_ndec (fun d => ?_) (fun d => ?_)
    ·simp (disch := omega) only [go_sem, ↓reduceIte]
     have : a ≠ b := fun e => d (by rw [e])
     simp [this]
    ·simp (disch := omega) only [go_sem, ↓reduceIte]
     exact ⟨i + 1, by simp, ⟨by omega, by rw [take_gt (by omega), take_gt (by omega), hi.2, d]⟩, by omega⟩
   ·simp (disch := omega) only [go_sem, ↓reduceIte]
    obtain rfl : i = a.length := by omega
    have := hi.2
    rw [List.take_length, List.take_of_length_le (by omega)] at this
    simp [this]
theorem w_r06_Same (hs : K_r02_SameInts P F) (a b : Mo) (h1 : a.n.length ≤ maxL) (h2 : a.e.length ≤ maxL) : W P (c_r06_Same F) (Done [.t 4] [] (.bool (decide (a = b))) []) (init [mD a, mD b]) := by
 refine W_of ?_
 obtain ⟨an, ae⟩ := a
 obtain ⟨bn, be⟩ := b
 simp only at h1 h2
 simp (disch := omega) only [go_sem, ↓reduceIte, mD]
 refine call_by (hs _ _ h1) ?_
 simp (disch := omega) only [go_sem, ↓reduceIte]
 refine bran_dec (fun c => ?_) (fun c => ?_)
 ·subst c
  simp (disch := omega) only [go_sem, ↓reduceIte]
  refine call_by (hs _ _ h2) ?_
  simp (disch := omega) only [go_sem, ↓reduceIte]
  simp
 ·simp (disch := omega) only [go_sem, ↓reduceIte, c]
  simp [c]
theorem thr_len (l b : List Int) : (thr l b).length = l.length := by simp [thr]
theorem thr_step {l b : List Int} {i : Nat} (h : i < l.length) : thr (l.take (i + 1)) b = thr (l.take i) b ++ [gt b (gt l i)] := by
 rw [take_gt h]; simp [thr]
theorem w_r06_Through (l b : List Int) (hl : l.length ≤ 1000000) (hb : ∀ x ∈ l, 0 ≤ x ∧ x < b.length) : W P (c_r06_Through F) (Done [.t 4] [] (.arr 1 (ints (thr l b))) []) (init [.lst 1 (ints l), .lst 1 (ints b)]) := by
 refine W_of ?_
 simp (disch := omega) only [go_sem, ↓reduceIte]
 refine W_loop (fun i : Nat => ⟨[(0, .lst 1 (ints l)), (1, .lst 1 (ints b)), (5, .sl 0 0 i), (6, .int .i64 i)], [(0, .arr 1 (ints (thr (l.take i) b)))], 1⟩) (fun i => i ≤ l.length) (fun i => l.length - i) 0 ?_ ?_ ?_
 ·simp (disch := omega) only [go_sem, ↓reduceIte]
  rfl
 ·simp
 ·intro i hi
  have el : (thr (l.take i) b).length = i := by rw [thr_len]; simp; omega
  simp (disch := omega) only [go_sem, ↓reduceIte, c_r06_Through_b6]
  refine bran_dec (fun c => ?_) (fun c => ?_)
  ·have hx := hb _ (gt_mem (l := l) (j := i) (by omega) (by omega))
   simp (disch := omega) only [go_sem, ↓reduceIte, el]
   exact ⟨i + 1, by simp [thr_step (show i < l.length by omega)], by omega, by omega⟩
  ·simp (disch := omega) only [go_sem, ↓reduceIte, el]
   rw [List.take_of_length_le (by omega)]
theorem w_r06_Then (ht : K_r06_Through P F) (m n : Mo) (h1 : m.n.length ≤ 1000000) (h2 : m.e.length ≤ 1000000) (h3 : ∀ x ∈ m.n, 0 ≤ x ∧ x < n.n.length) (h4 : ∀ x ∈ m.e, 0 ≤ x ∧ x < n.e.length) :
  W P (c_r06_Then F) (Done [.c 4 true 2] [] (mA (thenM m n)) []) (init [mD m, mD n]) := by
 refine W_of ?_
 obtain ⟨mn, me⟩ := m
 obtain ⟨nn, ne⟩ := n
 have r1 := ht mn nn h1 h3
 have r2 := ht me ne h2 h4
 simp (disch := omega) only [go_sem, ↓reduceIte, mD]
 refine call_by r1 ?_
 simp (disch := omega) only [go_sem, ↓reduceIte]
 refine call_by r2 ?_
 simp (disch := omega) only [go_sem, ↓reduceIte, mA, thenM]
theorem w_r06_Few (m : Mo) (n : Int) (h1 : m.n.length ≤ maxL) (h2 : m.e.length ≤ maxL) : W P (c_r06_Few F) (Done [.t 4] [] (.bool (fewM m n)) []) (init [mD m, .int .i64 n]) := by
 refine W_of ?_
 obtain ⟨mn, me⟩ := m
 simp only [maxL] at h1 h2
 simp (disch := omega) only [go_sem, ↓reduceIte, mD, fewM]
end
@[go_sem] def c_slices_Equal_E_r0 : LL := [qb 4 false]
@[go_sem] def c_slices_Equal_E_r1 : LL := [qm 6 0,qz 7 6,qm 8 1,qz 9 8,qo .neq 10 7 9]
@[go_sem] def c_slices_Equal_E_r2 : LL := [qb 4 false]
@[go_sem] def c_slices_Equal_E_r3 : LL := [qm 11 0,qz 12 11,qi 13 0]
@[go_sem] def c_slices_Equal_E_r4 : LL := [qo .lss 14 13 12]
@[go_sem] def c_slices_Equal_E_r5 : LL := [qm 15 13,qm 5 15]
@[go_sem] def c_slices_Equal_E_r6 : LL := [qm 16 0,qm 17 5,qd 18 3 16 17,qL 19 3 18,qm 20 1,qm 21 5,qd 22 3 20 21,qL 23 3 22,⟨some 24,.eqA 3 true (.t 19) (.t 23),none⟩]
@[go_sem] def c_slices_Equal_E_r7 : LL := [qb 4 false]
@[go_sem] def c_slices_Equal_E_r8 : LL := [qk .add 25 13 1,qm 13 25]
def c_slices_Equal_E_b9 : LC := (.seq (.reg c_slices_Equal_E_r4 [0,1,12,13,14]) (.seq (.cond (.t 14) .skip (.exit 0)) (.seq (.block 1 (.seq (.reg c_slices_Equal_E_r5 [0,1,5,12,13]) (.seq (.dreg [] c_slices_Equal_E_r6 [0,1,12,13,24]) (.cond (.t 24) (.seq (.reg c_slices_Equal_E_r7 [4]) .ret) .skip)))) (.reg c_slices_Equal_E_r8 [0,1,12,13]))))
@[go_sem] def c_slices_Equal_E_r10 : LL := [qb 4 true]
@[go_sem] def c_slices_Equal_E (F : Fn) : LC := (.seq (.reg c_slices_Equal_E_r0 [0,1]) (.seq (.seq (.reg c_slices_Equal_E_r1 [0,1,10]) (.cond (.t 10) (.seq (.reg c_slices_Equal_E_r2 [4]) .ret) .skip)) (.seq (.seq (.reg c_slices_Equal_E_r3 [0,1,12,13]) (.block 0 (.loop [0,1,12,13] c_slices_Equal_E_b9))) (.seq (.reg c_slices_Equal_E_r10 [4]) .ret))))
def h_slices_Equal_E : Hints := hOf [] (c_slices_Equal_E fun _ => 0)
@[go_sem] def c_slices_Clone_I_r0 : LL := [qn 2 1]
@[go_sem] def c_slices_Clone_I_r1 : LL := [qm 3 0,⟨some 4,.isnil false (.t 3),none⟩]
@[go_sem] def c_slices_Clone_I_r2 : LL := [qn 2 1]
@[go_sem] def c_slices_Clone_I_r3 : LL := [⟨some 5,.buildSl 1 8 (.int .i64 (0)) 0 [],none⟩,qm 6 0,qp 7 1 8 5 6,qm 2 7]
@[go_sem] def c_slices_Clone_I (F : Fn) : LC := (.seq (.reg c_slices_Clone_I_r0 [0]) (.seq (.seq (.reg c_slices_Clone_I_r1 [0,4]) (.cond (.t 4) (.seq (.reg c_slices_Clone_I_r2 [2]) .ret) .skip)) (.seq (.reg c_slices_Clone_I_r3 [2]) .ret)))
def h_slices_Clone_I : Hints := hOf [] (c_slices_Clone_I fun _ => 0)
@[go_sem] def c_slices_Clone_E_r0 : LL := [qn 2 3]
@[go_sem] def c_slices_Clone_E_r1 : LL := [qm 3 0,⟨some 4,.isnil false (.t 3),none⟩]
@[go_sem] def c_slices_Clone_E_r2 : LL := [qn 2 3]
@[go_sem] def c_slices_Clone_E_r3 : LL := [⟨some 5,.buildSl 3 24 (.agg [.int .i64 (0),.int .i64 (0),.int .i64 (0)]) 0 [],none⟩,qm 6 0,qp 7 3 24 5 6,qm 2 7]
@[go_sem] def c_slices_Clone_E (F : Fn) : LC := (.seq (.reg c_slices_Clone_E_r0 [0]) (.seq (.seq (.reg c_slices_Clone_E_r1 [0,4]) (.cond (.t 4) (.seq (.reg c_slices_Clone_E_r2 [2]) .ret) .skip)) (.seq (.reg c_slices_Clone_E_r3 [2]) .ret)))
def h_slices_Clone_E : Hints := hOf [] (c_slices_Clone_E fun _ => 0)
def pts (l : List Mo) : List D := l.map mD
theorem pts_length (l : List Mo) : (pts l).length = l.length := by simp [pts]
theorem pts_snoc (l : List Mo) (a b : List Int) : pts l ++ [.agg [.lst 1 (ints a), .lst 1 (ints b)]] = pts (l ++ [⟨a, b⟩]) := by simp [pts, mD]
attribute [go_sem] pts_length pts_snoc
section
variable (P : Program) (F : String → Nat)
def K_slices_Clone_I : Prop := ∀ l : List Int, l.length ≤ 10000000000000 → FC P (F "slices.Clone.I") [.lst 1 (ints l)] (.arr 1 (ints l)) []
def K_slices_Equal_E : Prop := ∀ a b : List E, a.length ≤ maxL → FC P (F "slices.Equal.E") [.lst 3 (eds a), .lst 3 (eds b)] (.bool (decide (a = b))) []
def K_slices_Clone_E : Prop := ∀ l : List E, l.length ≤ 1000000000000 → FC P (F "slices.Clone.E") [.lst 3 (eds l)] (.arr 3 (eds l)) []
end
section
variable {P : Program} {F : String → Nat} {α : Type}
theorem w_slices_Clone_I (l : List Int) (hl : l.length ≤ 10000000000000) : W P (c_slices_Clone_I F) (Done [.t 2] [] (.arr 1 (ints l)) []) (init [.lst 1 (ints l)]) := by
 refine W_of ?_
 simp (disch := omega) only [go_sem, ↓reduceIte]
 refine nil_by (fun h => ?_) (fun _ => ?_)
 ·have : l = [] := by simpa [ints] using h
  subst this
  simp (disch := omega) only [go_sem, ↓reduceIte, ints_nil]
 ·simp (disch := omega) only [go_sem, ↓reduceIte]
theorem w_slices_Clone_E (l : List E) (hl : l.length ≤ 1000000000000) : W P (c_slices_Clone_E F) (Done [.t 2] [] (.arr 3 (eds l)) []) (init [.lst 3 (eds l)]) := by
 refine W_of ?_
 simp (disch := omega) only [go_sem, ↓reduceIte]
 refine nil_by (fun h => ?_) (fun _ => ?_)
 ·have : l = [] := by simpa [eds] using h
  subst this
  have e : eds [] = [] := rfl
  simp (disch := omega) only [go_sem, ↓reduceIte, e]
 ·simp (disch := omega) only [go_sem, ↓reduceIte]
theorem w_slices_Equal_E (a b : List E) (hl : a.length ≤ maxL) : W P (c_slices_Equal_E F) (Done [.t 4] [] (.bool (decide (a = b))) []) (init [.lst 3 (eds a), .lst 3 (eds b)]) := by
 refine W_of ?_
 unfold maxL at hl
 simp (disch := omega) only [go_sem, ↓reduceIte]
 refine bran_ndec (fun h => ?_) (fun h => ?_)
 ·simp (disch := omega) only [go_sem, ↓reduceIte]
  have : a ≠ b := fun e => h (by rw [e])
  simp [this]
 ·have h' : a.length = b.length := by omega
  simp (disch := omega) only [go_sem, ↓reduceIte]
  refine W_loop (fun i : Nat => ⟨[(0, .lst 3 (eds a)), (1, .lst 3 (eds b)), (12, .int .i64 a.length), (13, .int .i64 i)], [], 0⟩) (fun i => i ≤ a.length ∧ a.take i = b.take i) (fun i => a.length - i) 0 ?_ ?_ ?_
  ·simp (disch := omega) only [go_sem, ↓reduceIte]
   rfl
  ·simp
  ·intro i hi
   simp (disch := omega) only [go_sem, ↓reduceIte, c_slices_Equal_E_b9]
   refine bran_dec (fun c => ?_) (fun c => ?_)
   ·have he : (decide ((gt a i).t = (gt b i).t) && (decide ((gt a i).f = (gt b i).f) && decide ((gt a i).o = (gt b i).o))) = decide (gt a i = gt b i) := by
     rw [Bool.eq_iff_iff]; simp [eqE]
    simp (disch := omega) only [go_sem, ↓reduceIte, he]
    refine bran_ndec (fun d => ?_) (fun d => ?_)
    ·simp (disch := omega) only [go_sem, ↓reduceIte]
     have : a ≠ b := fun e => d (by rw [e])
     simp [this]
    ·simp (disch := omega) only [go_sem, ↓reduceIte]
     exact ⟨i + 1, by simp, ⟨by omega, by rw [take_gt (by omega), take_gt (by omega), hi.2, d]⟩, by omega⟩
   ·simp (disch := omega) only [go_sem, ↓reduceIte]
    obtain rfl : i = a.length := by omega
    have := hi.2
    rw [List.take_length, List.take_of_length_le (by omega)] at this
    simp [this]
end
structure Pr where
 a : Int
 b : Int
 deriving DecidableEq, Inhabited
def prD (x : Pr) : D := .agg [.int .i64 x.a, .int .i64 x.b]
def prs (l : List Pr) : List D := l.map prD
theorem prs_length (l : List Pr) : (prs l).length = l.length := by simp [prs]
theorem prs_snoc (l : List Pr) (a b : Int) : prs l ++ [.agg [.int .i64 a, .int .i64 b]] = prs (l ++ [⟨a, b⟩]) := by simp [prs, prD]
theorem prs_app (l m : List Pr) : prs l ++ prs m = prs (l ++ m) := by simp [prs]
theorem flat_prs (l : List Pr) : (prs l).all D.flatE = true := by simp [prs, prD, D.flatE, D.flat0]
theorem prs_at {l : List Pr} {j : Int} (h0 : 0 ≤ j) (h : j < l.length) : (prs l)[j.toNat]? = some (.agg [.int .i64 (gt l j).a, .int .i64 (gt l j).b]) := by
 unfold prs
 rw [List.getElem?_map, get_gt h0 h]; rfl
theorem prs_atn {l : List Pr} {i : Nat} (h : i < l.length) : (prs l)[i]? = some (.agg [.int .i64 (gt l i).a, .int .i64 (gt l i).b]) := by
 have := prs_at (l := l) (j := i) (by omega) (by omega)
 simpa using this
theorem prs_set {l : List Pr} {i : Nat} {a b : Int} : (prs l).set i (.agg [.int .i64 a, .int .i64 b]) = prs (l.set i ⟨a, b⟩) := by simp [prs, List.map_set, prD]
theorem prs_take {l : List Pr} {n : Nat} : (prs l).take n = prs (l.take n) := by simp [prs, List.map_take]
theorem prs_drop {l : List Pr} {n : Nat} : (prs l).drop n = prs (l.drop n) := by simp [prs, List.map_drop]
attribute [go_sem] prs_length prs_snoc prs_app flat_prs prs_at prs_set prs_take prs_drop
attribute [go_sem low] prs_atn
def g0 : G := ⟨[], []⟩
def m0 : Mo := ⟨[], []⟩
section
variable (P : Program) (F : String → Nat)
end
section
variable {P : Program} {F : String → Nat} {α : Type}
theorem validM_spec {a b : G} {m : Mo} (h : validM a b m = 0) : validG a = 0 ∧ validG b = 0 ∧ m.n.length = a.n.length ∧ m.e.length = a.e.length ∧ nodeE b.n m.n a.n = 0 ∧ edgeE b.e m.n m.e a.e = 0 := by
 unfold validM at h
 split at h
 ·rename_i h1; exact absurd h h1
 ·rename_i h1
  split at h
  ·rename_i h2; exact absurd h h2
  ·rename_i h2
   split at h
   ·cases h
   ·rename_i h3
    split at h
    ·rename_i h4; exact absurd h h4
    ·rename_i h4
     exact ⟨by simpa using h1, by simpa using h2, by omega, by omega, by simpa using h4, h⟩
end
section
variable {P : Program} {F : String → Nat} {α : Type}
theorem nodeE_all {bn : List Int} : ∀ {ms as : List Int}, nodeE bn ms as = 0 → ms.length = as.length → ∀ i : Nat, i < ms.length → (0 ≤ gt ms i ∧ gt ms i < bn.length) ∧ gt bn (gt ms i) = gt as i
 | [], _, _, _, i, hi => by simp at hi
 | k :: ms, [], _, hl, _, _ => by simp at hl
 | k :: ms, t :: as, h, hl, i, hi => by
  rw [nodeE] at h
  split at h
  ·rename_i h1
   split at h
   ·rename_i h2
    cases i with
    | zero => exact ⟨h1, h2⟩
    | succ i =>
     have := nodeE_all h (by simpa using hl) i (by simpa using hi)
     have e1 : gt (k :: ms) ((i + 1 : Nat) : Int) = gt ms i := by simp [gt]
     have e2 : gt (t :: as) ((i + 1 : Nat) : Int) = gt as i := by simp [gt]
     rw [e1, e2]; exact this
   ·simp at h
  ·simp at h
theorem edgeE_all {be : List E} {mn : List Int} : ∀ {ms : List Int} {as : List E}, edgeE be mn ms as = 0 → ms.length = as.length → ∀ i : Nat, i < ms.length →
  (0 ≤ gt ms i ∧ gt ms i < be.length) ∧ (gt as i).t = (gt be (gt ms i)).t ∧ gt mn (gt as i).f = (gt be (gt ms i)).f ∧ gt mn (gt as i).o = (gt be (gt ms i)).o
 | [], _, _, _, i, hi => by simp at hi
 | k :: ms, [], _, hl, _, _ => by simp at hl
 | k :: ms, x :: as, h, hl, i, hi => by
  rw [edgeE] at h
  split at h
  ·rename_i h1
   split at h
   ·rename_i h2
    split at h
    ·rename_i h3
     cases i with
     | zero => exact ⟨h1, h2, h3⟩
     | succ i =>
      have := edgeE_all h (by simpa using hl) i (by simpa using hi)
      have e1 : gt (k :: ms) ((i + 1 : Nat) : Int) = gt ms i := by simp [gt]
      have e2 : gt (x :: as) ((i + 1 : Nat) : Int) = gt as i := by simp [gt]
      rw [e1, e2]; exact this
    ·simp at h
   ·simp at h
  ·simp at h
theorem mem_gt {α : Type} [Inhabited α] {l : List α} {x : α} (h : x ∈ l) : ∃ i : Nat, i < l.length ∧ gt l i = x := by
 obtain ⟨i, hi, rfl⟩ := List.getElem_of_mem h
 exact ⟨i, hi, gt_nat hi⟩
theorem validM_bd {a b : G} {m : Mo} (h : validM a b m = 0) : (∀ x ∈ m.n, 0 ≤ x ∧ x < b.n.length) ∧ ∀ x ∈ m.e, 0 ≤ x ∧ x < b.e.length := by
 obtain ⟨_, _, h3, h4, h5, h6⟩ := validM_spec h
 refine ⟨fun x hx => ?_, fun x hx => ?_⟩
 ·obtain ⟨i, hi, rfl⟩ := mem_gt hx
  exact (nodeE_all h5 h3 i hi).1
 ·obtain ⟨i, hi, rfl⟩ := mem_gt hx
  exact (edgeE_all h6 h4 i hi).1
end
section
variable {α : Type}
theorem list_ext_gt [Inhabited α] {a b : List α} (hl : a.length = b.length) (h : ∀ i : Nat, i < a.length → gt a i = gt b i) : a = b := by
 refine List.ext_getElem hl fun i h1 h2 => ?_
 have := h i h1
 rwa [gt_nat h1, gt_nat h2] at this
theorem thr_gt {l b : List Int} {i : Nat} (h : i < l.length) : gt (thr l b) i = gt b (gt l i) := by
 rw [gt_nat (by rw [thr_len]; exact h)]
 simp only [thr, List.getElem_map]
 rw [gt_nat h]
theorem gt_cons {α : Type} [Inhabited α] (a : α) (l : List α) (i : Nat) : gt (a :: l) ((i + 1 : Nat) : Int) = gt l i := by simp [gt]
theorem gt_cons0 {α : Type} [Inhabited α] (a : α) (l : List α) : gt (a :: l) ((0 : Nat) : Int) = a := by simp [gt]
theorem nodeE_mk {bn : List Int} : ∀ {ms as : List Int}, ms.length = as.length → (∀ i : Nat, i < ms.length → (0 ≤ gt ms i ∧ gt ms i < bn.length) ∧ gt bn (gt ms i) = gt as i) → nodeE bn ms as = 0
 | [], as, _, _ => rfl
 | k :: ms, [], hl, _ => by simp at hl
 | k :: ms, t :: as, hl, h => by
  have h0 := h 0 (by simp)
  rw [gt_cons0, gt_cons0] at h0
  rw [nodeE, if_pos h0.1, if_pos h0.2]
  exact nodeE_mk (by simpa using hl) fun i hi => by have := h (i + 1) (by simpa using hi); rwa [gt_cons, gt_cons] at this
theorem edgeE_mk {be : List E} {mn : List Int} : ∀ {ms : List Int} {as : List E}, ms.length = as.length → (∀ i : Nat, i < ms.length →
  (0 ≤ gt ms i ∧ gt ms i < be.length) ∧ (gt as i).t = (gt be (gt ms i)).t ∧ gt mn (gt as i).f = (gt be (gt ms i)).f ∧ gt mn (gt as i).o = (gt be (gt ms i)).o) → edgeE be mn ms as = 0
 | [], as, _, _ => by cases as <;> rfl
 | k :: ms, [], hl, _ => by simp at hl
 | k :: ms, x :: as, hl, h => by
  have h0 := h 0 (by simp)
  rw [gt_cons0, gt_cons0] at h0
  rw [edgeE, if_pos h0.1, if_pos h0.2.1, if_pos h0.2.2]
  exact edgeE_mk (by simpa using hl) fun i hi => by have := h (i + 1) (by simpa using hi); rwa [gt_cons, gt_cons] at this
structure MOk (a b : G) (m : Mo) : Prop where
 va : validG a = 0
 vb : validG b = 0
 ln : m.n.length = a.n.length
 le : m.e.length = a.e.length
 nd : ∀ i : Nat, i < a.n.length → (0 ≤ gt m.n i ∧ gt m.n i < b.n.length) ∧ gt b.n (gt m.n i) = gt a.n i
 ed : ∀ i : Nat, i < a.e.length → (0 ≤ gt m.e i ∧ gt m.e i < b.e.length) ∧ (gt a.e i).t = (gt b.e (gt m.e i)).t ∧ gt m.n (gt a.e i).f = (gt b.e (gt m.e i)).f ∧ gt m.n (gt a.e i).o = (gt b.e (gt m.e i)).o
theorem mok {a b : G} {m : Mo} : validM a b m = 0 ↔ MOk a b m := by
 constructor
 ·intro h
  obtain ⟨h1, h2, h3, h4, h5, h6⟩ := validM_spec h
  exact ⟨h1, h2, h3, h4, fun i hi => nodeE_all h5 h3 i (by omega), fun i hi => edgeE_all h6 h4 i (by omega)⟩
 ·intro h
  unfold validM
  rw [if_neg (by simp [h.va]), if_neg (by simp [h.vb]), if_neg (by have := h.ln; have := h.le; omega), if_neg (by
   rw [nodeE_mk h.ln fun i hi => h.nd i (by have := h.ln; omega)]; simp)]
  exact edgeE_mk h.le fun i hi => h.ed i (by have := h.le; omega)
theorem valid_mk {g : G} (h1 : g.n.length ≤ 40) (h2 : g.e.length ≤ 80) (h3 : ∀ x, x ∈ g.n → okN x = true) (h4 : ∀ x, x ∈ g.e → fitsE g.n.length x = true) : validG g = 0 := by
 unfold validG
 rw [if_neg (by omega), if_pos]
 simp only [Bool.and_eq_true, List.all_eq_true]
 exact ⟨h3, h4⟩
theorem gt_map {α β : Type} [Inhabited α] [Inhabited β] {l : List α} {f : α → β} {i : Nat} (h : i < l.length) : gt (l.map f) i = f (gt l i) := by
 rw [gt_nat (by simpa using h), gt_nat h]; simp
theorem gtI {α : Type} [Inhabited α] {l : List α} {y : Int} (h : 0 ≤ y ∧ y < l.length) : ∃ i : Nat, i < l.length ∧ y = (i : Int) := ⟨y.toNat, by omega, by omega⟩
theorem edge_fits {g : G} (h : validG g = 0) {i : Int} (hi : 0 ≤ i ∧ i < g.e.length) : (0 ≤ (gt g.e i).t ∧ (gt g.e i).t ≤ 99) ∧ (0 ≤ (gt g.e i).f ∧ (gt g.e i).f < g.n.length) ∧ (0 ≤ (gt g.e i).o ∧ (gt g.e i).o < g.n.length) :=
 fits_spec ((valid_spec h).2.2.2 _ (gt_mem hi.1 hi.2))
theorem nums_gt {n i : Nat} (hi : i < n) : gt (nums 0 n) i = i := by
 unfold nums
 rw [gt_nat (by simp; exact hi)]
 simp
def idM (g : G) : Mo := ⟨nums 0 g.n.length, nums 0 g.e.length⟩
theorem idM_ok {g : G} (h : validG g = 0) : MOk g g (idM g) := by
 refine ⟨h, h, by simp [idM, nums_len], by simp [idM, nums_len], fun i hi => ?_, fun i hi => ?_⟩
 ·simp only [idM]
  rw [nums_gt hi]
  exact ⟨by omega, rfl⟩
 ·simp only [idM]
  rw [nums_gt hi]
  obtain ⟨_, h1, h2⟩ := edge_fits h (i := i) (by omega)
  obtain ⟨j, hj, hj2⟩ := gtI h1
  obtain ⟨k, hk, hk2⟩ := gtI h2
  refine ⟨by omega, rfl, ?_, ?_⟩
  ·rw [hj2, nums_gt hj]
  ·rw [hk2, nums_gt hk]
end
def mergeL (p : List Int) (a b : Int) : List Int := p.map fun k => if k = max (gt p a) (gt p b) then min (gt p a) (gt p b) else k
def keyI (c : List Int) (i : Nat) : Int := (gt c ((i : Int).tmod c.length)).tmod ((i : Int) + 1)
def part (g : G) (c : List Int) : Nat → List Int
 | 0 => nums 0 g.n.length
 | k + 1 => if keyI c (k + 1) < ((k + 1 : Nat) : Int) ∧ gt g.n (keyI c (k + 1)) = gt g.n ((k + 1 : Nat) : Int) then mergeL (part g c k) (keyI c (k + 1)) ((k + 1 : Nat) : Int) else part g c k
def quo (p : List Int) : Nat → List Int × Nat
 | 0 => ([], 0)
 | i + 1 => if gt p i = i then ((quo p i).1 ++ [((quo p i).2 : Int)], (quo p i).2 + 1) else ((quo p i).1 ++ [gt (quo p i).1 (gt p i)], (quo p i).2)
section
theorem gt_appS {α : Type} [Inhabited α] {l : List α} {x : α} {i : Nat} (h : i < l.length) : gt (l ++ [x]) (i : Int) = gt l i := by
 rw [gt_nat (by simp; omega), gt_nat h, List.getElem_append_left h]
theorem gt_lastS {α : Type} [Inhabited α] {l : List α} {x : α} {i : Nat} (h : i = l.length) : gt (l ++ [x]) (i : Int) = x := by
 subst h
 rw [gt_nat (by simp)]; simp
theorem merge_len (p : List Int) (a b : Int) : (mergeL p a b).length = p.length := by simp [mergeL]
theorem gt_setH {l : List Int} {k i : Nat} {v : Int} (hi : i < l.length) : gt (l.set k v) i = if k = i then v else gt l i := by
 rw [gt_nat (by simpa using hi), gt_nat hi, List.getElem_set]
end
end Go.Am
