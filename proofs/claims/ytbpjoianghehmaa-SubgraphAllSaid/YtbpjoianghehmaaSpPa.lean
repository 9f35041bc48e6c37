/- The graph package: searches. -/
/- The graph package and its reference: parts. -/
/- The graph package and its reference: validity, comparison, what is left. -/
/- Drafts of graphs; what laws take. -/
/- Morphisms: validity, comparison, composition. -/
/- slices.Sort at []int, out of the library's contract; slices.Compact; the number of images. -/
/- slices.Clone. -/
/- Pairs of numbers; injective morphisms. -/
/- slices.Compact at []int; injective and surjective morphisms. -/
/- Injective and surjective morphisms. -/
/- Morphisms that are right; identities. -/
/- Lists of bools as data; ascending lists; parts of graphs, plain. -/
/- Images of graphs by numbers: what they are, and that they are morphisms. -/
import Derived.Test.YtbpjoianghehmaaAmPh
import Derived.Sort.Grow
namespace Go.Am
open Go
set_option linter.unusedVariables false
set_option linter.unusedSimpArgs false
/- graph.within -/
def c_graph_within_r0 (F : String → Nat) : List LI := [⟨some 4, .mov (.k (.bool false)), none⟩]
def c_graph_within_r1 (F : String → Nat) : List LI := [⟨some 5, .mov (.t 0), none⟩,
  ⟨some 6, .bin .geq (.t 5) (.k (.int .i64 (0))), none⟩,
  ⟨some 7, .mov (.t 6), none⟩,
  ⟨some 8, .mov (.t 0), some (7, true)⟩,
  ⟨some 9, .mov (.t 1), some (7, true)⟩,
  ⟨some 10, .bin .leq (.t 8) (.t 9), some (7, true)⟩,
  ⟨some 11, .pick (.t 7) (.t 10) (.k (.bool false)), none⟩,
  ⟨some 4, .mov (.t 11), none⟩]
def c_graph_within (F : String → Nat) : LC := (.seq (.reg (c_graph_within_r0 F) [0, 1]) (.seq (.reg (c_graph_within_r1 F) [4]) .ret))
def h_graph_within : Hints := ⟨[], fun _ => [], tab [(0, [0, 1]), (1, [4])], tab []⟩

/- graph.fits -/
def c_graph_fits_r0 (F : String → Nat) : List LI := [⟨some 2, .bx (.t 0), none⟩,
  ⟨some 4, .mov (.k (.bool false)), none⟩]
def c_graph_fits_r1 (F : String → Nat) : List LI := [⟨some 5, .fad 0 (.t 2), none⟩,
  ⟨some 6, .load false 1 (.t 5), none⟩,
  ⟨some 7, .call (F "graph.within") [.t 6, .k (.int .i64 (99))] [], none⟩,
  ⟨some 8, .mov (.t 7), none⟩,
  ⟨some 9, .fad 1 (.t 2), some (8, true)⟩,
  ⟨some 10, .load false 1 (.t 9), some (8, true)⟩,
  ⟨some 11, .mov (.t 1), some (8, true)⟩,
  ⟨some 12, .bin .sub (.t 11) (.k (.int .i64 (1))), some (8, true)⟩,
  ⟨some 13, .call (F "graph.within") [.t 10, .t 12] [], some (8, true)⟩,
  ⟨some 14, .pick (.t 8) (.t 13) (.k (.bool false)), none⟩,
  ⟨some 15, .mov (.t 14), none⟩,
  ⟨some 16, .fad 2 (.t 2), some (15, true)⟩,
  ⟨some 17, .load false 1 (.t 16), some (15, true)⟩,
  ⟨some 18, .mov (.t 1), some (15, true)⟩,
  ⟨some 19, .bin .sub (.t 18) (.k (.int .i64 (1))), some (15, true)⟩,
  ⟨some 20, .call (F "graph.within") [.t 17, .t 19] [], some (15, true)⟩,
  ⟨some 21, .pick (.t 15) (.t 20) (.k (.bool false)), none⟩,
  ⟨some 4, .mov (.t 21), none⟩]
def c_graph_fits (F : String → Nat) : LC := (.seq (.reg (c_graph_fits_r0 F) [1, 2]) (.seq (.reg (c_graph_fits_r1 F) [4]) .ret))
def h_graph_fits : Hints := ⟨[], fun _ => [], tab [(0, [1, 2]), (1, [4])], tab []⟩

/- graph.Valid -/
def c_graph_Valid_r0 (F : String → Nat) : List LI := [⟨some 1, .bx (.t 0), none⟩,
  ⟨some 2, .mov (.k (.int .i64 (0))), none⟩]
def c_graph_Valid_r1 (F : String → Nat) : List LI := [⟨some 3, .fad 0 (.t 1), none⟩,
  ⟨some 4, .load false 1 (.t 3), none⟩,
  ⟨some 5, .len (.t 4), none⟩,
  ⟨some 6, .bin .gtr (.t 5) (.k (.int .i64 (40))), none⟩,
  ⟨some 7, .mov (.t 6), none⟩,
  ⟨some 8, .fad 1 (.t 1), some (7, false)⟩,
  ⟨some 9, .load false 1 (.t 8), some (7, false)⟩,
  ⟨some 10, .len (.t 9), some (7, false)⟩,
  ⟨some 11, .bin .gtr (.t 10) (.k (.int .i64 (80))), some (7, false)⟩,
  ⟨some 12, .pick (.t 7) (.k (.bool true)) (.t 11), none⟩]
def c_graph_Valid_r2 (F : String → Nat) : List LI := [⟨some 2, .mov (.k (.int .i64 (3))), none⟩]
def c_graph_Valid_r3 (F : String → Nat) : List LI := [⟨some 13, .fad 0 (.t 1), none⟩,
  ⟨some 14, .load false 1 (.t 13), none⟩,
  ⟨some 15, .call (F "slices.ContainsFunc.I") [.t 14, .k (.clo (F "graph.Valid.1") [])] [], none⟩]
def c_graph_Valid_r4 (F : String → Nat) : List LI := [⟨some 2, .mov (.k (.int .i64 (6))), none⟩]
def c_graph_Valid_r5 (F : String → Nat) : List LI := [⟨some 16, .fad 1 (.t 1), none⟩,
  ⟨some 17, .load false 1 (.t 16), none⟩,
  ⟨some 18, .mkf (F "graph.Valid.2") [.t 1], none⟩,
  ⟨some 19, .call (F "slices.ContainsFunc.E") [.t 17, .t 18] [], none⟩]
def c_graph_Valid_r6 (F : String → Nat) : List LI := [⟨some 2, .mov (.k (.int .i64 (6))), none⟩]
def c_graph_Valid_r7 (F : String → Nat) : List LI := [⟨some 2, .mov (.k (.int .i64 (0))), none⟩]
def c_graph_Valid (F : String → Nat) : LC := (.seq (.reg (c_graph_Valid_r0 F) [1]) (.seq (.seq (.reg (c_graph_Valid_r1 F) [1, 12]) (.cond (.t 12) (.seq (.reg (c_graph_Valid_r2 F) [2]) .ret) .skip)) (.seq (.seq (.reg (c_graph_Valid_r3 F) [1, 15]) (.cond (.t 15) (.seq (.reg (c_graph_Valid_r4 F) [2]) .ret) .skip)) (.seq (.seq (.reg (c_graph_Valid_r5 F) [19]) (.cond (.t 19) (.seq (.reg (c_graph_Valid_r6 F) [2]) .ret) .skip)) (.seq (.reg (c_graph_Valid_r7 F) [2]) .ret)))))
def h_graph_Valid : Hints := ⟨[], fun _ => [], tab [(0, [1]), (1, [1, 12]), (2, [2]), (3, [1, 15]), (4, [2]), (5, [19]), (6, [2]), (7, [2])], tab []⟩

/- graph.Valid.1 -/
def c_graph_Valid_1_r0 (F : String → Nat) : List LI := [⟨some 2, .mov (.k (.bool false)), none⟩]
def c_graph_Valid_1_r1 (F : String → Nat) : List LI := [⟨some 3, .mov (.t 0), none⟩,
  ⟨some 4, .call (F "graph.within") [.t 3, .k (.int .i64 (99))] [], none⟩,
  ⟨some 5, .not (.t 4), none⟩,
  ⟨some 2, .mov (.t 5), none⟩]
def c_graph_Valid_1 (F : String → Nat) : LC := (.seq (.reg (c_graph_Valid_1_r0 F) [0]) (.seq (.reg (c_graph_Valid_1_r1 F) [2]) .ret))
def h_graph_Valid_1 : Hints := ⟨[], fun _ => [], tab [(0, [0]), (1, [2])], tab []⟩

/- graph.Valid.2 -/
def c_graph_Valid_2_r0 (F : String → Nat) : List LI := [⟨some 2, .bx (.t 0), none⟩,
  ⟨some 3, .mov (.k (.bool false)), none⟩]
def c_graph_Valid_2_r1 (F : String → Nat) : List LI := [⟨some 4, .load true 3 (.t 2), none⟩,
  ⟨some 5, .fad 0 (.t 1), none⟩,
  ⟨some 6, .load false 1 (.t 5), none⟩,
  ⟨some 7, .len (.t 6), none⟩,
  ⟨some 8, .call (F "graph.fits") [.t 4, .t 7] [], none⟩,
  ⟨some 9, .not (.t 8), none⟩,
  ⟨some 3, .mov (.t 9), none⟩]
def c_graph_Valid_2 (F : String → Nat) : LC := (.seq (.reg (c_graph_Valid_2_r0 F) [1, 2]) (.seq (.reg (c_graph_Valid_2_r1 F) [3]) .ret))
def h_graph_Valid_2 : Hints := ⟨[], fun _ => [], tab [(0, [1, 2]), (1, [3])], tab []⟩

/- slices.IndexFunc.I -/
def c_slices_IndexFunc_I_r0 (F : String → Nat) : List LI := [⟨some 4, .mov (.k (.int .i64 (0))), none⟩]
def c_slices_IndexFunc_I_r1 (F : String → Nat) : List LI := [⟨some 6, .mov (.t 0), none⟩,
  ⟨some 7, .len (.t 6), none⟩,
  ⟨some 8, .mov (.k (.int .i64 (0))), none⟩]
def c_slices_IndexFunc_I_r2 (F : String → Nat) : List LI := [⟨some 9, .bin .lss (.t 8) (.t 7), none⟩]
def c_slices_IndexFunc_I_r3 (F : String → Nat) : List LI := [⟨some 10, .mov (.t 8), none⟩,
  ⟨some 5, .mov (.t 10), none⟩]
def c_slices_IndexFunc_I_r4 (F : String → Nat) : List LI := [⟨some 11, .mov (.t 1), none⟩,
  ⟨some 12, .mov (.t 0), none⟩,
  ⟨some 13, .mov (.t 5), none⟩,
  ⟨some 14, .iad 1 (.t 12) (.t 13), none⟩,
  ⟨some 15, .load false 1 (.t 14), none⟩,
  ⟨some 16, .callv (.t 11) [.t 15], none⟩]
def c_slices_IndexFunc_I_r5 (F : String → Nat) : List LI := [⟨some 17, .mov (.t 5), none⟩,
  ⟨some 4, .mov (.t 17), none⟩]
def c_slices_IndexFunc_I_r6 (F : String → Nat) : List LI := [⟨some 18, .bin .add (.t 8) (.k (.int .i64 (1))), none⟩,
  ⟨some 8, .mov (.t 18), none⟩]
def c_slices_IndexFunc_I_b7 (F : String → Nat) : LC := (.seq (.reg (c_slices_IndexFunc_I_r2 F) [0, 1, 7, 8, 9]) (.seq (.cond (.t 9) .skip (.exit 0)) (.seq (.block 1 (.seq (.reg (c_slices_IndexFunc_I_r3 F) [0, 1, 5, 7, 8]) (.seq (.reg (c_slices_IndexFunc_I_r4 F) [0, 1, 5, 7, 8, 16]) (.cond (.t 16) (.seq (.reg (c_slices_IndexFunc_I_r5 F) [4]) .ret) .skip)))) (.reg (c_slices_IndexFunc_I_r6 F) [0, 1, 7, 8]))))
def c_slices_IndexFunc_I_r8 (F : String → Nat) : List LI := [⟨some 4, .mov (.k (.int .i64 (-1))), none⟩]
def c_slices_IndexFunc_I (F : String → Nat) : LC := (.seq (.reg (c_slices_IndexFunc_I_r0 F) [0, 1]) (.seq (.seq (.reg (c_slices_IndexFunc_I_r1 F) [0, 1, 7, 8]) (.block 0 (.loop [0, 1, 7, 8] (c_slices_IndexFunc_I_b7 F)))) (.seq (.reg (c_slices_IndexFunc_I_r8 F) [4]) .ret)))
def h_slices_IndexFunc_I : Hints := ⟨[], fun _ => [], tab [(0, [0, 1]), (1, [0, 1, 7, 8]), (2, [0, 1, 7, 8, 9]), (3, [0, 1, 5, 7, 8]), (4, [0, 1, 5, 7, 8, 16]), (5, [4]), (6, [0, 1, 7, 8]), (7, [4])], tab [(2, [0, 1, 7, 8])]⟩

/- slices.ContainsFunc.I -/
def c_slices_ContainsFunc_I_r0 (F : String → Nat) : List LI := [⟨some 4, .mov (.k (.bool false)), none⟩]
def c_slices_ContainsFunc_I_r1 (F : String → Nat) : List LI := [⟨some 5, .mov (.t 0), none⟩,
  ⟨some 6, .mov (.t 1), none⟩,
  ⟨some 7, .call (F "slices.IndexFunc.I") [.t 5, .t 6] [], none⟩,
  ⟨some 8, .bin .geq (.t 7) (.k (.int .i64 (0))), none⟩,
  ⟨some 4, .mov (.t 8), none⟩]
def c_slices_ContainsFunc_I (F : String → Nat) : LC := (.seq (.reg (c_slices_ContainsFunc_I_r0 F) [0, 1]) (.seq (.reg (c_slices_ContainsFunc_I_r1 F) [4]) .ret))
def h_slices_ContainsFunc_I : Hints := ⟨[], fun _ => [], tab [(0, [0, 1]), (1, [4])], tab []⟩

/- slices.IndexFunc.E -/
def c_slices_IndexFunc_E_r0 (F : String → Nat) : List LI := [⟨some 4, .mov (.k (.int .i64 (0))), none⟩]
def c_slices_IndexFunc_E_r1 (F : String → Nat) : List LI := [⟨some 6, .mov (.t 0), none⟩,
  ⟨some 7, .len (.t 6), none⟩,
  ⟨some 8, .mov (.k (.int .i64 (0))), none⟩]
def c_slices_IndexFunc_E_r2 (F : String → Nat) : List LI := [⟨some 9, .bin .lss (.t 8) (.t 7), none⟩]
def c_slices_IndexFunc_E_r3 (F : String → Nat) : List LI := [⟨some 10, .mov (.t 8), none⟩,
  ⟨some 5, .mov (.t 10), none⟩]
def c_slices_IndexFunc_E_r4 (F : String → Nat) : List LI := [⟨some 11, .mov (.t 1), none⟩,
  ⟨some 12, .mov (.t 0), none⟩,
  ⟨some 13, .mov (.t 5), none⟩,
  ⟨some 14, .iad 3 (.t 12) (.t 13), none⟩,
  ⟨some 15, .load true 3 (.t 14), none⟩,
  ⟨some 16, .callv (.t 11) [.t 15], none⟩]
def c_slices_IndexFunc_E_r5 (F : String → Nat) : List LI := [⟨some 17, .mov (.t 5), none⟩,
  ⟨some 4, .mov (.t 17), none⟩]
def c_slices_IndexFunc_E_r6 (F : String → Nat) : List LI := [⟨some 18, .bin .add (.t 8) (.k (.int .i64 (1))), none⟩,
  ⟨some 8, .mov (.t 18), none⟩]
def c_slices_IndexFunc_E_b7 (F : String → Nat) : LC := (.seq (.reg (c_slices_IndexFunc_E_r2 F) [0, 1, 7, 8, 9]) (.seq (.cond (.t 9) .skip (.exit 0)) (.seq (.block 1 (.seq (.reg (c_slices_IndexFunc_E_r3 F) [0, 1, 5, 7, 8]) (.seq (.reg (c_slices_IndexFunc_E_r4 F) [0, 1, 5, 7, 8, 16]) (.cond (.t 16) (.seq (.reg (c_slices_IndexFunc_E_r5 F) [4]) .ret) .skip)))) (.reg (c_slices_IndexFunc_E_r6 F) [0, 1, 7, 8]))))
def c_slices_IndexFunc_E_r8 (F : String → Nat) : List LI := [⟨some 4, .mov (.k (.int .i64 (-1))), none⟩]
def c_slices_IndexFunc_E (F : String → Nat) : LC := (.seq (.reg (c_slices_IndexFunc_E_r0 F) [0, 1]) (.seq (.seq (.reg (c_slices_IndexFunc_E_r1 F) [0, 1, 7, 8]) (.block 0 (.loop [0, 1, 7, 8] (c_slices_IndexFunc_E_b7 F)))) (.seq (.reg (c_slices_IndexFunc_E_r8 F) [4]) .ret)))
def h_slices_IndexFunc_E : Hints := ⟨[], fun _ => [], tab [(0, [0, 1]), (1, [0, 1, 7, 8]), (2, [0, 1, 7, 8, 9]), (3, [0, 1, 5, 7, 8]), (4, [0, 1, 5, 7, 8, 16]), (5, [4]), (6, [0, 1, 7, 8]), (7, [4])], tab [(2, [0, 1, 7, 8])]⟩

/- slices.ContainsFunc.E -/
def c_slices_ContainsFunc_E_r0 (F : String → Nat) : List LI := [⟨some 4, .mov (.k (.bool false)), none⟩]
def c_slices_ContainsFunc_E_r1 (F : String → Nat) : List LI := [⟨some 5, .mov (.t 0), none⟩,
  ⟨some 6, .mov (.t 1), none⟩,
  ⟨some 7, .call (F "slices.IndexFunc.E") [.t 5, .t 6] [], none⟩,
  ⟨some 8, .bin .geq (.t 7) (.k (.int .i64 (0))), none⟩,
  ⟨some 4, .mov (.t 8), none⟩]
def c_slices_ContainsFunc_E (F : String → Nat) : LC := (.seq (.reg (c_slices_ContainsFunc_E_r0 F) [0, 1]) (.seq (.reg (c_slices_ContainsFunc_E_r1 F) [4]) .ret))
def h_slices_ContainsFunc_E : Hints := ⟨[], fun _ => [], tab [(0, [0, 1]), (1, [4])], tab []⟩

attribute [go_sem] c_graph_within_r0 c_graph_within_r1 c_graph_within c_graph_fits_r0 c_graph_fits_r1 c_graph_fits c_graph_Valid_r0 c_graph_Valid_r1 c_graph_Valid_r2 c_graph_Valid_r3 c_graph_Valid_r4 c_graph_Valid_r5 c_graph_Valid_r6 c_graph_Valid_r7 c_graph_Valid c_graph_Valid_1_r0 c_graph_Valid_1_r1 c_graph_Valid_1 c_graph_Valid_2_r0 c_graph_Valid_2_r1 c_graph_Valid_2 c_slices_IndexFunc_I_r0 c_slices_IndexFunc_I_r1 c_slices_IndexFunc_I_r2 c_slices_IndexFunc_I_r3 c_slices_IndexFunc_I_r4 c_slices_IndexFunc_I_r5 c_slices_IndexFunc_I_r6 c_slices_IndexFunc_I_r8 c_slices_IndexFunc_I c_slices_ContainsFunc_I_r0 c_slices_ContainsFunc_I_r1 c_slices_ContainsFunc_I c_slices_IndexFunc_E_r0 c_slices_IndexFunc_E_r1 c_slices_IndexFunc_E_r2 c_slices_IndexFunc_E_r3 c_slices_IndexFunc_E_r4 c_slices_IndexFunc_E_r5 c_slices_IndexFunc_E_r6 c_slices_IndexFunc_E_r8 c_slices_IndexFunc_E c_slices_ContainsFunc_E_r0 c_slices_ContainsFunc_E_r1 c_slices_ContainsFunc_E
section
variable (P : Program) (F : String → Nat)
def fitsE (n : Int) (x : E) : Bool := decide (0 ≤ x.t ∧ x.t ≤ 99) && decide (0 ≤ x.f ∧ x.f ≤ n - 1) && decide (0 ≤ x.o ∧ x.o ≤ n - 1)
def idx {α : Type} (p : α → Bool) : List α → Int → Int
  | [], _ => -1
  | a :: l, i => if p a then i else idx p l (i + 1)
def K_graph_within : Prop := ∀ n m : Int, FC P (F "graph.within") [.int .i64 n, .int .i64 m] (.bool (decide (0 ≤ n ∧ n ≤ m))) []
def K_graph_fits : Prop := ∀ (x : E) (n : Int), 0 ≤ n ∧ n ≤ 1000000 → FC P (F "graph.fits") [edD x, .int .i64 n] (.bool (fitsE n x)) []
/-- A graph. -/
structure _root_.Go.Am.G where
  n : List Int
  e : List E
  deriving DecidableEq, Inhabited
def gD (g : G) : D := .agg [.lst 1 (ints g.n), .lst 3 (eds g.e)]
def gA (g : G) : D := .agg [.arr 1 (ints g.n), .arr 3 (eds g.e)]
def okN (x : Int) : Bool := decide (0 ≤ x ∧ x ≤ 99)
def validG (g : G) : Int := if 40 < g.n.length ∨ 80 < g.e.length then 3 else if g.n.all okN && g.e.all (fitsE g.n.length) then 0 else 6
def K_slices_IndexFunc_I : Prop := ∀ (l : List Int), l.length ≤ maxL → ∀ (g : Nat) (cs : List D), cs.all okC2 = true → ∀ p : Int → Bool, (∀ x, x ∈ l → FC P g (.int .i64 x :: cs) (.bool (p x)) []) → FC P (F "slices.IndexFunc.I") [.lst 1 (ints l), .clo g cs] (.int .i64 (idx p l 0)) []
def K_slices_IndexFunc_E : Prop := ∀ (l : List E), l.length ≤ maxL → ∀ (g : Nat) (cs : List D), cs.all okC2 = true → ∀ p : E → Bool, (∀ x, x ∈ l → FC P g (edD x :: cs) (.bool (p x)) []) → FC P (F "slices.IndexFunc.E") [.lst 3 (eds l), .clo g cs] (.int .i64 (idx p l 0)) []
def K_slices_ContainsFunc_I : Prop := ∀ (l : List Int), l.length ≤ maxL → ∀ (g : Nat) (cs : List D), cs.all okC2 = true → ∀ p : Int → Bool, (∀ x, x ∈ l → FC P g (.int .i64 x :: cs) (.bool (p x)) []) → FC P (F "slices.ContainsFunc.I") [.lst 1 (ints l), .clo g cs] (.bool (l.any p)) []
def K_slices_ContainsFunc_E : Prop := ∀ (l : List E), l.length ≤ maxL → ∀ (g : Nat) (cs : List D), cs.all okC2 = true → ∀ p : E → Bool, (∀ x, x ∈ l → FC P g (edD x :: cs) (.bool (p x)) []) → FC P (F "slices.ContainsFunc.E") [.lst 3 (eds l), .clo g cs] (.bool (l.any p)) []
def K_graph_Valid_1 : Prop := ∀ x : Int, FC P (F "graph.Valid.1") [.int .i64 x] (.bool (!decide (0 ≤ x ∧ x ≤ 99))) []
def K_graph_Valid_2 : Prop := ∀ (x : E) (ns : List Int) (es : List E), ns.length ≤ 1000000 → FC P (F "graph.Valid.2") [edD x, .ref [.lst 1 (ints ns), .lst 3 (eds es)]] (.bool (!fitsE ns.length x)) []
def K_graph_Valid : Prop := ∀ g : G, FC P (F "graph.Valid") [gD g] (.int .i64 (validG g)) []
theorem _root_.Go.Am.gt_mem {α : Type} [Inhabited α] {l : List α} {j : Int} (h0 : 0 ≤ j) (h : j < l.length) : gt l j ∈ l := List.mem_of_getElem? (get_gt h0 h)
end
section
variable {P : Program} {F : String → Nat} {α : Type}
theorem idx_drop [Inhabited α] (p : α → Bool) (l : List α) (i : Nat) (h : i < l.length) : idx p (l.drop i) i = if p (gt l i) then (i : Int) else idx p (l.drop (i + 1)) ((i + 1 : Nat) : Int) := by
  rw [List.drop_eq_getElem_cons h, gt_nat h]; rfl
theorem idx_ge (p : α → Bool) : ∀ (l : List α) (i : Int), 0 ≤ i → (decide (0 ≤ idx p l i)) = l.any p
  | [], i, h => by simp [idx]
  | a :: l, i, h => by
    simp only [idx, List.any_cons]
    split
    · rename_i ha; simp [ha, h]
    · rename_i ha; rw [idx_ge p l (i + 1) (by omega)]; simp [ha]

theorem w_graph_within (n m : Int) : W P (c_graph_within F) (Done [.t 4] [] (.bool (decide (0 ≤ n ∧ n ≤ m))) []) (init [.int .i64 n, .int .i64 m]) := by
  refine W_of ?_
  simp (config := { maxSteps := 1000000 }) (disch := first | omega | (simp only [go_sem]; omega)) only [go_sem, ↓reduceIte]
  refine bran_dec (fun h => ?_) (fun h => ?_)
  · simp (config := { maxSteps := 1000000 }) (disch := first | omega | (simp only [go_sem]; omega)) only [go_sem, ↓reduceIte, h]
  · simp (config := { maxSteps := 1000000 }) (disch := first | omega | (simp only [go_sem]; omega)) only [go_sem, ↓reduceIte, h]
theorem w_graph_fits (h : K_graph_within P F) (x : E) (n : Int) (hn : 0 ≤ n ∧ n ≤ 1000000) : W P (c_graph_fits F) (Done [.t 4] [] (.bool (fitsE n x)) []) (init [edD x, .int .i64 n]) := by
  refine W_of ?_
  simp (config := { maxSteps := 1000000 }) (disch := first | omega | (simp only [go_sem]; omega)) only [go_sem, ↓reduceIte, edD]
  refine call_by (h _ _) ?_
  simp (config := { maxSteps := 1000000 }) (disch := first | omega | (simp only [go_sem]; omega)) only [go_sem, ↓reduceIte]
  refine bran_dec (fun h1 => ?_) (fun h1 => ?_)
  · simp (config := { maxSteps := 1000000 }) (disch := first | omega | (simp only [go_sem]; omega)) only [go_sem, ↓reduceIte, h1]
    refine call_by (h _ _) ?_
    simp (config := { maxSteps := 1000000 }) (disch := first | omega | (simp only [go_sem]; omega)) only [go_sem, ↓reduceIte, h1]
    refine bran_dec (fun h2 => ?_) (fun h2 => ?_)
    · simp (config := { maxSteps := 1000000 }) (disch := first | omega | (simp only [go_sem]; omega)) only [go_sem, ↓reduceIte, h2]
      refine call_by (h _ _) ?_
      simp (config := { maxSteps := 1000000 }) (disch := first | omega | (simp only [go_sem]; omega)) only [go_sem, ↓reduceIte, h2]
      simp [fitsE, h1, h2]
    · simp (config := { maxSteps := 1000000 }) (disch := first | omega | (simp only [go_sem]; omega)) only [go_sem, ↓reduceIte, h2]
      simp [fitsE, h1, h2]
  · simp (config := { maxSteps := 1000000 }) (disch := first | omega | (simp only [go_sem]; omega)) only [go_sem, ↓reduceIte, h1]
    simp [fitsE, h1]
theorem w_slices_IndexFunc_I (l : List Int) (hl : l.length ≤ maxL) (g : Nat) (cs : List D) (hcs : cs.all okC2 = true) (p : Int → Bool) (hg : ∀ x, x ∈ l → FC P g (.int .i64 x :: cs) (.bool (p x)) []) : W P (c_slices_IndexFunc_I F) (Done [.t 4] [] (.int .i64 (idx p l 0)) []) (init [.lst 1 (ints l), .clo g cs]) := by
  refine W_of ?_
  unfold maxL at hl
  have e1 := caps_lend2 hcs
  have e2 := caps_ren hcs
  simp (config := { maxSteps := 1000000 }) (disch := first | omega | (simp only [go_sem]; omega)) only [go_sem, ↓reduceIte]
  refine W_loop (fun i : Nat => ⟨[(0, .lst 1 (ints l)), (1, .clo g cs), (7, .int .i64 l.length), (8, .int .i64 i)], [], 0⟩) (fun i => i ≤ l.length ∧ idx p l 0 = idx p (l.drop i) i) (fun i => l.length - i) 0 ?_ ?_ ?_
  · simp (config := { maxSteps := 1000000 }) (disch := first | omega | (simp only [go_sem]; omega)) only [go_sem, ↓reduceIte, e2]
    rfl
  · simp
  · intro i hi
    simp (config := { maxSteps := 1000000 }) (disch := first | omega | (simp only [go_sem]; omega)) only [go_sem, ↓reduceIte, c_slices_IndexFunc_I_b7]
    refine bran_dec (fun h => ?_) (fun h => ?_)
    · have hd := idx_drop p l i (by omega)
      simp (config := { maxSteps := 1000000 }) (disch := first | omega | (simp only [go_sem]; omega)) only [go_sem, ↓reduceIte, e1]
      refine call_by (hg _ (gt_mem (by omega) h)) ?_
      simp (config := { maxSteps := 1000000 }) (disch := first | omega | (simp only [go_sem]; omega)) only [go_sem, ↓reduceIte]
      refine bran_by (fun h2 => ?_) (fun h2 => ?_)
      · simp (config := { maxSteps := 1000000 }) (disch := first | omega | (simp only [go_sem]; omega)) only [go_sem, ↓reduceIte]
        rw [hi.2, hd, if_pos h2]
      · simp (config := { maxSteps := 1000000 }) (disch := first | omega | (simp only [go_sem]; omega)) only [go_sem, ↓reduceIte, e2]
        exact ⟨i + 1, by simp, ⟨by omega, by rw [hi.2, hd, if_neg (by simp [h2])]⟩, by omega⟩
    · simp (config := { maxSteps := 1000000 }) (disch := first | omega | (simp only [go_sem]; omega)) only [go_sem, ↓reduceIte]
      rw [hi.2, List.drop_of_length_le (by omega)]
      rfl
theorem w_slices_IndexFunc_E (l : List E) (hl : l.length ≤ maxL) (g : Nat) (cs : List D) (hcs : cs.all okC2 = true) (p : E → Bool) (hg : ∀ x, x ∈ l → FC P g (edD x :: cs) (.bool (p x)) []) : W P (c_slices_IndexFunc_E F) (Done [.t 4] [] (.int .i64 (idx p l 0)) []) (init [.lst 3 (eds l), .clo g cs]) := by
  refine W_of ?_
  unfold maxL at hl
  have e1 := caps_lend2 hcs
  have e2 := caps_ren hcs
  simp (config := { maxSteps := 1000000 }) (disch := first | omega | (simp only [go_sem]; omega)) only [go_sem, ↓reduceIte]
  refine W_loop (fun i : Nat => ⟨[(0, .lst 3 (eds l)), (1, .clo g cs), (7, .int .i64 l.length), (8, .int .i64 i)], [], 0⟩) (fun i => i ≤ l.length ∧ idx p l 0 = idx p (l.drop i) i) (fun i => l.length - i) 0 ?_ ?_ ?_
  · simp (config := { maxSteps := 1000000 }) (disch := first | omega | (simp only [go_sem]; omega)) only [go_sem, ↓reduceIte, e2]
    rfl
  · simp
  · intro i hi
    simp (config := { maxSteps := 1000000 }) (disch := first | omega | (simp only [go_sem]; omega)) only [go_sem, ↓reduceIte, c_slices_IndexFunc_E_b7]
    refine bran_dec (fun h => ?_) (fun h => ?_)
    · have hd := idx_drop p l i (by omega)
      simp (config := { maxSteps := 1000000 }) (disch := first | omega | (simp only [go_sem]; omega)) only [go_sem, ↓reduceIte, e1]
      refine call_by (hg _ (gt_mem (by omega) h)) ?_
      simp (config := { maxSteps := 1000000 }) (disch := first | omega | (simp only [go_sem]; omega)) only [go_sem, ↓reduceIte]
      refine bran_by (fun h2 => ?_) (fun h2 => ?_)
      · simp (config := { maxSteps := 1000000 }) (disch := first | omega | (simp only [go_sem]; omega)) only [go_sem, ↓reduceIte]
        rw [hi.2, hd, if_pos h2]
      · simp (config := { maxSteps := 1000000 }) (disch := first | omega | (simp only [go_sem]; omega)) only [go_sem, ↓reduceIte, e2]
        exact ⟨i + 1, by simp, ⟨by omega, by rw [hi.2, hd, if_neg (by simp [h2])]⟩, by omega⟩
    · simp (config := { maxSteps := 1000000 }) (disch := first | omega | (simp only [go_sem]; omega)) only [go_sem, ↓reduceIte]
      rw [hi.2, List.drop_of_length_le (by omega)]
      rfl
theorem w_slices_ContainsFunc_I (hi : K_slices_IndexFunc_I P F) (l : List Int) (hl : l.length ≤ maxL) (g : Nat) (cs : List D) (hcs : cs.all okC2 = true) (p : Int → Bool) (hg : ∀ x, x ∈ l → FC P g (.int .i64 x :: cs) (.bool (p x)) []) : W P (c_slices_ContainsFunc_I F) (Done [.t 4] [] (.bool (l.any p)) []) (init [.lst 1 (ints l), .clo g cs]) := by
  refine W_of ?_
  simp (config := { maxSteps := 1000000 }) (disch := first | omega | (simp only [go_sem]; omega)) only [go_sem, ↓reduceIte, caps_lend hcs]
  refine call_by (hi l hl g cs hcs p hg) ?_
  simp (config := { maxSteps := 1000000 }) (disch := first | omega | (simp only [go_sem]; omega)) only [go_sem, ↓reduceIte]
  rw [idx_ge _ _ _ (by omega)]
theorem w_slices_ContainsFunc_E (hi : K_slices_IndexFunc_E P F) (l : List E) (hl : l.length ≤ maxL) (g : Nat) (cs : List D) (hcs : cs.all okC2 = true) (p : E → Bool) (hg : ∀ x, x ∈ l → FC P g (edD x :: cs) (.bool (p x)) []) : W P (c_slices_ContainsFunc_E F) (Done [.t 4] [] (.bool (l.any p)) []) (init [.lst 3 (eds l), .clo g cs]) := by
  refine W_of ?_
  simp (config := { maxSteps := 1000000 }) (disch := first | omega | (simp only [go_sem]; omega)) only [go_sem, ↓reduceIte, caps_lend hcs]
  refine call_by (hi l hl g cs hcs p hg) ?_
  simp (config := { maxSteps := 1000000 }) (disch := first | omega | (simp only [go_sem]; omega)) only [go_sem, ↓reduceIte]
  rw [idx_ge _ _ _ (by omega)]
theorem w_graph_Valid_1 (h : K_graph_within P F) (x : Int) : W P (c_graph_Valid_1 F) (Done [.t 2] [] (.bool (!decide (0 ≤ x ∧ x ≤ 99))) []) (init [.int .i64 x]) := by
  refine W_of ?_
  simp (config := { maxSteps := 1000000 }) (disch := first | omega | (simp only [go_sem]; omega)) only [go_sem, ↓reduceIte]
  refine call_by (h _ _) ?_
  simp (config := { maxSteps := 1000000 }) (disch := first | omega | (simp only [go_sem]; omega)) only [go_sem, ↓reduceIte]
theorem w_graph_Valid_2 (h : K_graph_fits P F) (x : E) (ns : List Int) (es : List E) (hn : ns.length ≤ 1000000) : W P (c_graph_Valid_2 F) (Done [.t 3] [] (.bool (!fitsE ns.length x)) []) (init [edD x, .ref [.lst 1 (ints ns), .lst 3 (eds es)]]) := by
  refine W_of ?_
  simp (config := { maxSteps := 1000000 }) (disch := first | omega | (simp only [go_sem]; omega)) only [go_sem, ↓reduceIte, edD]
  refine call_by (h _ _ (by omega)) ?_
  simp (config := { maxSteps := 1000000 }) (disch := first | omega | (simp only [go_sem]; omega)) only [go_sem, ↓reduceIte]
theorem w_graph_Valid (h1 : K_slices_ContainsFunc_I P F) (h2 : K_slices_ContainsFunc_E P F) (hv1 : K_graph_Valid_1 P F) (hv2 : K_graph_Valid_2 P F) (g : G) : W P (c_graph_Valid F) (Done [.t 2] [] (.int .i64 (validG g)) []) (init [gD g]) := by
  refine W_of ?_
  obtain ⟨ns, es⟩ := g
  simp (config := { maxSteps := 1000000 }) (disch := first | omega | (simp only [go_sem]; omega)) only [go_sem, ↓reduceIte, gD]
  refine bran_dec (fun a1 => ?_) (fun a1 => ?_)
  · simp (config := { maxSteps := 1000000 }) (disch := first | omega | (simp only [go_sem]; omega)) only [go_sem, ↓reduceIte, a1]
    simp [validG]
    omega
  · simp (config := { maxSteps := 1000000 }) (disch := first | omega | (simp only [go_sem]; omega)) only [go_sem, ↓reduceIte, a1]
    refine bran_dec (fun a2 => ?_) (fun a2 => ?_)
    · simp (config := { maxSteps := 1000000 }) (disch := first | omega | (simp only [go_sem]; omega)) only [go_sem, ↓reduceIte]
      simp [validG]
      omega
    · simp (config := { maxSteps := 1000000 }) (disch := first | omega | (simp only [go_sem]; omega)) only [go_sem, ↓reduceIte]
      refine call_by (h1 ns (by unfold maxL; omega) _ [] rfl _ (fun x _ => hv1 x)) ?_
      simp (config := { maxSteps := 1000000 }) (disch := first | omega | (simp only [go_sem]; omega)) only [go_sem, ↓reduceIte]
      refine bran_by (fun a3 => ?_) (fun a3 => ?_)
      · simp (config := { maxSteps := 1000000 }) (disch := first | omega | (simp only [go_sem]; omega)) only [go_sem, ↓reduceIte]
        have e : ns.all okN = false := by
          rw [← Bool.not_eq_true, List.all_eq_true]
          rw [List.any_eq_true] at a3
          obtain ⟨x, hx, hp⟩ := a3
          exact fun h => by have := h x hx; simp [okN] at this hp; omega
        simp [validG, a1, a2, e]; omega
      · have e : ns.all okN = true := by
          rw [List.all_eq_true]
          rw [List.any_eq_false] at a3
          exact fun x hx => by have := a3 x hx; simpa [okN] using this
        simp (config := { maxSteps := 1000000 }) (disch := first | omega | (simp only [go_sem]; omega)) only [go_sem, ↓reduceIte]
        refine call_by (h2 es (by unfold maxL; omega) _ _ rfl _ (fun x _ => hv2 x ns es (by omega))) ?_
        simp (config := { maxSteps := 1000000 }) (disch := first | omega | (simp only [go_sem]; omega)) only [go_sem, ↓reduceIte]
        refine bran_by (fun a4 => ?_) (fun a4 => ?_)
        · simp (config := { maxSteps := 1000000 }) (disch := first | omega | (simp only [go_sem]; omega)) only [go_sem, ↓reduceIte]
          have e2 : es.all (fitsE ns.length) = false := by
            rw [← Bool.not_eq_true, List.all_eq_true]
            rw [List.any_eq_true] at a4
            obtain ⟨x, hx, hp⟩ := a4
            exact fun h => by have := h x hx; simp [this] at hp
          simp [validG, a1, a2, e, e2]; omega
        · simp (config := { maxSteps := 1000000 }) (disch := first | omega | (simp only [go_sem]; omega)) only [go_sem, ↓reduceIte]
          have e2 : es.all (fitsE ns.length) = true := by
            rw [List.all_eq_true]
            rw [List.any_eq_false] at a4
            exact fun x hx => by have := a4 x hx; simpa using this
          simp [validG, a1, a2, e, e2]; omega
end
end Go.Am
namespace Go.Am
open Go
set_option linter.unusedVariables false
set_option linter.unusedSimpArgs false
/- r05.kind -/
def c_r05_kind_r0 (F : String → Nat) : List LI := [⟨some 2, .mov (.k (.bool false)), none⟩]
def c_r05_kind_r1 (F : String → Nat) : List LI := [⟨some 3, .mov (.t 0), none⟩,
  ⟨some 4, .bin .geq (.t 3) (.k (.int .i64 (0))), none⟩,
  ⟨some 5, .mov (.t 4), none⟩,
  ⟨some 6, .mov (.t 0), some (5, true)⟩,
  ⟨some 7, .bin .leq (.t 6) (.k (.int .i64 (99))), some (5, true)⟩,
  ⟨some 8, .pick (.t 5) (.t 7) (.k (.bool false)), none⟩,
  ⟨some 2, .mov (.t 8), none⟩]
def c_r05_kind (F : String → Nat) : LC := (.seq (.reg (c_r05_kind_r0 F) [0]) (.seq (.reg (c_r05_kind_r1 F) [2]) .ret))
def h_r05_kind : Hints := ⟨[], fun _ => [], tab [(0, [0]), (1, [2])], tab []⟩

/- r05.right -/
def c_r05_right_r0 (F : String → Nat) : List LI := [⟨some 2, .bx (.t 0), none⟩,
  ⟨some 4, .mov (.k (.bool false)), none⟩]
def c_r05_right_r1 (F : String → Nat) : List LI := [⟨some 5, .fad 0 (.t 2), none⟩,
  ⟨some 6, .load false 1 (.t 5), none⟩,
  ⟨some 7, .call (F "r05.kind") [.t 6] [], none⟩,
  ⟨some 8, .mov (.t 7), none⟩,
  ⟨some 9, .fad 1 (.t 2), some (8, true)⟩,
  ⟨some 10, .load false 1 (.t 9), some (8, true)⟩,
  ⟨some 11, .bin .geq (.t 10) (.k (.int .i64 (0))), some (8, true)⟩,
  ⟨some 12, .pick (.t 8) (.t 11) (.k (.bool false)), none⟩,
  ⟨some 13, .mov (.t 12), none⟩,
  ⟨some 14, .fad 1 (.t 2), some (13, true)⟩,
  ⟨some 15, .load false 1 (.t 14), some (13, true)⟩,
  ⟨some 16, .mov (.t 1), some (13, true)⟩,
  ⟨some 17, .bin .lss (.t 15) (.t 16), some (13, true)⟩,
  ⟨some 18, .pick (.t 13) (.t 17) (.k (.bool false)), none⟩,
  ⟨some 19, .mov (.t 18), none⟩,
  ⟨some 20, .fad 2 (.t 2), some (19, true)⟩,
  ⟨some 21, .load false 1 (.t 20), some (19, true)⟩,
  ⟨some 22, .bin .geq (.t 21) (.k (.int .i64 (0))), some (19, true)⟩,
  ⟨some 23, .pick (.t 19) (.t 22) (.k (.bool false)), none⟩,
  ⟨some 24, .mov (.t 23), none⟩,
  ⟨some 25, .fad 2 (.t 2), some (24, true)⟩,
  ⟨some 26, .load false 1 (.t 25), some (24, true)⟩,
  ⟨some 27, .mov (.t 1), some (24, true)⟩,
  ⟨some 28, .bin .lss (.t 26) (.t 27), some (24, true)⟩,
  ⟨some 29, .pick (.t 24) (.t 28) (.k (.bool false)), none⟩,
  ⟨some 4, .mov (.t 29), none⟩]
def c_r05_right (F : String → Nat) : LC := (.seq (.reg (c_r05_right_r0 F) [1, 2]) (.seq (.reg (c_r05_right_r1 F) [4]) .ret))
def h_r05_right : Hints := ⟨[], fun _ => [], tab [(0, [1, 2]), (1, [4])], tab []⟩

/- r05.Few -/
def c_r05_Few_r0 (F : String → Nat) : List LI := [⟨some 1, .bx (.t 0), none⟩,
  ⟨some 2, .mov (.k (.bool false)), none⟩]
def c_r05_Few_r1 (F : String → Nat) : List LI := [⟨some 3, .fad 0 (.t 1), none⟩,
  ⟨some 4, .load false 1 (.t 3), none⟩,
  ⟨some 5, .len (.t 4), none⟩,
  ⟨some 6, .bin .leq (.t 5) (.k (.int .i64 (45))), none⟩,
  ⟨some 7, .mov (.t 6), none⟩,
  ⟨some 8, .fad 1 (.t 1), some (7, true)⟩,
  ⟨some 9, .load false 1 (.t 8), some (7, true)⟩,
  ⟨some 10, .len (.t 9), some (7, true)⟩,
  ⟨some 11, .bin .leq (.t 10) (.k (.int .i64 (90))), some (7, true)⟩,
  ⟨some 12, .pick (.t 7) (.t 11) (.k (.bool false)), none⟩,
  ⟨some 2, .mov (.t 12), none⟩]
def c_r05_Few (F : String → Nat) : LC := (.seq (.reg (c_r05_Few_r0 F) [1]) (.seq (.reg (c_r05_Few_r1 F) [2]) .ret))
def h_r05_Few : Hints := ⟨[], fun _ => [], tab [(0, [1]), (1, [2])], tab []⟩

/- r05.SameInts -/
def c_r05_SameInts_r0 (F : String → Nat) : List LI := [⟨some 4, .mov (.k (.bool false)), none⟩]
def c_r05_SameInts_r1 (F : String → Nat) : List LI := [⟨some 6, .mov (.t 0), none⟩,
  ⟨some 7, .len (.t 6), none⟩,
  ⟨some 8, .mov (.t 1), none⟩,
  ⟨some 9, .len (.t 8), none⟩,
  ⟨some 10, .bin .neq (.t 7) (.t 9), none⟩]
def c_r05_SameInts_r2 (F : String → Nat) : List LI := [⟨some 4, .mov (.k (.bool false)), none⟩]
def c_r05_SameInts_r3 (F : String → Nat) : List LI := [⟨some 5, .mov (.k (.int .i64 (0))), none⟩]
def c_r05_SameInts_r4 (F : String → Nat) : List LI := [⟨some 11, .mov (.t 5), none⟩,
  ⟨some 12, .mov (.t 0), none⟩,
  ⟨some 13, .len (.t 12), none⟩,
  ⟨some 14, .bin .lss (.t 11) (.t 13), none⟩]
def c_r05_SameInts_r5 (F : String → Nat) : List LI := [⟨some 17, .mov (.t 0), none⟩,
  ⟨some 18, .mov (.t 5), none⟩,
  ⟨some 19, .iad 1 (.t 17) (.t 18), none⟩,
  ⟨some 20, .load false 1 (.t 19), none⟩,
  ⟨some 21, .mov (.t 1), none⟩,
  ⟨some 22, .mov (.t 5), none⟩,
  ⟨some 23, .iad 1 (.t 21) (.t 22), none⟩,
  ⟨some 24, .load false 1 (.t 23), none⟩,
  ⟨some 25, .bin .neq (.t 20) (.t 24), none⟩]
def c_r05_SameInts_r6 (F : String → Nat) : List LI := [⟨some 4, .mov (.k (.bool false)), none⟩]
def c_r05_SameInts_r7 (F : String → Nat) : List LI := [⟨some 15, .mov (.t 5), none⟩,
  ⟨some 16, .bin .add (.t 15) (.k (.int .i64 (1))), none⟩,
  ⟨some 5, .mov (.t 16), none⟩]
def c_r05_SameInts_b8 (F : String → Nat) : LC := (.seq (.seq (.reg (c_r05_SameInts_r4 F) [0, 1, 5, 14]) (.cond (.t 14) .skip (.exit 0))) (.seq (.block 1 (.seq (.dreg [] (c_r05_SameInts_r5 F) [0, 1, 5, 25]) (.cond (.t 25) (.seq (.reg (c_r05_SameInts_r6 F) [4]) .ret) .skip))) (.reg (c_r05_SameInts_r7 F) [0, 1, 5])))
def c_r05_SameInts_r9 (F : String → Nat) : List LI := [⟨some 4, .mov (.k (.bool true)), none⟩]
def c_r05_SameInts (F : String → Nat) : LC := (.seq (.reg (c_r05_SameInts_r0 F) [0, 1]) (.seq (.seq (.reg (c_r05_SameInts_r1 F) [0, 1, 10]) (.cond (.t 10) (.seq (.reg (c_r05_SameInts_r2 F) [4]) .ret) .skip)) (.seq (.seq (.reg (c_r05_SameInts_r3 F) [0, 1, 5]) (.block 0 (.loop [0, 1, 5] (c_r05_SameInts_b8 F)))) (.seq (.reg (c_r05_SameInts_r9 F) [4]) .ret))))
def h_r05_SameInts : Hints := ⟨[], fun _ => [], tab [(0, [0, 1]), (1, [0, 1, 10]), (2, [4]), (3, [0, 1, 5]), (4, [0, 1, 5, 14]), (5, [0, 1, 5]), (6, [0, 1, 5, 25]), (7, [4]), (8, [4])], tab [(4, [0, 1, 5])]⟩

attribute [go_sem] c_r05_kind_r0 c_r05_kind_r1 c_r05_kind c_r05_right_r0 c_r05_right_r1 c_r05_right c_r05_Few_r0 c_r05_Few_r1 c_r05_Few c_r05_SameInts_r0 c_r05_SameInts_r1 c_r05_SameInts_r2 c_r05_SameInts_r3 c_r05_SameInts_r4 c_r05_SameInts_r5 c_r05_SameInts_r6 c_r05_SameInts_r7 c_r05_SameInts_r9 c_r05_SameInts
def leO (x : Int) : Option Int → Bool
  | some q => decide (x ≤ q)
  | none => false
/-- What is wrong with ascending elements below a number. -/
def ascG (n : Int) : Option Int → List Int → Int
  | _, [] => 0
  | p, x :: l => if 0 ≤ x ∧ x ≤ n - 1 then (if leO x p = true then 12 else ascG n (some x) l) else 6
def nums (f : Int) (n : Nat) : List Int := (List.range n).map fun i : Nat => f + (i : Int)
structure Mo where
  n : List Int
  e : List Int
  deriving DecidableEq, Inhabited
def mD (m : Mo) : D := .agg [.lst 1 (ints m.n), .lst 1 (ints m.e)]
def mA (m : Mo) : D := .agg [.arr 1 (ints m.n), .arr 1 (ints m.e)]
def few (g : G) : Bool := decide (g.n.length ≤ 45) && decide (g.e.length ≤ 90)
section
variable (P : Program) (F : String → Nat)
def K_r05_kind : Prop := ∀ n : Int, FC P (F "r05.kind") [.int .i64 n] (.bool (okN n)) []
def K_r05_right : Prop := ∀ (x : E) (n : Int), FC P (F "r05.right") [edD x, .int .i64 n] (.bool (fitsE n x)) []
def K_r05_Valid : Prop := ∀ g : G, FC P (F "r05.Valid") [gD g] (.int .i64 (validG g)) []
def K_r05_Few : Prop := ∀ g : G, FC P (F "r05.Few") [gD g] (.bool (few g)) []
def K_r05_SameInts : Prop := ∀ a b : List Int, a.length ≤ maxL → FC P (F "r05.SameInts") [.lst 1 (ints a), .lst 1 (ints b)] (.bool (decide (a = b))) []
def K_slices_Equal_I : Prop := ∀ a b : List Int, a.length ≤ maxL → FC P (F "slices.Equal.I") [.lst 1 (ints a), .lst 1 (ints b)] (.bool (decide (a = b))) []
end
section
variable {P : Program} {F : String → Nat} {α : Type}
theorem drop_gt [Inhabited α] {l : List α} {i : Nat} (h : i < l.length) : l.drop i = gt l i :: l.drop (i + 1) := by
  rw [List.drop_eq_getElem_cons h, gt_nat h]
theorem take_gt [Inhabited α] {l : List α} {i : Nat} (h : i < l.length) : l.take (i + 1) = l.take i ++ [gt l i] := by
  rw [List.take_succ_eq_append_getElem h, gt_nat h]
theorem nums_len (f : Int) (n : Nat) : (nums f n).length = n := by simp [nums]
/-- The element ahead of an index, if there is one. -/
def prevO (l : List Int) (i : Nat) : Option Int := if i = 0 then none else some (gt l ((i : Int) - 1))
theorem prevO_succ (l : List Int) (i : Nat) : prevO l (i + 1) = some (gt l i) := by
  simp only [prevO]; rw [if_neg (by omega)]; congr 2; omega
theorem asc_step (n : Int) (l : List Int) (i : Nat) (h : i < l.length) : ascG n (prevO l i) (l.drop i) =
    if 0 ≤ gt l i ∧ gt l i ≤ n - 1 then (if 0 < i ∧ gt l i ≤ gt l ((i : Int) - 1) then 12 else ascG n (prevO l (i + 1)) (l.drop (i + 1))) else 6 := by
  rw [drop_gt h, prevO_succ]
  simp only [ascG, prevO]
  by_cases h0 : i = 0
  · simp [h0, leO]
  · simp [h0, leO, Nat.pos_of_ne_zero h0]
theorem w_r05_Few (g : G) : W P (c_r05_Few F) (Done [.t 2] [] (.bool (few g)) []) (init [gD g]) := by
  refine W_of ?_
  obtain ⟨ns, es⟩ := g
  simp (config := { maxSteps := 1000000 }) (disch := first | omega | (simp only [go_sem]; omega)) only [go_sem, ↓reduceIte, gD]
  refine bran_dec (fun a => ?_) (fun a => ?_)
  · simp (config := { maxSteps := 1000000 }) (disch := first | omega | (simp only [go_sem]; omega)) only [go_sem, ↓reduceIte, a]
    have : ns.length ≤ 45 := by omega
    simp [few, this]
    omega
  · simp (config := { maxSteps := 1000000 }) (disch := first | omega | (simp only [go_sem]; omega)) only [go_sem, ↓reduceIte, a]
    have : ¬ ns.length ≤ 45 := by omega
    simp [few, this]
theorem w_r05_kind (n : Int) : W P (c_r05_kind F) (Done [.t 2] [] (.bool (okN n)) []) (init [.int .i64 n]) := by
  refine W_of ?_
  simp (config := { maxSteps := 1000000 }) (disch := first | omega | (simp only [go_sem]; omega)) only [go_sem, ↓reduceIte]
  refine bran_dec (fun a => ?_) (fun a => ?_)
  · simp (config := { maxSteps := 1000000 }) (disch := first | omega | (simp only [go_sem]; omega)) only [go_sem, ↓reduceIte, a]
    simp [okN, a]
  · simp (config := { maxSteps := 1000000 }) (disch := first | omega | (simp only [go_sem]; omega)) only [go_sem, ↓reduceIte, a]
    simp [okN, a]
theorem w_r05_right (h : K_r05_kind P F) (x : E) (n : Int) : W P (c_r05_right F) (Done [.t 4] [] (.bool (fitsE n x)) []) (init [edD x, .int .i64 n]) := by
  refine W_of ?_
  simp (config := { maxSteps := 1000000 }) (disch := first | omega | (simp only [go_sem]; omega)) only [go_sem, ↓reduceIte, edD]
  refine call_by (h _) ?_
  simp (config := { maxSteps := 1000000 }) (disch := first | omega | (simp only [go_sem]; omega)) only [go_sem, ↓reduceIte]
  refine bran_by (fun a => ?_) (fun a => ?_)
  · have a' : 0 ≤ x.t ∧ x.t ≤ 99 := by simpa [okN] using a
    simp (config := { maxSteps := 1000000 }) (disch := first | omega | (simp only [go_sem]; omega)) only [go_sem, ↓reduceIte, a]
    refine bran_dec (fun b => ?_) (fun b => ?_)
    · simp (config := { maxSteps := 1000000 }) (disch := first | omega | (simp only [go_sem]; omega)) only [go_sem, ↓reduceIte, b]
      refine bran_dec (fun c => ?_) (fun c => ?_)
      · simp (config := { maxSteps := 1000000 }) (disch := first | omega | (simp only [go_sem]; omega)) only [go_sem, ↓reduceIte, c]
        refine bran_dec (fun d => ?_) (fun d => ?_)
        · simp (config := { maxSteps := 1000000 }) (disch := first | omega | (simp only [go_sem]; omega)) only [go_sem, ↓reduceIte, d]
          have e1 : decide (x.f ≤ n - 1) = true := by rw [decide_eq_true_eq]; omega
          have e2 : decide (x.o < n) = decide (x.o ≤ n - 1) := by rw [Bool.eq_iff_iff, decide_eq_true_eq, decide_eq_true_eq]; omega
          simp only [fitsE, Bool.decide_and, a', b, d, e1, e2, decide_true, Bool.true_and, Bool.and_true]
        · simp (config := { maxSteps := 1000000 }) (disch := first | omega | (simp only [go_sem]; omega)) only [go_sem, ↓reduceIte, d]
          simp [fitsE, a', d]
      · simp (config := { maxSteps := 1000000 }) (disch := first | omega | (simp only [go_sem]; omega)) only [go_sem, ↓reduceIte, c]
        simp [fitsE, a']
        omega
    · simp (config := { maxSteps := 1000000 }) (disch := first | omega | (simp only [go_sem]; omega)) only [go_sem, ↓reduceIte, b]
      simp [fitsE, a']
      omega
  · have a' : ¬ (0 ≤ x.t ∧ x.t ≤ 99) := by simpa [okN] using a
    simp (config := { maxSteps := 1000000 }) (disch := first | omega | (simp only [go_sem]; omega)) only [go_sem, ↓reduceIte, a]
    simp [fitsE, a']
theorem w_r05_SameInts (a b : List Int) (hl : a.length ≤ maxL) : W P (c_r05_SameInts F) (Done [.t 4] [] (.bool (decide (a = b))) []) (init [.lst 1 (ints a), .lst 1 (ints b)]) := by
  refine W_of ?_
  unfold maxL at hl
  simp (config := { maxSteps := 1000000 }) (disch := first | omega | (simp only [go_sem]; omega)) only [go_sem, ↓reduceIte]
  refine bran_ndec (fun h => ?_) (fun h => ?_)
  · simp (config := { maxSteps := 1000000 }) (disch := first | omega | (simp only [go_sem]; omega)) only [go_sem, ↓reduceIte]
    have : a ≠ b := fun e => h (by rw [e])
    simp [this]
  · have h' : a.length = b.length := by omega
    simp (config := { maxSteps := 1000000 }) (disch := first | omega | (simp only [go_sem]; omega)) only [go_sem, ↓reduceIte]
    refine W_loop (fun i : Nat => ⟨[(0, .lst 1 (ints a)), (1, .lst 1 (ints b)), (5, .int .i64 i)], [], 0⟩) (fun i => i ≤ a.length ∧ a.take i = b.take i) (fun i => a.length - i) 0 ?_ ?_ ?_
    · simp (config := { maxSteps := 1000000 }) (disch := first | omega | (simp only [go_sem]; omega)) only [go_sem, ↓reduceIte]
      rfl
    · simp
    · intro i hi
      simp (config := { maxSteps := 1000000 }) (disch := first | omega | (simp only [go_sem]; omega)) only [go_sem, ↓reduceIte, c_r05_SameInts_b8]
      refine bran_dec (fun c => ?_) (fun c => ?_)
      · simp (config := { maxSteps := 1000000 }) (disch := first | omega | (simp only [go_sem]; omega)) only [go_sem, ↓reduceIte]
        refine bran_ndec (fun d => ?_) (fun d => ?_)
        · simp (config := { maxSteps := 1000000 }) (disch := first | omega | (simp only [go_sem]; omega)) only [go_sem, ↓reduceIte]
          have : a ≠ b := fun e => d (by rw [e])
          simp [this]
        · simp (config := { maxSteps := 1000000 }) (disch := first | omega | (simp only [go_sem]; omega)) only [go_sem, ↓reduceIte]
          exact ⟨i + 1, by simp, ⟨by omega, by rw [take_gt (by omega), take_gt (by omega), hi.2, d]⟩, by omega⟩
      · simp (config := { maxSteps := 1000000 }) (disch := first | omega | (simp only [go_sem]; omega)) only [go_sem, ↓reduceIte]
        obtain rfl : i = a.length := by omega
        have := hi.2
        rw [List.take_length, List.take_of_length_le (by omega)] at this
        simp [this]
end
end Go.Am
namespace Go.Am
open Go
set_option linter.unusedVariables false
set_option linter.unusedSimpArgs false
/- r05.Valid -/
def c_r05_Valid_r0 (F : String → Nat) : List LI := [⟨some 1, .bx (.t 0), none⟩,
  ⟨some 2, .mov (.k (.int .i64 (0))), none⟩]
def c_r05_Valid_r1 (F : String → Nat) : List LI := [⟨some 5, .fad 0 (.t 1), none⟩,
  ⟨some 6, .load false 1 (.t 5), none⟩,
  ⟨some 7, .len (.t 6), none⟩,
  ⟨some 8, .bin .gtr (.t 7) (.k (.int .i64 (40))), none⟩,
  ⟨some 9, .mov (.t 8), none⟩,
  ⟨some 10, .fad 1 (.t 1), some (9, false)⟩,
  ⟨some 11, .load false 1 (.t 10), some (9, false)⟩,
  ⟨some 12, .len (.t 11), some (9, false)⟩,
  ⟨some 13, .bin .gtr (.t 12) (.k (.int .i64 (80))), some (9, false)⟩,
  ⟨some 14, .pick (.t 9) (.k (.bool true)) (.t 13), none⟩]
def c_r05_Valid_r2 (F : String → Nat) : List LI := [⟨some 2, .mov (.k (.int .i64 (3))), none⟩]
def c_r05_Valid_r3 (F : String → Nat) : List LI := [⟨some 3, .mov (.k (.int .i64 (0))), none⟩]
def c_r05_Valid_r4 (F : String → Nat) : List LI := [⟨some 15, .mov (.t 3), none⟩,
  ⟨some 16, .fad 0 (.t 1), none⟩,
  ⟨some 17, .load false 1 (.t 16), none⟩,
  ⟨some 18, .len (.t 17), none⟩,
  ⟨some 19, .bin .lss (.t 15) (.t 18), none⟩]
def c_r05_Valid_r5 (F : String → Nat) : List LI := [⟨some 22, .fad 0 (.t 1), none⟩,
  ⟨some 23, .load false 1 (.t 22), none⟩,
  ⟨some 24, .mov (.t 3), none⟩,
  ⟨some 25, .iad 1 (.t 23) (.t 24), none⟩,
  ⟨some 26, .load false 1 (.t 25), none⟩,
  ⟨some 27, .call (F "r05.kind") [.t 26] [], none⟩,
  ⟨some 28, .not (.t 27), none⟩]
def c_r05_Valid_r6 (F : String → Nat) : List LI := [⟨some 2, .mov (.k (.int .i64 (6))), none⟩]
def c_r05_Valid_r7 (F : String → Nat) : List LI := [⟨some 20, .mov (.t 3), none⟩,
  ⟨some 21, .bin .add (.t 20) (.k (.int .i64 (1))), none⟩,
  ⟨some 3, .mov (.t 21), none⟩]
def c_r05_Valid_b8 (F : String → Nat) : LC := (.seq (.seq (.reg (c_r05_Valid_r4 F) [1, 3, 19]) (.cond (.t 19) .skip (.exit 0))) (.seq (.block 1 (.seq (.reg (c_r05_Valid_r5 F) [1, 3, 28]) (.cond (.t 28) (.seq (.reg (c_r05_Valid_r6 F) [2]) .ret) .skip))) (.reg (c_r05_Valid_r7 F) [1, 3])))
def c_r05_Valid_r9 (F : String → Nat) : List LI := [⟨some 4, .mov (.k (.int .i64 (0))), none⟩]
def c_r05_Valid_r10 (F : String → Nat) : List LI := [⟨some 29, .mov (.t 4), none⟩,
  ⟨some 30, .fad 1 (.t 1), none⟩,
  ⟨some 31, .load false 1 (.t 30), none⟩,
  ⟨some 32, .len (.t 31), none⟩,
  ⟨some 33, .bin .lss (.t 29) (.t 32), none⟩]
def c_r05_Valid_r11 (F : String → Nat) : List LI := [⟨some 36, .fad 1 (.t 1), none⟩,
  ⟨some 37, .load false 1 (.t 36), none⟩,
  ⟨some 38, .mov (.t 4), none⟩,
  ⟨some 39, .iad 3 (.t 37) (.t 38), none⟩,
  ⟨some 40, .load true 3 (.t 39), none⟩,
  ⟨some 41, .fad 0 (.t 1), none⟩,
  ⟨some 42, .load false 1 (.t 41), none⟩,
  ⟨some 43, .len (.t 42), none⟩,
  ⟨some 44, .call (F "r05.right") [.t 40, .t 43] [], none⟩,
  ⟨some 45, .not (.t 44), none⟩]
def c_r05_Valid_r12 (F : String → Nat) : List LI := [⟨some 2, .mov (.k (.int .i64 (6))), none⟩]
def c_r05_Valid_r13 (F : String → Nat) : List LI := [⟨some 34, .mov (.t 4), none⟩,
  ⟨some 35, .bin .add (.t 34) (.k (.int .i64 (1))), none⟩,
  ⟨some 4, .mov (.t 35), none⟩]
def c_r05_Valid_b14 (F : String → Nat) : LC := (.seq (.seq (.reg (c_r05_Valid_r10 F) [1, 4, 33]) (.cond (.t 33) .skip (.exit 2))) (.seq (.block 3 (.seq (.dreg [] (c_r05_Valid_r11 F) [1, 4, 45]) (.cond (.t 45) (.seq (.reg (c_r05_Valid_r12 F) [2]) .ret) .skip))) (.reg (c_r05_Valid_r13 F) [1, 4])))
def c_r05_Valid_r15 (F : String → Nat) : List LI := [⟨some 2, .mov (.k (.int .i64 (0))), none⟩]
def c_r05_Valid (F : String → Nat) : LC := (.seq (.reg (c_r05_Valid_r0 F) [1]) (.seq (.seq (.reg (c_r05_Valid_r1 F) [1, 14]) (.cond (.t 14) (.seq (.reg (c_r05_Valid_r2 F) [2]) .ret) .skip)) (.seq (.seq (.reg (c_r05_Valid_r3 F) [1, 3]) (.block 0 (.loop [1, 3] (c_r05_Valid_b8 F)))) (.seq (.seq (.reg (c_r05_Valid_r9 F) [1, 4]) (.block 2 (.loop [1, 4] (c_r05_Valid_b14 F)))) (.seq (.reg (c_r05_Valid_r15 F) [2]) .ret)))))
def h_r05_Valid : Hints := ⟨[], fun _ => [], tab [(0, [1]), (1, [1, 14]), (2, [2]), (3, [1, 3]), (4, [1, 3, 19]), (5, [1, 3]), (6, [1, 3, 28]), (7, [2]), (8, [1, 4]), (9, [1, 4, 33]), (10, [1, 4]), (11, [1, 4, 45]), (12, [2]), (13, [2])], tab [(4, [1, 3]), (9, [1, 4])]⟩

/- slices.Equal.I -/
def c_slices_Equal_I_r0 (F : String → Nat) : List LI := [⟨some 4, .mov (.k (.bool false)), none⟩]
def c_slices_Equal_I_r1 (F : String → Nat) : List LI := [⟨some 6, .mov (.t 0), none⟩,
  ⟨some 7, .len (.t 6), none⟩,
  ⟨some 8, .mov (.t 1), none⟩,
  ⟨some 9, .len (.t 8), none⟩,
  ⟨some 10, .bin .neq (.t 7) (.t 9), none⟩]
def c_slices_Equal_I_r2 (F : String → Nat) : List LI := [⟨some 4, .mov (.k (.bool false)), none⟩]
def c_slices_Equal_I_r3 (F : String → Nat) : List LI := [⟨some 11, .mov (.t 0), none⟩,
  ⟨some 12, .len (.t 11), none⟩,
  ⟨some 13, .mov (.k (.int .i64 (0))), none⟩]
def c_slices_Equal_I_r4 (F : String → Nat) : List LI := [⟨some 14, .bin .lss (.t 13) (.t 12), none⟩]
def c_slices_Equal_I_r5 (F : String → Nat) : List LI := [⟨some 15, .mov (.t 13), none⟩,
  ⟨some 5, .mov (.t 15), none⟩]
def c_slices_Equal_I_r6 (F : String → Nat) : List LI := [⟨some 16, .mov (.t 0), none⟩,
  ⟨some 17, .mov (.t 5), none⟩,
  ⟨some 18, .iad 1 (.t 16) (.t 17), none⟩,
  ⟨some 19, .load false 1 (.t 18), none⟩,
  ⟨some 20, .mov (.t 1), none⟩,
  ⟨some 21, .mov (.t 5), none⟩,
  ⟨some 22, .iad 1 (.t 20) (.t 21), none⟩,
  ⟨some 23, .load false 1 (.t 22), none⟩,
  ⟨some 24, .bin .neq (.t 19) (.t 23), none⟩]
def c_slices_Equal_I_r7 (F : String → Nat) : List LI := [⟨some 4, .mov (.k (.bool false)), none⟩]
def c_slices_Equal_I_r8 (F : String → Nat) : List LI := [⟨some 25, .bin .add (.t 13) (.k (.int .i64 (1))), none⟩,
  ⟨some 13, .mov (.t 25), none⟩]
def c_slices_Equal_I_b9 (F : String → Nat) : LC := (.seq (.reg (c_slices_Equal_I_r4 F) [0, 1, 12, 13, 14]) (.seq (.cond (.t 14) .skip (.exit 0)) (.seq (.block 1 (.seq (.reg (c_slices_Equal_I_r5 F) [0, 1, 5, 12, 13]) (.seq (.dreg [] (c_slices_Equal_I_r6 F) [0, 1, 12, 13, 24]) (.cond (.t 24) (.seq (.reg (c_slices_Equal_I_r7 F) [4]) .ret) .skip)))) (.reg (c_slices_Equal_I_r8 F) [0, 1, 12, 13]))))
def c_slices_Equal_I_r10 (F : String → Nat) : List LI := [⟨some 4, .mov (.k (.bool true)), none⟩]
def c_slices_Equal_I (F : String → Nat) : LC := (.seq (.reg (c_slices_Equal_I_r0 F) [0, 1]) (.seq (.seq (.reg (c_slices_Equal_I_r1 F) [0, 1, 10]) (.cond (.t 10) (.seq (.reg (c_slices_Equal_I_r2 F) [4]) .ret) .skip)) (.seq (.seq (.reg (c_slices_Equal_I_r3 F) [0, 1, 12, 13]) (.block 0 (.loop [0, 1, 12, 13] (c_slices_Equal_I_b9 F)))) (.seq (.reg (c_slices_Equal_I_r10 F) [4]) .ret))))
def h_slices_Equal_I : Hints := ⟨[], fun _ => [], tab [(0, [0, 1]), (1, [0, 1, 10]), (2, [4]), (3, [0, 1, 12, 13]), (4, [0, 1, 12, 13, 14]), (5, [0, 1, 5, 12, 13]), (6, [0, 1, 12, 13, 24]), (7, [4]), (8, [0, 1, 12, 13]), (9, [4])], tab [(4, [0, 1, 12, 13])]⟩

attribute [go_sem] c_r05_Valid_r0 c_r05_Valid_r1 c_r05_Valid_r2 c_r05_Valid_r3 c_r05_Valid_r4 c_r05_Valid_r5 c_r05_Valid_r6 c_r05_Valid_r7 c_r05_Valid_r9 c_r05_Valid_r10 c_r05_Valid_r11 c_r05_Valid_r12 c_r05_Valid_r13 c_r05_Valid_r15 c_r05_Valid c_slices_Equal_I_r0 c_slices_Equal_I_r1 c_slices_Equal_I_r2 c_slices_Equal_I_r3 c_slices_Equal_I_r4 c_slices_Equal_I_r5 c_slices_Equal_I_r6 c_slices_Equal_I_r7 c_slices_Equal_I_r8 c_slices_Equal_I_r10 c_slices_Equal_I
section
variable {P : Program} {F : String → Nat} {α : Type}
theorem asc_gt (n : Int) : ∀ (l : List Int) (p : Option Int), ascG n p l = 0 → (∀ x, x ∈ l → 0 ≤ x ∧ x ≤ n - 1) ∧ (∀ q, p = some q → ∀ x, x ∈ l → q < x) ∧ l.Pairwise (· < ·)
  | [], p, _ => by simp
  | x :: l, p, h => by
    simp only [ascG] at h
    split at h
    case isFalse => simp at h
    rename_i hx
    by_cases hp : leO x p = true
    · rw [if_pos hp] at h; simp at h
    · rw [if_neg hp] at h
      obtain ⟨h1, h2, h3⟩ := asc_gt n l (some x) h
      refine ⟨by simpa using ⟨hx, h1⟩, ?_, ?_⟩
      · rintro q rfl y hy
        simp only [leO, decide_eq_true_eq] at hp
        rcases List.mem_cons.1 hy with rfl | hy
        · omega
        · have := h2 x rfl y hy; omega
      · simpa using ⟨fun y hy => h2 x rfl y hy, h3⟩
theorem w_slices_Equal_I (a b : List Int) (hl : a.length ≤ maxL) : W P (c_slices_Equal_I F) (Done [.t 4] [] (.bool (decide (a = b))) []) (init [.lst 1 (ints a), .lst 1 (ints b)]) := by
  refine W_of ?_
  unfold maxL at hl
  simp (config := { maxSteps := 1000000 }) (disch := first | omega | (simp only [go_sem]; omega)) only [go_sem, ↓reduceIte]
  refine bran_ndec (fun h => ?_) (fun h => ?_)
  · simp (config := { maxSteps := 1000000 }) (disch := first | omega | (simp only [go_sem]; omega)) only [go_sem, ↓reduceIte]
    have : a ≠ b := fun e => h (by rw [e])
    simp [this]
  · have h' : a.length = b.length := by omega
    simp (config := { maxSteps := 1000000 }) (disch := first | omega | (simp only [go_sem]; omega)) only [go_sem, ↓reduceIte]
    refine W_loop (fun i : Nat => ⟨[(0, .lst 1 (ints a)), (1, .lst 1 (ints b)), (12, .int .i64 a.length), (13, .int .i64 i)], [], 0⟩) (fun i => i ≤ a.length ∧ a.take i = b.take i) (fun i => a.length - i) 0 ?_ ?_ ?_
    · simp (config := { maxSteps := 1000000 }) (disch := first | omega | (simp only [go_sem]; omega)) only [go_sem, ↓reduceIte]
      rfl
    · simp
    · intro i hi
      simp (config := { maxSteps := 1000000 }) (disch := first | omega | (simp only [go_sem]; omega)) only [go_sem, ↓reduceIte, c_slices_Equal_I_b9]
      refine bran_dec (fun c => ?_) (fun c => ?_)
      · simp (config := { maxSteps := 1000000 }) (disch := first | omega | (simp only [go_sem]; omega)) only [go_sem, ↓reduceIte]
        refine bran_ndec (fun d => ?_) (fun d => ?_)
        · simp (config := { maxSteps := 1000000 }) (disch := first | omega | (simp only [go_sem]; omega)) only [go_sem, ↓reduceIte]
          have : a ≠ b := fun e => d (by rw [e])
          simp [this]
        · simp (config := { maxSteps := 1000000 }) (disch := first | omega | (simp only [go_sem]; omega)) only [go_sem, ↓reduceIte]
          exact ⟨i + 1, by simp, ⟨by omega, by rw [take_gt (by omega), take_gt (by omega), hi.2, d]⟩, by omega⟩
      · simp (config := { maxSteps := 1000000 }) (disch := first | omega | (simp only [go_sem]; omega)) only [go_sem, ↓reduceIte]
        obtain rfl : i = a.length := by omega
        have := hi.2
        rw [List.take_length, List.take_of_length_le (by omega)] at this
        simp [this]
theorem w_r05_Valid (hk : K_r05_kind P F) (hr : K_r05_right P F) (g : G) : W P (c_r05_Valid F) (Done [.t 2] [] (.int .i64 (validG g)) []) (init [gD g]) := by
  refine W_of ?_
  obtain ⟨ns, es⟩ := g
  simp (config := { maxSteps := 1000000 }) (disch := first | omega | (simp only [go_sem]; omega)) only [go_sem, ↓reduceIte, gD]
  refine bran_dec (fun a1 => ?_) (fun a1 => ?_)
  · simp (config := { maxSteps := 1000000 }) (disch := first | omega | (simp only [go_sem]; omega)) only [go_sem, ↓reduceIte, a1]
    simp [validG]
    omega
  · simp (config := { maxSteps := 1000000 }) (disch := first | omega | (simp only [go_sem]; omega)) only [go_sem, ↓reduceIte, a1]
    refine bran_dec (fun a2 => ?_) (fun a2 => ?_)
    · simp (config := { maxSteps := 1000000 }) (disch := first | omega | (simp only [go_sem]; omega)) only [go_sem, ↓reduceIte]
      simp [validG]
      omega
    · have hv : validG ⟨ns, es⟩ = if ns.all okN && es.all (fitsE ns.length) then 0 else 6 := by
        simp only [validG]; rw [if_neg (by omega)]
      rw [hv]
      simp (config := { maxSteps := 1000000 }) (disch := first | omega | (simp only [go_sem]; omega)) only [go_sem, ↓reduceIte]
      refine W_loop (fun i : Nat => ⟨[(1, .pt 0 0), (3, .int .i64 i)], [(0, .box [.lst 1 (ints ns), .lst 3 (eds es)])], 1⟩) (fun i => i ≤ ns.length ∧ ns.all okN = (ns.drop i).all okN) (fun i => ns.length - i) 0 ?_ ?_ ?_
      · simp (config := { maxSteps := 1000000 }) (disch := first | omega | (simp only [go_sem]; omega)) only [go_sem, ↓reduceIte]
        rfl
      · simp
      · intro i hi
        simp (config := { maxSteps := 1000000 }) (disch := first | omega | (simp only [go_sem]; omega)) only [go_sem, ↓reduceIte, c_r05_Valid_b8]
        refine bran_dec (fun f => ?_) (fun f => ?_)
        · have hd := drop_gt (l := ns) (i := i) (by omega)
          simp (config := { maxSteps := 1000000 }) (disch := first | omega | (simp only [go_sem]; omega)) only [go_sem, ↓reduceIte]
          refine call_by (hk _) ?_
          simp (config := { maxSteps := 1000000 }) (disch := first | omega | (simp only [go_sem]; omega)) only [go_sem, ↓reduceIte]
          refine bran_nby (fun d => ?_) (fun d => ?_)
          · simp (config := { maxSteps := 1000000 }) (disch := first | omega | (simp only [go_sem]; omega)) only [go_sem, ↓reduceIte]
            rw [hi.2, hd]
            simp [d]
          · simp (config := { maxSteps := 1000000 }) (disch := first | omega | (simp only [go_sem]; omega)) only [go_sem, ↓reduceIte]
            exact ⟨i + 1, by simp, ⟨by omega, by rw [hi.2, hd]; simp [d]⟩, by omega⟩
        · have hn : ns.all okN = true := by rw [hi.2, List.drop_of_length_le (by omega)]; rfl
          simp (config := { maxSteps := 1000000 }) (disch := first | omega | (simp only [go_sem]; omega)) only [go_sem, ↓reduceIte]
          refine W_loop (fun i : Nat => ⟨[(1, .pt 0 0), (4, .int .i64 i)], [(0, .box [.lst 1 (ints ns), .lst 3 (eds es)])], 1⟩) (fun i => i ≤ es.length ∧ es.all (fitsE ns.length) = (es.drop i).all (fitsE ns.length)) (fun i => es.length - i) 0 ?_ ?_ ?_
          · simp (config := { maxSteps := 1000000 }) (disch := first | omega | (simp only [go_sem]; omega)) only [go_sem, ↓reduceIte]
            rfl
          · simp
          · intro i hi
            simp (config := { maxSteps := 1000000 }) (disch := first | omega | (simp only [go_sem]; omega)) only [go_sem, ↓reduceIte, c_r05_Valid_b14]
            refine bran_dec (fun f => ?_) (fun f => ?_)
            · have hd := drop_gt (l := es) (i := i) (by omega)
              simp (config := { maxSteps := 1000000 }) (disch := first | omega | (simp only [go_sem]; omega)) only [go_sem, ↓reduceIte]
              refine call_by (hr _ _) ?_
              simp (config := { maxSteps := 1000000 }) (disch := first | omega | (simp only [go_sem]; omega)) only [go_sem, ↓reduceIte]
              refine bran_nby (fun d => ?_) (fun d => ?_)
              · simp (config := { maxSteps := 1000000 }) (disch := first | omega | (simp only [go_sem]; omega)) only [go_sem, ↓reduceIte]
                rw [hi.2, hd]
                simp [d]
              · simp (config := { maxSteps := 1000000 }) (disch := first | omega | (simp only [go_sem]; omega)) only [go_sem, ↓reduceIte]
                exact ⟨i + 1, by simp, ⟨by omega, by rw [hi.2, hd]; simp [d]⟩, by omega⟩
            · simp (config := { maxSteps := 1000000 }) (disch := first | omega | (simp only [go_sem]; omega)) only [go_sem, ↓reduceIte]
              rw [hi.2, List.drop_of_length_le (by omega), hn]
              rfl
end
end Go.Am
namespace Go.Am
open Go
set_option linter.unusedVariables false
set_option linter.unusedSimpArgs false
def u8s (l : List Int) : List D := l.map fun x => .int .u8 x
def trs (l : List E) : List D := l.map fun x => .agg [.int .u8 x.t, .int .u8 x.f, .int .u8 x.o]
theorem u8s_length (l : List Int) : (u8s l).length = l.length := by simp [u8s]
theorem trs_length (l : List E) : (trs l).length = l.length := by simp [trs]
theorem u8s_atn {l : List Int} {i : Nat} (h : i < l.length) : (u8s l)[i]? = some (.int .u8 (gt l (i : Int))) := by
  rw [gt_nat h]; simp [u8s, h]
theorem trs_atn {l : List E} {i : Nat} (h : i < l.length) : (trs l)[i]? = some (.agg [.int .u8 (gt l (i : Int)).t, .int .u8 (gt l (i : Int)).f, .int .u8 (gt l (i : Int)).o]) := by
  rw [gt_nat h]; simp [trs, h]
theorem flat_u8s (l : List Int) : (u8s l).all D.flatE = true := by simp [u8s, D.flatE, D.flat0]
theorem flat_trs (l : List E) : (trs l).all D.flatE = true := by simp [trs, D.flatE, D.flat0]
attribute [go_sem] u8s_length trs_length u8s_atn trs_atn flat_u8s flat_trs
/-- A draft: types of nodes, and edges. -/
structure Dr where
  n : List Int
  e : List E
  deriving DecidableEq, Inhabited
def Byte (x : Int) : Prop := 0 ≤ x ∧ x ≤ 255
def Dr.ok (x : Dr) : Prop := (∀ v ∈ x.n, Byte v) ∧ ∀ v ∈ x.e, Byte v.t ∧ Byte v.f ∧ Byte v.o
section
variable (P : Program) (F : String → Nat)
end
def Mo.sm (m : Mo) : Prop := m.n.length ≤ maxL ∧ m.e.length ≤ maxL
section
variable {P : Program} {F : String → Nat} {α : Type}
theorem valid_spec {g : G} (h : validG g = 0) : g.n.length ≤ 40 ∧ g.e.length ≤ 80 ∧ (∀ x, x ∈ g.n → okN x = true) ∧ ∀ x, x ∈ g.e → fitsE g.n.length x = true := by
  unfold validG at h
  split at h
  · simp at h
  · rename_i h1
    split at h
    · rename_i h2
      simp only [Bool.and_eq_true, List.all_eq_true] at h2
      exact ⟨by omega, by omega, h2.1, h2.2⟩
    · simp at h
theorem fits_spec {n : Int} {x : E} (h : fitsE n x = true) : (0 ≤ x.t ∧ x.t ≤ 99) ∧ (0 ≤ x.f ∧ x.f < n) ∧ (0 ≤ x.o ∧ x.o < n) := by
  simp only [fitsE, Bool.and_eq_true, decide_eq_true_eq] at h
  omega
theorem fits_mk {n : Int} {x : E} (h1 : 0 ≤ x.t ∧ x.t ≤ 99) (h2 : 0 ≤ x.f ∧ x.f < n) (h3 : 0 ≤ x.o ∧ x.o < n) : fitsE n x = true := by
  simp only [fitsE, Bool.and_eq_true, decide_eq_true_eq]
  omega
end
end Go.Am
namespace Go.Am
open Go
set_option linter.unusedVariables false
set_option linter.unusedSimpArgs false
/-- What is wrong with images of nodes. -/
def nodeE (bn : List Int) : List Int → List Int → Int
  | k :: ms, t :: as => if 0 ≤ k ∧ k < bn.length then (if gt bn k = t then nodeE bn ms as else 13) else 6
  | _, _ => 0
/-- What is wrong with images of edges. -/
def edgeE (be : List E) (mn : List Int) : List Int → List E → Int
  | k :: ms, x :: as => if 0 ≤ k ∧ k < be.length then (if x.t = (gt be k).t then (if gt mn x.f = (gt be k).f ∧ gt mn x.o = (gt be k).o then edgeE be mn ms as else 11) else 13) else 6
  | _, _ => 0
def validM (a b : G) (m : Mo) : Int :=
  if validG a ≠ 0 then validG a else if validG b ≠ 0 then validG b else if m.n.length ≠ a.n.length ∨ m.e.length ≠ a.e.length then 20
  else if nodeE b.n m.n a.n ≠ 0 then nodeE b.n m.n a.n else edgeE b.e m.n m.e a.e
def thr (l by_ : List Int) : List Int := l.map fun x => gt by_ x
def thenM (m n : Mo) : Mo := ⟨thr m.n n.n, thr m.e n.e⟩
def fewM (m : Mo) (n : Int) : Bool := decide ((m.n.length : Int) + m.e.length ≤ n)
section
variable (P : Program) (F : String → Nat)
end
section
variable {P : Program} {F : String → Nat} {α : Type}
theorem thr_len (l b : List Int) : (thr l b).length = l.length := by simp [thr]
end
end Go.Am
namespace Go.Am
open Go Go.Sort
set_option linter.unusedVariables false
set_option linter.unusedSimpArgs false
set_option linter.unnecessarySimpa false
def srt (l : List Int) : List Int := l.mergeSort fun x y => decide (x ≤ y)
theorem srt_perm (l : List Int) : (srt l).Perm l := List.mergeSort_perm _ _
theorem srt_len (l : List Int) : (srt l).length = l.length := (srt_perm l).length_eq
theorem srt_sorted (l : List Int) : (srt l).Pairwise (· ≤ ·) := by
  have := List.pairwise_mergeSort (le := fun x y : Int => decide (x ≤ y)) (fun a b c h1 h2 => by simp at *; omega) (fun a b => by simp; omega) l
  simpa [srt] using this
section
variable (P : Program) (F : String → Nat)
def K_slices_Sort_I : Prop := ∀ l : List Int, l.length ≤ maxL → FC P (F "slices.Sort.I") [.arr 1 (ints l)] (.tup []) [(0, .arr 1 (ints (srt l)))]
end
theorem PE_ints {w : World} {I : Nat → Prop} : ∀ {l : List Int} {us : List Value}, PE w I 1 (ints l) us → us = l.map (Value.int .i64)
  | [], us, h => by simpa [ints, PE] using h
  | x :: l, us, h => by
    simp only [ints, List.map_cons, PE, P1] at h
    obtain ⟨u, us', rfl, _, rfl, h2⟩ := h
    rw [PE_ints (l := l) h2]; rfl
theorem PE_ints' {w : World} {I : Nat → Prop} : ∀ (l : List Int), PE w I 1 (ints l) (l.map (Value.int .i64))
  | [] => by simp [ints, PE]
  | x :: l => by
    simp only [ints, List.map_cons, PE, P1]
    exact ⟨[.int .i64 x], l.map (Value.int .i64), rfl, rfl, rfl, PE_ints' l⟩
/-- What a sort does to the memory. -/
theorem sort_world {w : World} {b n : Nat} {cur : Array Value} {e : TypeId} {d : Array Int} {os : Array Obj} (hg : w.heap[b]? = some (.cells cur e (0, 0))) (hd : d.size ≤ cur.size) :
    Stp (· = b) w (grow (putRow (Value.int .i64) (Sort.ahead w n) b 0 d) os) ∧ ∃ c, (grow (putRow (Value.int .i64) (Sort.ahead w n) b 0 d) os).heap[b]? = some (.cells c e (0, 0)) ∧ c.size = cur.size ∧ ∀ j, j < d.size → c[j]? = some (.int .i64 d[j]!) := by
  have hb : b < w.heap.size := (Array.getElem?_eq_some_iff.1 hg).1
  have hold : ∀ k, k < w.heap.size → (grow (putRow (Value.int .i64) (Sort.ahead w n) b 0 d) os).heap[k]? = if b = k then (w.heap[k]?).map (onCells (putCells (Value.int .i64) 0 d)) else w.heap[k]? := fun k hk => by
    rw [heap_grow_old _ _ (by simpa [Sort.ahead] using hk)]
    simp only [putRow, mapBlock, Sort.ahead, Array.getElem?_modify]
  have hnew : (grow (putRow (Value.int .i64) (Sort.ahead w n) b 0 d) os).heap[b]? = some (.cells (putCells (Value.int .i64) 0 d cur) e (0, 0)) := by
    rw [hold b hb, if_pos rfl, hg]; rfl
  refine ⟨⟨rfl, rfl, rfl, by simp [Sort.ahead], fun k hk hne => by rw [hold k hk, if_neg (fun h => hne h.symm)], fun k c e' fr hk => ?_, ?_⟩, _, hnew, by simp [putCells], fun j hj => ?_⟩
  · have hk2 : k < w.heap.size := (Array.getElem?_eq_some_iff.1 hk).1
    rw [hold k hk2]
    by_cases h : b = k
    · subst h
      rw [if_pos rfl, hk]
      exact ⟨_, rfl, by simp [putCells]⟩
    · rw [if_neg h, hk]
      exact ⟨c, rfl, rfl⟩
  · show w.drawn ≤ w.drawn + n
    omega
  · simp only [putCells, Array.getElem?_mapIdx]
    rw [Array.getElem?_eq_getElem (by omega)]
    simp only [Option.map_some]
    rw [if_pos (by omega)]
    rfl
theorem sort_FC {P : Program} {f : Nat} (hen : ∀ (vs : Array Value) (w : World), (callFunc f vs).run P w = .ok (.enter f vs) w)
    (h1 : ∀ (blk off cap : Nat) (zs : List Int) (w : World), Holds (Value.int .i64) w blk off zs.toArray → blk < w.heap.size → zs.length < 4611686018427387904 → Calls P f #[.slice (some ⟨blk, off, none⟩) zs.length cap] w fun e w' =>
      e = .returned (.tuple #[]) ∧ ∃ n os, w' = grow (putRow (Value.int .i64) (Sort.ahead w n) blk off (zs.mergeSort fun x y => decide (x ≤ y)).toArray) os)
    (h2 : ∀ (p : Option Addr) (cap : Nat) (w : World), Calls P f #[.slice p 0 cap] w fun e w' => e = .returned (.tuple #[]) ∧ w' = w) (l : List Int) (hl : l.length ≤ maxL) :
    FC P f [.arr 1 (ints l)] (.tup []) [(0, .arr 1 (ints (srt l)))] := by
  refine ⟨hen, fun w I vs os hI hnd hos hdr => ?_⟩
  simp only [DRs] at hdr
  obtain ⟨v, vs', o, o', rfl, rfl, hd, rfl, rfl⟩ := hdr
  simp only [DR] at hd
  obtain ⟨hmax, ⟨rfl, hnil, rfl⟩ | ⟨b, cap, cur, e, us, rfl, rfl, hg, c1, c2, c3, hM, hP⟩⟩ := hd
  · have hl0 : l = [] := by simpa [ints] using hnil
    subst hl0
    refine (h2 none 0 w).mono ?_
    rintro e w' ⟨rfl, rfl⟩
    refine ⟨_, [], rfl, Stp.refl _ _, by simp, by simp, ?_⟩
    simp only [List.map_cons, List.map_nil, DRs, DR]
    exact ⟨_, _, [], [], rfl, rfl, ⟨_, rfl, rfl, rfl⟩, _, _, [], [], rfl, rfl, ⟨by simp [srt, ints, maxL], .inl ⟨rfl, by simp [srt, ints], rfl⟩⟩, rfl, rfl⟩
  · have hus := PE_ints hP
    subst hus
    have hlen : (ints l).length = l.length := ints_length l
    rw [hlen] at c1
    simp only [Nat.mul_one] at c3
    rw [hlen]
    have hcur : ∀ j, j < l.length → cur[j]? = some (.int .i64 l[j]!) := fun j hj => by
      have := Mem.cells hg hM j (.int .i64 l[j]!) (by simp [hj])
      simpa using this
    have hH : Holds (Value.int .i64) w b 0 l.toArray := fun j hj => by
      have hj : j < l.length := by simpa using hj
      have hc := hcur j hj
      refine ⟨?_, ?_⟩
      · simp only [World.cell?, hg, Nat.zero_add, hc]
        simp [hj]
      · simp [World.frozen?, hg]
    have hbs : b < w.heap.size := (Array.getElem?_eq_some_iff.1 hg).1
    refine (h1 b 0 cap l w hH hbs (by simp only [maxL] at hl; omega)).mono ?_
    rintro er w' ⟨rfl, n, os2, rfl⟩
    have hsz : (l.mergeSort fun x y => decide (x ≤ y)).toArray.size = l.length := by simp
    obtain ⟨k1, c, k2, k3, k4⟩ := sort_world (n := n) (os := os2) (d := (l.mergeSort fun x y => decide (x ≤ y)).toArray) hg (by rw [hsz]; omega)
    refine ⟨_, [b], rfl, k1.mono fun x _ hx => by simp [hx], by simp, fun x hx => by simp at hx; subst hx; exact ⟨.inl (by simp), Nat.lt_of_lt_of_le hbs k1.size⟩, ?_⟩
    simp only [List.map_cons, List.map_nil, DRs, DR]
    refine ⟨_, _, [], [b], rfl, rfl, ⟨_, rfl, rfl, rfl⟩, _, _, [b], [], rfl, rfl, ⟨by rw [ints_length, srt_len]; exact hl, .inr ⟨b, cap, c, e, (srt l).map (Value.int .i64), ?_, rfl, k2, by rw [ints_length, srt_len]; exact c1, c2, by omega, ?_, PE_ints' _⟩⟩, rfl, rfl⟩
    · simp [ints_length, srt_len, hlen]
    · refine Mem.of_cells k2 (fun j u hj => ?_)
      rw [List.getElem?_map] at hj
      have hjl : j < (srt l).length := by
        rcases Nat.lt_or_ge j (srt l).length with h | h
        · exact h
        · rw [List.getElem?_eq_none h] at hj; cases hj
      have := k4 j (by rw [hsz]; rw [srt_len] at hjl; exact hjl)
      rw [Nat.zero_add, this]
      rw [List.getElem?_eq_getElem hjl] at hj
      simp only [Option.map_some] at hj
      rw [← hj]
      congr 2
      simp [srt] at hjl ⊢
      rw [List.getElem?_eq_getElem (by simpa using hjl)]
      rfl
end Go.Am
namespace Go.Am
open Go
set_option linter.unusedVariables false
set_option linter.unusedSimpArgs false
/- slices.Clone.I -/
def c_slices_Clone_I_r0 (F : String → Nat) : List LI := [⟨some 2, .mov (.k (.nl 1)), none⟩]
def c_slices_Clone_I_r1 (F : String → Nat) : List LI := [⟨some 3, .mov (.t 0), none⟩,
  ⟨some 4, .isnil false (.t 3), none⟩]
def c_slices_Clone_I_r2 (F : String → Nat) : List LI := [⟨some 2, .mov (.k (.nl 1)), none⟩]
def c_slices_Clone_I_r3 (F : String → Nat) : List LI := [⟨some 5, .buildSl 1 8 (.int .i64 (0)) 0 [], none⟩,
  ⟨some 6, .mov (.t 0), none⟩,
  ⟨some 7, .app 1 8 (.t 5) (.t 6), none⟩,
  ⟨some 2, .mov (.t 7), none⟩]
def c_slices_Clone_I (F : String → Nat) : LC := (.seq (.reg (c_slices_Clone_I_r0 F) [0]) (.seq (.seq (.reg (c_slices_Clone_I_r1 F) [0, 4]) (.cond (.t 4) (.seq (.reg (c_slices_Clone_I_r2 F) [2]) .ret) .skip)) (.seq (.reg (c_slices_Clone_I_r3 F) [2]) .ret)))
def h_slices_Clone_I : Hints := ⟨[], fun _ => [], tab [(0, [0]), (1, [0, 4]), (2, [2]), (3, [2])], tab []⟩

attribute [go_sem] c_slices_Clone_I_r0 c_slices_Clone_I_r1 c_slices_Clone_I_r2 c_slices_Clone_I_r3 c_slices_Clone_I
def pts (l : List Mo) : List D := l.map mD
theorem pts_length (l : List Mo) : (pts l).length = l.length := by simp [pts]
theorem pts_snoc (l : List Mo) (a b : List Int) : pts l ++ [.agg [.lst 1 (ints a), .lst 1 (ints b)]] = pts (l ++ [⟨a, b⟩]) := by simp [pts, mD]
attribute [go_sem] pts_length pts_snoc
section
variable (P : Program) (F : String → Nat)
def K_slices_Clone_I : Prop := ∀ l : List Int, l.length ≤ 10000000000000 → FC P (F "slices.Clone.I") [.lst 1 (ints l)] (.arr 1 (ints l)) []
end
section
variable {P : Program} {F : String → Nat} {α : Type}
theorem w_slices_Clone_I (l : List Int) (hl : l.length ≤ 10000000000000) : W P (c_slices_Clone_I F) (Done [.t 2] [] (.arr 1 (ints l)) []) (init [.lst 1 (ints l)]) := by
  refine W_of ?_
  simp (config := { maxSteps := 1000000 }) (disch := first | omega | (simp only [go_sem]; omega)) only [go_sem, ↓reduceIte]
  refine nil_by (fun h => ?_) (fun _ => ?_)
  · have : l = [] := by simpa [ints] using h
    subst this
    simp (config := { maxSteps := 1000000 }) (disch := first | omega | (simp only [go_sem]; omega)) only [go_sem, ↓reduceIte, ints_nil]
  · simp (config := { maxSteps := 1000000 }) (disch := first | omega | (simp only [go_sem]; omega)) only [go_sem, ↓reduceIte]
end
end Go.Am
namespace Go.Am
open Go
set_option linter.unusedVariables false
set_option linter.unusedSimpArgs false
/-- A pair. -/
structure Pr where
  a : Int
  b : Int
  deriving DecidableEq, Inhabited
def prD (x : Pr) : D := .agg [.int .i64 x.a, .int .i64 x.b]
def prs (l : List Pr) : List D := l.map prD
theorem prs_length (l : List Pr) : (prs l).length = l.length := by simp [prs]
theorem prs_snoc (l : List Pr) (a b : Int) : prs l ++ [.agg [.int .i64 a, .int .i64 b]] = prs (l ++ [⟨a, b⟩]) := by simp [prs, prD]
theorem prs_app (l m : List Pr) : prs l ++ prs m = prs (l ++ m) := by simp [prs]
theorem flat_prs (l : List Pr) : (prs l).all D.flatE = true := by simp [prs, prD, D.flatE, D.flat0]
theorem prs_at {l : List Pr} {j : Int} (h0 : 0 ≤ j) (h : j < l.length) : (prs l)[j.toNat]? = some (.agg [.int .i64 (gt l j).a, .int .i64 (gt l j).b]) := by
  unfold prs
  rw [List.getElem?_map, get_gt h0 h]; rfl
theorem prs_atn {l : List Pr} {i : Nat} (h : i < l.length) : (prs l)[i]? = some (.agg [.int .i64 (gt l i).a, .int .i64 (gt l i).b]) := by
  have := prs_at (l := l) (j := i) (by omega) (by omega)
  simpa using this
theorem prs_set {l : List Pr} {i : Nat} {a b : Int} : (prs l).set i (.agg [.int .i64 a, .int .i64 b]) = prs (l.set i ⟨a, b⟩) := by simp [prs, List.map_set, prD]
theorem prs_take {l : List Pr} {n : Nat} : (prs l).take n = prs (l.take n) := by simp [prs, List.map_take]
theorem prs_drop {l : List Pr} {n : Nat} : (prs l).drop n = prs (l.drop n) := by simp [prs, List.map_drop]
attribute [go_sem] prs_length prs_snoc prs_app flat_prs prs_at prs_set prs_take prs_drop
attribute [go_sem low] prs_atn
def g0 : G := ⟨[], []⟩
def m0 : Mo := ⟨[], []⟩
/-- The numbers below `n` that have a property. -/
def sel (p : Nat → Bool) (n : Nat) : List Int := ((List.range n).filter p).map fun i : Nat => (i : Int)
theorem sel_zero (p : Nat → Bool) : sel p 0 = [] := rfl
theorem sel_succ (p : Nat → Bool) (n : Nat) : sel p (n + 1) = if p n = true then sel p n ++ [(n : Int)] else sel p n := by
  simp only [sel, List.range_succ, List.filter_append, List.filter_cons, List.filter_nil, List.map_append]
  split <;> simp
theorem sel_len (p : Nat → Bool) (n : Nat) : (sel p n).length ≤ n := by
  simp only [sel, List.length_map]
  exact Nat.le_trans (List.length_filter_le _ _) (by simp)
def distinct (l : List Int) : Bool := decide l.Nodup
def injM (a b : G) (m : Mo) : Bool := decide (validM a b m = 0) && (distinct m.n && distinct m.e)
section
variable (P : Program) (F : String → Nat)
end
section
variable {P : Program} {F : String → Nat} {α : Type}
theorem validM_spec {a b : G} {m : Mo} (h : validM a b m = 0) : validG a = 0 ∧ validG b = 0 ∧ m.n.length = a.n.length ∧ m.e.length = a.e.length ∧ nodeE b.n m.n a.n = 0 ∧ edgeE b.e m.n m.e a.e = 0 := by
  unfold validM at h
  split at h
  · rename_i h1; exact absurd h h1
  · rename_i h1
    split at h
    · rename_i h2; exact absurd h h2
    · rename_i h2
      split at h
      · cases h
      · rename_i h3
        split at h
        · rename_i h4; exact absurd h h4
        · rename_i h4
          exact ⟨by simpa using h1, by simpa using h2, by omega, by omega, by simpa using h4, h⟩
end
end Go.Am
namespace Go.Am
open Go
set_option linter.unusedVariables false
set_option linter.unusedSimpArgs false
/- slices.Compact.I -/
def c_slices_Compact_I_r0 (F : String → Nat) : List LI := [⟨some 2, .mov (.k (.nl 1)), none⟩]
def c_slices_Compact_I_r1 (F : String → Nat) : List LI := [⟨some 6, .mov (.t 0), none⟩,
  ⟨some 7, .len (.t 6), none⟩,
  ⟨some 8, .bin .lss (.t 7) (.k (.int .i64 (2))), none⟩]
def c_slices_Compact_I_r2 (F : String → Nat) : List LI := [⟨some 9, .mov (.t 0), none⟩,
  ⟨some 2, .mov (.t 9), none⟩]
def c_slices_Compact_I_r3 (F : String → Nat) : List LI := [⟨some 3, .mov (.k (.int .i64 (1))), none⟩]
def c_slices_Compact_I_r4 (F : String → Nat) : List LI := [⟨some 10, .mov (.t 3), none⟩,
  ⟨some 11, .mov (.t 0), none⟩,
  ⟨some 12, .len (.t 11), none⟩,
  ⟨some 13, .bin .lss (.t 10) (.t 12), none⟩]
def c_slices_Compact_I_r5 (F : String → Nat) : List LI := [⟨some 16, .mov (.t 0), none⟩,
  ⟨some 17, .mov (.t 3), none⟩,
  ⟨some 18, .iad 1 (.t 16) (.t 17), none⟩,
  ⟨some 19, .load false 1 (.t 18), none⟩,
  ⟨some 20, .mov (.t 0), none⟩,
  ⟨some 21, .mov (.t 3), none⟩,
  ⟨some 22, .bin .sub (.t 21) (.k (.int .i64 (1))), none⟩,
  ⟨some 23, .iad 1 (.t 20) (.t 22), none⟩,
  ⟨some 24, .load false 1 (.t 23), none⟩,
  ⟨some 25, .bin .eql (.t 19) (.t 24), none⟩]
def c_slices_Compact_I_r6 (F : String → Nat) : List LI := [⟨some 26, .mov (.t 0), none⟩,
  ⟨some 27, .mov (.t 3), none⟩,
  ⟨some 28, .slc 1 (.t 26) (some (.t 27)) none, none⟩,
  ⟨some 4, .mov (.t 28), none⟩]
def c_slices_Compact_I_r7 (F : String → Nat) : List LI := [⟨some 5, .mov (.k (.int .i64 (1))), none⟩]
def c_slices_Compact_I_r8 (F : String → Nat) : List LI := [⟨some 29, .mov (.t 5), none⟩,
  ⟨some 30, .mov (.t 4), none⟩,
  ⟨some 31, .len (.t 30), none⟩,
  ⟨some 32, .bin .lss (.t 29) (.t 31), none⟩]
def c_slices_Compact_I_r9 (F : String → Nat) : List LI := [⟨some 35, .mov (.t 4), none⟩,
  ⟨some 36, .mov (.t 5), none⟩,
  ⟨some 37, .iad 1 (.t 35) (.t 36), none⟩,
  ⟨some 38, .load false 1 (.t 37), none⟩,
  ⟨some 39, .mov (.t 4), none⟩,
  ⟨some 40, .mov (.t 5), none⟩,
  ⟨some 41, .bin .sub (.t 40) (.k (.int .i64 (1))), none⟩,
  ⟨some 42, .iad 1 (.t 39) (.t 41), none⟩,
  ⟨some 43, .load false 1 (.t 42), none⟩,
  ⟨some 44, .bin .neq (.t 38) (.t 43), none⟩]
def c_slices_Compact_I_r10 (F : String → Nat) : List LI := [⟨some 45, .mov (.t 0), none⟩,
  ⟨some 46, .mov (.t 3), none⟩,
  ⟨some 47, .mov (.t 4), none⟩,
  ⟨some 48, .mov (.t 5), none⟩,
  ⟨some 49, .iad 1 (.t 47) (.t 48), none⟩,
  ⟨some 50, .load false 1 (.t 49), none⟩,
  ⟨some 51, .iad 1 (.t 45) (.t 46), none⟩,
  ⟨none, .store 1 (.t 51) (.t 50), none⟩]
def c_slices_Compact_I_r11 (F : String → Nat) : List LI := [⟨some 52, .mov (.t 3), none⟩,
  ⟨some 53, .bin .add (.t 52) (.k (.int .i64 (1))), none⟩,
  ⟨some 3, .mov (.t 53), none⟩]
def c_slices_Compact_I_r12 (F : String → Nat) : List LI := [⟨some 33, .mov (.t 5), none⟩,
  ⟨some 34, .bin .add (.t 33) (.k (.int .i64 (1))), none⟩,
  ⟨some 5, .mov (.t 34), none⟩]
def c_slices_Compact_I_b13 (F : String → Nat) : LC := (.seq (.seq (.reg (c_slices_Compact_I_r8 F) [0, 3, 4, 5, 32]) (.cond (.t 32) .skip (.exit 2))) (.seq (.block 3 (.seq (.dreg [] (c_slices_Compact_I_r9 F) [0, 3, 4, 5, 44]) (.cond (.t 44) (.seq (.reg (c_slices_Compact_I_r10 F) [0, 3, 4, 5]) (.reg (c_slices_Compact_I_r11 F) [0, 3, 4, 5])) .skip))) (.reg (c_slices_Compact_I_r12 F) [0, 3, 4, 5])))
def c_slices_Compact_I_r14 (F : String → Nat) : List LI := [⟨some 54, .mov (.t 0), none⟩,
  ⟨some 55, .mov (.t 3), none⟩,
  ⟨some 56, .slc 1 (.t 54) (some (.t 55)) none, none⟩,
  ⟨none, .clr 1 (.t 56), none⟩]
def c_slices_Compact_I_r15 (F : String → Nat) : List LI := [⟨some 57, .mov (.t 0), none⟩,
  ⟨some 58, .mov (.t 3), none⟩,
  ⟨some 59, .slc 1 (.t 57) none (some (.t 58)), none⟩,
  ⟨some 2, .mov (.t 59), none⟩]
def c_slices_Compact_I_r16 (F : String → Nat) : List LI := [⟨some 14, .mov (.t 3), none⟩,
  ⟨some 15, .bin .add (.t 14) (.k (.int .i64 (1))), none⟩,
  ⟨some 3, .mov (.t 15), none⟩]
def c_slices_Compact_I_b17 (F : String → Nat) : LC := (.seq (.seq (.reg (c_slices_Compact_I_r4 F) [0, 3, 13]) (.cond (.t 13) .skip (.exit 0))) (.seq (.block 1 (.seq (.dreg [] (c_slices_Compact_I_r5 F) [0, 3, 25]) (.cond (.t 25) (.seq (.reg (c_slices_Compact_I_r6 F) [0, 3, 4]) (.seq (.seq (.reg (c_slices_Compact_I_r7 F) [0, 3, 4, 5]) (.block 2 (.loop [0, 3, 4, 5] (c_slices_Compact_I_b13 F)))) (.seq (.reg (c_slices_Compact_I_r14 F) [0, 3]) (.seq (.reg (c_slices_Compact_I_r15 F) [2]) .ret)))) .skip))) (.reg (c_slices_Compact_I_r16 F) [0, 3])))
def c_slices_Compact_I_r18 (F : String → Nat) : List LI := [⟨some 60, .mov (.t 0), none⟩,
  ⟨some 2, .mov (.t 60), none⟩]
def c_slices_Compact_I (F : String → Nat) : LC := (.seq (.reg (c_slices_Compact_I_r0 F) [0]) (.seq (.seq (.reg (c_slices_Compact_I_r1 F) [0, 8]) (.cond (.t 8) (.seq (.reg (c_slices_Compact_I_r2 F) [2]) .ret) .skip)) (.seq (.seq (.reg (c_slices_Compact_I_r3 F) [0, 3]) (.block 0 (.loop [0, 3] (c_slices_Compact_I_b17 F)))) (.seq (.reg (c_slices_Compact_I_r18 F) [2]) .ret))))
def h_slices_Compact_I : Hints := ⟨[], fun _ => [], tab [(0, [0]), (1, [0, 8]), (2, [2]), (3, [0, 3]), (4, [0, 3, 13]), (5, [0, 3]), (6, [0, 3, 25]), (7, [0, 3, 4]), (8, [0, 3, 4, 5]), (9, [0, 3, 4, 5, 32]), (10, [0, 3, 4, 5]), (11, [0, 3, 4, 5, 44]), (12, [0, 3, 4, 5]), (13, [0, 3, 4, 5]), (14, [0, 3]), (15, [2]), (16, [2])], tab [(4, [0, 3]), (9, [0, 3, 4, 5])]⟩

attribute [go_sem] c_slices_Compact_I_r0 c_slices_Compact_I_r1 c_slices_Compact_I_r2 c_slices_Compact_I_r3 c_slices_Compact_I_r4 c_slices_Compact_I_r5 c_slices_Compact_I_r6 c_slices_Compact_I_r7 c_slices_Compact_I_r8 c_slices_Compact_I_r9 c_slices_Compact_I_r10 c_slices_Compact_I_r11 c_slices_Compact_I_r12 c_slices_Compact_I_r14 c_slices_Compact_I_r15 c_slices_Compact_I_r16 c_slices_Compact_I_r18 c_slices_Compact_I
/-- Is an element kept? -/
def kept (l : List Int) (i : Nat) : Bool := decide (i = 0) || decide (gt l i ≠ gt l ((i : Int) - 1))
/-- What is kept of the first `n`. -/
def kp (l : List Int) (n : Nat) : List Int := ((List.range n).filter (kept l)).map fun i : Nat => gt l i
def cpt (l : List Int) : List Int := kp l l.length
def imgs (l : List Int) : List Int := cpt (srt l)
section
variable (P : Program) (F : String → Nat)
def K_slices_Compact_I : Prop := ∀ l : List Int, l.length ≤ maxL → FC P (F "slices.Compact.I") [.arr 1 (ints l)] (.arr 1 (ints (cpt l))) []
end
section
variable {P : Program} {F : String → Nat} {α : Type}
theorem kp_succ (l : List Int) (n : Nat) : kp l (n + 1) = if kept l n = true then kp l n ++ [gt l n] else kp l n := by
  simp only [kp, List.range_succ, List.filter_append, List.filter_cons, List.filter_nil, List.map_append]
  split <;> simp
theorem kp_len (l : List Int) (n : Nat) : (kp l n).length ≤ n := by
  simp only [kp, List.length_map]
  exact Nat.le_trans (List.length_filter_le _ _) (by simp)
theorem w_slices_Compact_I (l : List Int) (hl : l.length ≤ maxL) : W P (c_slices_Compact_I F) (Done [.t 2] [] (.arr 1 (ints (cpt l))) []) (init [.arr 1 (ints l)]) := by
  refine W_of ?_
  unfold maxL at hl
  simp (config := { maxSteps := 1000000 }) (disch := first | omega | (simp only [go_sem]; omega)) only [go_sem, ↓reduceIte]
  refine bran_dec (fun c => ?_) (fun c => ?_)
  · have : cpt l = l := by
      match l, c with
      | [], _ => rfl
      | [x], _ => simp [cpt, kp, kept, List.range_succ, gt]
      | x :: y :: l, c => simp at c; omega
    simp (config := { maxSteps := 1000000 }) (disch := first | omega | (simp only [go_sem]; omega)) only [go_sem, ↓reduceIte]
    rw [this]
  · simp (config := { maxSteps := 1000000 }) (disch := first | omega | (simp only [go_sem]; omega)) only [go_sem, ↓reduceIte]
    refine W_loop (fun k : Nat => ⟨[(0, .sl 0 0 l.length), (3, .int .i64 k)], [(0, .arr 1 (ints l))], 1⟩) (fun k => 1 ≤ k ∧ k ≤ l.length ∧ kp l k = l.take k) (fun k => l.length - k) 1 ?_ ?_ ?_
    · simp (config := { maxSteps := 1000000 }) (disch := first | omega | (simp only [go_sem]; omega)) only [go_sem, ↓reduceIte]
      rfl
    · refine ⟨by omega, by omega, ?_⟩
      rw [kp_succ, if_pos (by simp [kept]), take_gt (by omega)]
      rfl
    · rintro k ⟨h1, h2, h3⟩
      have hs := kp_succ l k
      simp (config := { maxSteps := 1000000 }) (disch := first | omega | (simp only [go_sem]; omega)) only [go_sem, ↓reduceIte, c_slices_Compact_I_b17]
      refine bran_dec (fun d => ?_) (fun d => ?_)
      · simp (config := { maxSteps := 1000000 }) (disch := first | omega | (simp only [go_sem]; omega)) only [go_sem, ↓reduceIte]
        refine bran_dec (fun e => ?_) (fun e => ?_)
        · rw [if_neg (by simp [kept, e]; omega)] at hs
          simp (config := { maxSteps := 1000000 }) (disch := first | omega | (simp only [go_sem]; omega)) only [go_sem, ↓reduceIte]
          refine W_loop (fun s : Nat × Nat × List Int => ⟨[(0, .sl 0 0 l.length), (3, .int .i64 s.2.1), (4, .sl 0 k (l.length - k)), (5, .int .i64 s.1)], [(0, .arr 1 (ints s.2.2))], 1⟩)
            (fun s => 1 ≤ s.1 ∧ k + s.1 ≤ l.length ∧ s.2.1 + 1 ≤ k + s.1 ∧ s.2.2.length = l.length ∧ s.2.2.take s.2.1 = kp l (k + s.1) ∧ s.2.2.drop (k + s.1 - 1) = l.drop (k + s.1 - 1)) (fun s => l.length - s.1) (1, k, l) ?_ ?_ ?_
          · simp (config := { maxSteps := 1000000 }) (disch := first | omega | (simp only [go_sem]; omega)) only [go_sem, ↓reduceIte]
            rfl
          · exact ⟨by simp, by simp only; omega, by simp, rfl, by simp only; rw [hs, h3], rfl⟩
          · rintro ⟨j, i, xs⟩ ⟨g1, g2, g3, g4, g5, g6⟩
            simp only at g1 g2 g3 g4 g5 g6
            have hs2 := kp_succ l (k + j)
            have gat : ∀ m : Nat, k + j - 1 ≤ m → m < l.length → gt xs m = gt l m := fun m hm1 hm2 => by
              have := congrArg (fun l : List Int => l[m - (k + j - 1)]?) g6
              simp only [List.getElem?_drop] at this
              rw [show k + j - 1 + (m - (k + j - 1)) = m by omega, List.getElem?_eq_getElem (by omega), List.getElem?_eq_getElem (by omega)] at this
              rw [gt_nat (by omega), gt_nat (by omega)]
              simpa using this
            simp (config := { maxSteps := 1000000 }) (disch := first | omega | (simp only [go_sem]; omega)) only [go_sem, ↓reduceIte, c_slices_Compact_I_b13, g4]
            refine bran_dec (fun d => ?_) (fun d => ?_)
            · have e1 := gat (k + j) (by omega) (by omega)
              have e2 : gt xs ((k + ((j : Int) - 1).toNat : Nat) : Int) = gt l (((k + j : Nat) : Int) - 1) := by
                rw [show k + ((j : Int) - 1).toNat = k + j - 1 by omega, gat (k + j - 1) (by omega) (by omega)]
                congr 1
                omega
              have hd : xs.drop (k + j) = l.drop (k + j) := by
                have := congrArg (fun l : List Int => l.drop 1) g6
                simp only [List.drop_drop] at this
                rw [show k + j - 1 + 1 = k + j by omega] at this
                exact this
              simp (config := { maxSteps := 1000000 }) (disch := first | omega | (simp only [go_sem]; omega)) only [go_sem, ↓reduceIte, g4, e1, e2]
              refine bran_ndec (fun f => ?_) (fun f => ?_)
              · rw [if_pos (by unfold kept; rw [Bool.or_eq_true]; exact .inr (decide_eq_true f))] at hs2
                simp (config := { maxSteps := 1000000 }) (disch := first | omega | (simp only [go_sem]; omega)) only [go_sem, ↓reduceIte, g4, e1]
                refine ⟨(j + 1, i + 1, xs.set i (gt l ((k + j : Nat) : Int))), by simp, ⟨by simp only; omega, by simp only; omega, by simp only; omega, by simp [g4], ?_, ?_⟩, by simp only; omega⟩
                · simp only
                  rw [← Nat.add_assoc, hs2, ← g5, List.take_succ_eq_append_getElem (by simp; omega), List.take_set_of_le (Nat.le_refl _)]
                  simp
                · simp only
                  rw [show k + (j + 1) - 1 = k + j by omega, List.drop_set_of_lt (by omega), hd]
              · rw [if_neg (by unfold kept; simp only [Bool.or_eq_true, decide_eq_true_eq, not_or, ne_eq, Decidable.not_not]; exact ⟨by omega, f⟩)] at hs2
                simp (config := { maxSteps := 1000000 }) (disch := first | omega | (simp only [go_sem]; omega)) only [go_sem, ↓reduceIte, g4]
                refine ⟨(j + 1, i, xs), by simp, ⟨by simp only; omega, by simp only; omega, by simp only; omega, g4, ?_, ?_⟩, by simp only; omega⟩
                · simp only
                  rw [← Nat.add_assoc, hs2, ← g5]
                · simp only
                  rw [show k + (j + 1) - 1 = k + j by omega, hd]
            · have hi : (xs.take i).length = i := by simp; omega
              have hkj : k + j = l.length := by omega
              simp (config := { maxSteps := 1000000 }) (disch := first | omega | (simp only [go_sem]; omega)) only [go_sem, ↓reduceIte, g4, hi, Nat.sub_zero]
              rw [g5, hkj, cpt]
        · rw [if_pos (by simp [kept, e])] at hs
          simp (config := { maxSteps := 1000000 }) (disch := first | omega | (simp only [go_sem]; omega)) only [go_sem, ↓reduceIte]
          exact ⟨k + 1, by simp, ⟨by omega, by omega, by rw [hs, h3, take_gt (by omega)]⟩, by omega⟩
      · obtain rfl : k = l.length := by omega
        simp (config := { maxSteps := 1000000 }) (disch := first | omega | (simp only [go_sem]; omega)) only [go_sem, ↓reduceIte]
        rw [cpt, h3, List.take_length]
/-! What is kept of a sorted list. -/
theorem kp_sub (l : List Int) : ∀ n, n ≤ l.length → (kp l n).Sublist (l.take n)
  | 0, _ => by simp [kp]
  | n + 1, h => by
    rw [kp_succ, take_gt (by omega)]
    split
    · exact (kp_sub l n (by omega)).append (List.Sublist.refl _)
    · exact (kp_sub l n (by omega)).trans (List.sublist_append_left _ _)
theorem kp_mem (l : List Int) : ∀ n, n ≤ l.length → ∀ x ∈ l.take n, x ∈ kp l n
  | 0, _ => by simp
  | n + 1, h => by
    intro x hx
    rw [take_gt (by omega)] at hx
    rw [kp_succ]
    rcases List.mem_append.1 hx with hx | hx
    · split
      · exact List.mem_append_left _ (kp_mem l n (by omega) x hx)
      · exact kp_mem l n (by omega) x hx
    · simp only [List.mem_singleton] at hx
      subst hx
      split
      · simp
      · rename_i hk
        simp only [kept, Bool.or_eq_true, decide_eq_true_eq, not_or, ne_eq, Decidable.not_not] at hk
        refine kp_mem l n (by omega) _ ?_
        rw [hk.2, show (n : Int) - 1 = ((n - 1 : Nat) : Int) by omega, gt_nat (by omega)]
        exact List.mem_take_iff_getElem.2 ⟨n - 1, by omega, rfl⟩
theorem kp_lt {l : List Int} (hs : l.Pairwise (· ≤ ·)) : ∀ n, n ≤ l.length → (kp l n).Pairwise (· < ·)
  | 0, _ => by simp [kp]
  | n + 1, h => by
    rw [kp_succ]
    split
    · rename_i hk
      rw [List.pairwise_append]
      refine ⟨kp_lt hs n (by omega), by simp, fun x hx y hy => ?_⟩
      simp only [List.mem_singleton] at hy
      subst hy
      obtain ⟨m, hm, rfl⟩ := List.mem_take_iff_getElem.1 ((kp_sub l n (by omega)).subset hx)
      simp only [kept, Bool.or_eq_true, decide_eq_true_eq, ne_eq] at hk
      have hn : n ≠ 0 := by omega
      have hne : gt l n ≠ gt l ((n : Int) - 1) := hk.resolve_left hn
      rw [gt_nat (by omega), show (n : Int) - 1 = ((n - 1 : Nat) : Int) by omega, gt_nat (by omega)] at hne
      rw [gt_nat (by omega)]
      have h1 : l[n - 1] ≤ l[n] := List.pairwise_iff_getElem.1 hs (n - 1) n (by omega) (by omega) (by omega)
      have h2 : l[m] ≤ l[n - 1] := by
        by_cases he : m = n - 1
        · subst he; exact Int.le_refl _
        · exact List.pairwise_iff_getElem.1 hs m (n - 1) (by omega) (by omega) (by omega)
      omega
    · exact kp_lt hs n (by omega)
theorem imgs_mem {l : List Int} {x : Int} : x ∈ imgs l ↔ x ∈ l := by
  unfold imgs cpt
  constructor
  · intro h
    have := (kp_sub (srt l) _ (Nat.le_refl _)).subset h
    rw [List.take_length] at this
    exact (srt_perm l).mem_iff.1 this
  · intro h
    exact kp_mem (srt l) _ (Nat.le_refl _) x (by rw [List.take_length]; exact (srt_perm l).mem_iff.2 h)
theorem imgs_lt (l : List Int) : (imgs l).Pairwise (· < ·) := kp_lt (srt_sorted l) _ (Nat.le_refl _)
theorem imgs_len (l : List Int) : (imgs l).length ≤ l.length := by
  rw [← srt_len l]; exact kp_len _ _
end
end Go.Am
namespace Go.Am
open Go
set_option linter.unusedVariables false
set_option linter.unusedSimpArgs false
section
variable {P : Program} {F : String → Nat} {α : Type}
theorem nodeE_all {bn : List Int} : ∀ {ms as : List Int}, nodeE bn ms as = 0 → ms.length = as.length → ∀ i : Nat, i < ms.length → (0 ≤ gt ms i ∧ gt ms i < bn.length) ∧ gt bn (gt ms i) = gt as i
  | [], _, _, _, i, hi => by simp at hi
  | k :: ms, [], _, hl, _, _ => by simp at hl
  | k :: ms, t :: as, h, hl, i, hi => by
    rw [nodeE] at h
    split at h
    · rename_i h1
      split at h
      · rename_i h2
        cases i with
        | zero => exact ⟨h1, h2⟩
        | succ i =>
          have := nodeE_all h (by simpa using hl) i (by simpa using hi)
          have e1 : gt (k :: ms) ((i + 1 : Nat) : Int) = gt ms i := by simp [gt]
          have e2 : gt (t :: as) ((i + 1 : Nat) : Int) = gt as i := by simp [gt]
          rw [e1, e2]; exact this
      · simp at h
    · simp at h
theorem edgeE_all {be : List E} {mn : List Int} : ∀ {ms : List Int} {as : List E}, edgeE be mn ms as = 0 → ms.length = as.length → ∀ i : Nat, i < ms.length →
    (0 ≤ gt ms i ∧ gt ms i < be.length) ∧ (gt as i).t = (gt be (gt ms i)).t ∧ gt mn (gt as i).f = (gt be (gt ms i)).f ∧ gt mn (gt as i).o = (gt be (gt ms i)).o
  | [], _, _, _, i, hi => by simp at hi
  | k :: ms, [], _, hl, _, _ => by simp at hl
  | k :: ms, x :: as, h, hl, i, hi => by
    rw [edgeE] at h
    split at h
    · rename_i h1
      split at h
      · rename_i h2
        split at h
        · rename_i h3
          cases i with
          | zero => exact ⟨h1, h2, h3⟩
          | succ i =>
            have := edgeE_all h (by simpa using hl) i (by simpa using hi)
            have e1 : gt (k :: ms) ((i + 1 : Nat) : Int) = gt ms i := by simp [gt]
            have e2 : gt (x :: as) ((i + 1 : Nat) : Int) = gt as i := by simp [gt]
            rw [e1, e2]; exact this
        · simp at h
      · simp at h
    · simp at h
theorem mem_gt {α : Type} [Inhabited α] {l : List α} {x : α} (h : x ∈ l) : ∃ i : Nat, i < l.length ∧ gt l i = x := by
  obtain ⟨i, hi, rfl⟩ := List.getElem_of_mem h
  exact ⟨i, hi, gt_nat hi⟩
theorem validM_bd {a b : G} {m : Mo} (h : validM a b m = 0) : (∀ x ∈ m.n, 0 ≤ x ∧ x < b.n.length) ∧ ∀ x ∈ m.e, 0 ≤ x ∧ x < b.e.length := by
  obtain ⟨_, _, h3, h4, h5, h6⟩ := validM_spec h
  refine ⟨fun x hx => ?_, fun x hx => ?_⟩
  · obtain ⟨i, hi, rfl⟩ := mem_gt hx
    exact (nodeE_all h5 h3 i hi).1
  · obtain ⟨i, hi, rfl⟩ := mem_gt hx
    exact (edgeE_all h6 h4 i hi).1
end
end Go.Am
namespace Go.Am
open Go
set_option linter.unusedVariables false
set_option linter.unusedSimpArgs false
section
variable {α : Type}
theorem list_ext_gt [Inhabited α] {a b : List α} (hl : a.length = b.length) (h : ∀ i : Nat, i < a.length → gt a i = gt b i) : a = b := by
  refine List.ext_getElem hl fun i h1 h2 => ?_
  have := h i h1
  rwa [gt_nat h1, gt_nat h2] at this
theorem thr_gt {l b : List Int} {i : Nat} (h : i < l.length) : gt (thr l b) i = gt b (gt l i) := by
  rw [gt_nat (by rw [thr_len]; exact h)]
  simp only [thr, List.getElem_map]
  rw [gt_nat h]
theorem gt_cons {α : Type} [Inhabited α] (a : α) (l : List α) (i : Nat) : gt (a :: l) ((i + 1 : Nat) : Int) = gt l i := by simp [gt]
theorem gt_cons0 {α : Type} [Inhabited α] (a : α) (l : List α) : gt (a :: l) ((0 : Nat) : Int) = a := by simp [gt]
theorem nodeE_mk {bn : List Int} : ∀ {ms as : List Int}, ms.length = as.length → (∀ i : Nat, i < ms.length → (0 ≤ gt ms i ∧ gt ms i < bn.length) ∧ gt bn (gt ms i) = gt as i) → nodeE bn ms as = 0
  | [], as, _, _ => rfl
  | k :: ms, [], hl, _ => by simp at hl
  | k :: ms, t :: as, hl, h => by
    have h0 := h 0 (by simp)
    rw [gt_cons0, gt_cons0] at h0
    rw [nodeE, if_pos h0.1, if_pos h0.2]
    exact nodeE_mk (by simpa using hl) fun i hi => by have := h (i + 1) (by simpa using hi); rwa [gt_cons, gt_cons] at this
theorem edgeE_mk {be : List E} {mn : List Int} : ∀ {ms : List Int} {as : List E}, ms.length = as.length → (∀ i : Nat, i < ms.length →
    (0 ≤ gt ms i ∧ gt ms i < be.length) ∧ (gt as i).t = (gt be (gt ms i)).t ∧ gt mn (gt as i).f = (gt be (gt ms i)).f ∧ gt mn (gt as i).o = (gt be (gt ms i)).o) → edgeE be mn ms as = 0
  | [], as, _, _ => by cases as <;> rfl
  | k :: ms, [], hl, _ => by simp at hl
  | k :: ms, x :: as, hl, h => by
    have h0 := h 0 (by simp)
    rw [gt_cons0, gt_cons0] at h0
    rw [edgeE, if_pos h0.1, if_pos h0.2.1, if_pos h0.2.2]
    exact edgeE_mk (by simpa using hl) fun i hi => by have := h (i + 1) (by simpa using hi); rwa [gt_cons, gt_cons] at this
/-- A morphism is right. -/
structure MOk (a b : G) (m : Mo) : Prop where
  va : validG a = 0
  vb : validG b = 0
  ln : m.n.length = a.n.length
  le : m.e.length = a.e.length
  nd : ∀ i : Nat, i < a.n.length → (0 ≤ gt m.n i ∧ gt m.n i < b.n.length) ∧ gt b.n (gt m.n i) = gt a.n i
  ed : ∀ i : Nat, i < a.e.length → (0 ≤ gt m.e i ∧ gt m.e i < b.e.length) ∧ (gt a.e i).t = (gt b.e (gt m.e i)).t ∧ gt m.n (gt a.e i).f = (gt b.e (gt m.e i)).f ∧ gt m.n (gt a.e i).o = (gt b.e (gt m.e i)).o
theorem mok {a b : G} {m : Mo} : validM a b m = 0 ↔ MOk a b m := by
  constructor
  · intro h
    obtain ⟨h1, h2, h3, h4, h5, h6⟩ := validM_spec h
    exact ⟨h1, h2, h3, h4, fun i hi => nodeE_all h5 h3 i (by omega), fun i hi => edgeE_all h6 h4 i (by omega)⟩
  · intro h
    unfold validM
    rw [if_neg (by simp [h.va]), if_neg (by simp [h.vb]), if_neg (by have := h.ln; have := h.le; omega), if_neg (by
      rw [nodeE_mk h.ln fun i hi => h.nd i (by have := h.ln; omega)]; simp)]
    exact edgeE_mk h.le fun i hi => h.ed i (by have := h.le; omega)
/-- A graph is right. -/
theorem valid_mk {g : G} (h1 : g.n.length ≤ 40) (h2 : g.e.length ≤ 80) (h3 : ∀ x, x ∈ g.n → okN x = true) (h4 : ∀ x, x ∈ g.e → fitsE g.n.length x = true) : validG g = 0 := by
  unfold validG
  rw [if_neg (by omega), if_pos]
  simp only [Bool.and_eq_true, List.all_eq_true]
  exact ⟨h3, h4⟩
theorem gt_inj {α : Type} [Inhabited α] {l : List α} (hn : l.Nodup) {i j : Nat} (hi : i < l.length) (hj : j < l.length) (h : gt l i = gt l j) : i = j := by
  rw [gt_nat hi, gt_nat hj] at h
  exact (List.getElem_inj hn).1 h
theorem gt_map {α β : Type} [Inhabited α] [Inhabited β] {l : List α} {f : α → β} {i : Nat} (h : i < l.length) : gt (l.map f) i = f (gt l i) := by
  rw [gt_nat (by simpa using h), gt_nat h]; simp
theorem gtI {α : Type} [Inhabited α] {l : List α} {y : Int} (h : 0 ≤ y ∧ y < l.length) : ∃ i : Nat, i < l.length ∧ y = (i : Int) := ⟨y.toNat, by omega, by omega⟩
theorem edge_fits {g : G} (h : validG g = 0) {i : Int} (hi : 0 ≤ i ∧ i < g.e.length) : (0 ≤ (gt g.e i).t ∧ (gt g.e i).t ≤ 99) ∧ (0 ≤ (gt g.e i).f ∧ (gt g.e i).f < g.n.length) ∧ (0 ≤ (gt g.e i).o ∧ (gt g.e i).o < g.n.length) :=
  fits_spec ((valid_spec h).2.2.2 _ (gt_mem hi.1 hi.2))
theorem nums_gt {n i : Nat} (hi : i < n) : gt (nums 0 n) i = i := by
  unfold nums
  rw [gt_nat (by simp; exact hi)]
  simp
theorem nums_mem {n : Nat} {x : Int} : x ∈ nums 0 n ↔ 0 ≤ x ∧ x < n := by
  unfold nums
  simp only [List.mem_map, List.mem_range]
  constructor
  · rintro ⟨k, hk, rfl⟩; omega
  · rintro ⟨h1, h2⟩; exact ⟨x.toNat, by omega, by omega⟩
theorem nums_nodup (n : Nat) : (nums 0 n).Nodup := by
  unfold nums List.Nodup
  rw [List.pairwise_map]
  exact (List.nodup_range (n := n)).imp fun h => by omega
def idM (g : G) : Mo := ⟨nums 0 g.n.length, nums 0 g.e.length⟩
theorem idM_ok {g : G} (h : validG g = 0) : MOk g g (idM g) := by
  refine ⟨h, h, by simp [idM, nums_len], by simp [idM, nums_len], fun i hi => ?_, fun i hi => ?_⟩
  · simp only [idM]
    rw [nums_gt hi]
    exact ⟨by omega, rfl⟩
  · simp only [idM]
    rw [nums_gt hi]
    obtain ⟨_, h1, h2⟩ := edge_fits h (i := i) (by omega)
    obtain ⟨j, hj, hj2⟩ := gtI h1
    obtain ⟨k, hk, hk2⟩ := gtI h2
    refine ⟨by omega, rfl, ?_, ?_⟩
    · rw [hj2, nums_gt hj]
    · rw [hk2, nums_gt hk]
end
end Go.Am
namespace Go.Am
open Go
set_option linter.unusedVariables false
set_option linter.unusedSimpArgs false
def bls (l : List Bool) : List D := l.map .bool
theorem bls_length (l : List Bool) : (bls l).length = l.length := by simp [bls]
theorem bls_at {l : List Bool} {j : Int} (h0 : 0 ≤ j) (h : j < l.length) : (bls l)[j.toNat]? = some (.bool (gt l j)) := by
  unfold bls
  rw [List.getElem?_map, get_gt h0 h]; rfl
theorem bls_atn {l : List Bool} {i : Nat} (h : i < l.length) : (bls l)[i]? = some (.bool (gt l i)) := by
  have := bls_at (l := l) (j := i) (by omega) (by omega)
  simpa using this
theorem bls_set {l : List Bool} {i : Nat} {b : Bool} : (bls l).set i (.bool b) = bls (l.set i b) := by simp [bls, List.map_set]
theorem bls_rep {n : Nat} {b : Bool} : List.replicate n (.bool b) = bls (List.replicate n b) := by simp [bls]
theorem bls_app (l m : List Bool) : bls l ++ bls m = bls (l ++ m) := by simp [bls]
theorem flat_bls (l : List Bool) : (bls l).all D.flatE = true := by simp [bls, D.flatE, D.flat0]
attribute [go_sem] bls_length bls_at bls_set bls_rep bls_app flat_bls
attribute [go_sem low] bls_atn
/-- An ascending list of numbers below a number. -/
structure AscL (l : List Int) (n : Nat) : Prop where
  p : l.Pairwise (· < ·)
  b : ∀ x ∈ l, 0 ≤ x ∧ x < n
def dangP (g : G) (p : Mo) : Bool := p.e.any fun x => !(decide ((gt g.e x).f ∈ p.n) && decide ((gt g.e x).o ∈ p.n))
def rightP (g : G) (p : Mo) : Int := if ascG g.n.length none p.n ≠ 0 then ascG g.n.length none p.n else if ascG g.e.length none p.e ≠ 0 then ascG g.e.length none p.e else if dangP g p = true then 14 else 0
def validP (g : G) (p : Mo) : Int := if validG g ≠ 0 then validG g else rightP g p
/-- A part that is right. -/
structure PK (g : G) (p : Mo) : Prop where
  v : validG g = 0
  n : AscL p.n g.n.length
  e : AscL p.e g.e.length
  d : ∀ x ∈ p.e, (gt g.e x).f ∈ p.n ∧ (gt g.e x).o ∈ p.n
/-- The least part with some nodes and edges. -/
def endsL (g : G) (es : List Int) : List Int := es.flatMap fun x => [(gt g.e x).f, (gt g.e x).o]
def closeP (g : G) (ns es : List Int) : Mo := ⟨sel (fun k : Nat => decide ((k : Int) ∈ ns) || decide ((k : Int) ∈ endsL g es)) g.n.length, sel (fun k : Nat => decide ((k : Int) ∈ es)) g.e.length⟩
section
theorem sel_mem {p : Nat → Bool} {n : Nat} {x : Int} : x ∈ sel p n ↔ ∃ k : Nat, k < n ∧ p k = true ∧ x = k := by
  unfold sel
  simp only [List.mem_map, List.mem_filter, List.mem_range]
  exact ⟨fun ⟨k, ⟨h1, h2⟩, h3⟩ => ⟨k, h1, h2, h3.symm⟩, fun ⟨k, h1, h2, h3⟩ => ⟨k, ⟨h1, h2⟩, h3.symm⟩⟩
theorem sel_memN {p : Nat → Bool} {n k : Nat} : (k : Int) ∈ sel p n ↔ k < n ∧ p k = true := by
  rw [sel_mem]
  exact ⟨fun ⟨j, h1, h2, h3⟩ => by obtain rfl : k = j := by omega
                                   exact ⟨h1, h2⟩, fun ⟨h1, h2⟩ => ⟨k, h1, h2, rfl⟩⟩
theorem sel_pair (p : Nat → Bool) (n : Nat) : (sel p n).Pairwise (· < ·) := by
  unfold sel
  rw [List.pairwise_map]
  exact (List.pairwise_lt_range.sublist List.filter_sublist).imp fun h => by omega
theorem asc_ext : ∀ {a b : List Int}, a.Pairwise (· < ·) → b.Pairwise (· < ·) → (∀ x, x ∈ a ↔ x ∈ b) → a = b
  | [], [], _, _, _ => rfl
  | [], y :: b, _, _, h => absurd ((h y).2 (by simp)) (by simp)
  | x :: a, [], _, _, h => absurd ((h x).1 (by simp)) (by simp)
  | x :: a, y :: b, ha, hb, h => by
    rw [List.pairwise_cons] at ha hb
    have e : x = y := by
      have h1 := (h x).1 (by simp)
      have h2 := (h y).2 (by simp)
      simp only [List.mem_cons] at h1 h2
      rcases h1 with h1 | h1
      · exact h1
      rcases h2 with h2 | h2
      · exact h2.symm
      have := hb.1 x h1
      have := ha.1 y h2
      omega
    subst e
    rw [asc_ext ha.2 hb.2 fun z => ?_]
    have hz := h z
    simp only [List.mem_cons] at hz
    constructor
    · intro m
      rcases hz.1 (.inr m) with r | r
      · have := ha.1 z m; omega
      · exact r
    · intro m
      rcases hz.2 (.inr m) with r | r
      · have := hb.1 z m; omega
      · exact r
theorem asc_sub : ∀ {b a : List Int}, a.Pairwise (· < ·) → b.Pairwise (· < ·) → (∀ x ∈ a, x ∈ b) → a.length ≤ b.length ∧ (a.length = b.length → a = b)
  | [], a, _, _, h => by
    cases a with
    | nil => simp
    | cons x a => exact absurd (h x (by simp)) (by simp)
  | y :: b, [], _, _, _ => by simp
  | y :: b, x :: a, ha, hb, h => by
    have ha' := ha
    rw [List.pairwise_cons] at ha hb
    by_cases e : x = y
    · subst e
      have ih := asc_sub (b := b) (a := a) ha.2 hb.2 fun z hz => by
        have := h z (by simp [hz])
        simp only [List.mem_cons] at this
        rcases this with r | r
        · have := ha.1 z hz; omega
        · exact r
      simp only [List.length_cons]
      exact ⟨by omega, fun q => by rw [ih.2 (by omega)]⟩
    · have hx : x ∈ b := by
        have := h x (by simp)
        simp only [List.mem_cons] at this
        rcases this with r | r
        · exact absurd r e
        · exact r
      have hyx := hb.1 x hx
      have ih := asc_sub (b := b) (a := x :: a) ha' hb.2 fun z hz => by
        have := h z hz
        simp only [List.mem_cons] at this hz
        rcases this with r | r
        · rcases hz with s | s
          · omega
          · have := ha.1 z s; omega
        · exact r
      simp only [List.length_cons] at ih ⊢
      exact ⟨by omega, fun q => by omega⟩
theorem ascG_iff {n : Nat} : ∀ {l : List Int}, ascG n none l = 0 ↔ AscL l n := fun {l} => by
  constructor
  · intro h
    obtain ⟨h1, _, h3⟩ := asc_gt n l none h
    exact ⟨h3, fun x hx => by have := h1 x hx; omega⟩
  · rintro ⟨h1, h2⟩
    have gen : ∀ (l : List Int) (q : Option Int), l.Pairwise (· < ·) → (∀ x ∈ l, 0 ≤ x ∧ x < n) → (∀ z, q = some z → ∀ x ∈ l, z < x) → ascG n q l = 0 := by
      intro l
      induction l with
      | nil => intro q _ _ _; rfl
      | cons x l ih =>
        intro q hp hb hq
        rw [List.pairwise_cons] at hp
        have hx := hb x (by simp)
        have hle : leO x q = false := by
          cases q with
          | none => rfl
          | some z =>
            have := hq z rfl x (by simp)
            simp only [leO, decide_eq_false_iff_not]
            omega
        have := ih (some x) hp.2 (fun y hy => hb y (by simp [hy])) (fun z hz y hy => by cases hz; exact hp.1 y hy)
        simp only [ascG]
        rw [if_pos (by omega), hle]
        simpa using this
    exact gen l none h1 h2 (fun z hz => by cases hz)
theorem validP_ok {g : G} {p : Mo} : validP g p = 0 ↔ PK g p := by
  unfold validP
  split
  · rename_i h; exact ⟨fun e => absurd e h, fun e => absurd e.v h⟩
  rename_i h1
  unfold rightP
  split
  · rename_i h; exact ⟨fun e => absurd e h, fun e => absurd (ascG_iff.2 e.n) h⟩
  rename_i h2
  split
  · rename_i h; exact ⟨fun e => absurd e h, fun e => absurd (ascG_iff.2 e.e) h⟩
  rename_i h3
  split
  · rename_i h
    refine ⟨fun e => absurd e (by decide), fun e => ?_⟩
    unfold dangP at h
    rw [List.any_eq_true] at h
    obtain ⟨x, hx, hd⟩ := h
    have := e.d x hx
    simp [this] at hd
  · rename_i h
    refine ⟨fun _ => ⟨Decidable.not_not.1 h1, ascG_iff.1 (Decidable.not_not.1 h2), ascG_iff.1 (Decidable.not_not.1 h3), fun x hx => ?_⟩, fun _ => rfl⟩
    unfold dangP at h
    rw [Bool.not_eq_true, List.any_eq_false] at h
    have := h x hx
    simpa using this
theorem asc_len {l : List Int} {n : Nat} (h : AscL l n) : l.length ≤ n := by
  have := (asc_sub (b := nums 0 n) h.p (by
    unfold nums
    rw [List.pairwise_map]
    exact List.pairwise_lt_range.imp fun h => by omega) fun x hx => nums_mem.2 (h.b x hx)).1
  rwa [nums_len] at this
theorem PK.len {g : G} {p : Mo} (h : PK g p) : p.n.length ≤ 40 ∧ p.e.length ≤ 80 := by
  have := valid_spec h.v
  have := asc_len h.n
  have := asc_len h.e
  omega
theorem ends_mem {g : G} {es : List Int} {x : Int} : x ∈ endsL g es ↔ ∃ e ∈ es, (gt g.e e).f = x ∨ (gt g.e e).o = x := by
  unfold endsL
  simp only [List.mem_flatMap, List.mem_cons, List.not_mem_nil, or_false]
  exact ⟨fun ⟨e, h1, h2⟩ => ⟨e, h1, h2.imp Eq.symm Eq.symm⟩, fun ⟨e, h1, h2⟩ => ⟨e, h1, h2.imp Eq.symm Eq.symm⟩⟩
theorem mo_extP {x y : Mo} (h1 : x.n = y.n) (h2 : x.e = y.e) : x = y := by cases x; cases y; simp only at h1 h2; rw [h1, h2]
end
end Go.Am
namespace Go.Am
open Go
set_option linter.unusedVariables false
set_option linter.unusedSimpArgs false
def mergeL (p : List Int) (a b : Int) : List Int := p.map fun k => if k = max (gt p a) (gt p b) then min (gt p a) (gt p b) else k
def keyI (c : List Int) (i : Nat) : Int := (gt c ((i : Int).tmod c.length)).tmod ((i : Int) + 1)
def part (g : G) (c : List Int) : Nat → List Int
  | 0 => nums 0 g.n.length
  | k + 1 => if keyI c (k + 1) < ((k + 1 : Nat) : Int) ∧ gt g.n (keyI c (k + 1)) = gt g.n ((k + 1 : Nat) : Int) then mergeL (part g c k) (keyI c (k + 1)) ((k + 1 : Nat) : Int) else part g c k
def quo (p : List Int) : Nat → List Int × Nat
  | 0 => ([], 0)
  | i + 1 => if gt p i = i then ((quo p i).1 ++ [((quo p i).2 : Int)], (quo p i).2 + 1) else ((quo p i).1 ++ [gt (quo p i).1 (gt p i)], (quo p i).2)
section
theorem gt_appS {α : Type} [Inhabited α] {l : List α} {x : α} {i : Nat} (h : i < l.length) : gt (l ++ [x]) (i : Int) = gt l i := by
  rw [gt_nat (by simp; omega), gt_nat h, List.getElem_append_left h]
theorem gt_lastS {α : Type} [Inhabited α] {l : List α} {x : α} {i : Nat} (h : i = l.length) : gt (l ++ [x]) (i : Int) = x := by
  subst h
  rw [gt_nat (by simp)]; simp
theorem merge_len (p : List Int) (a b : Int) : (mergeL p a b).length = p.length := by simp [mergeL]
theorem gt_setH {l : List Int} {k i : Nat} {v : Int} (hi : i < l.length) : gt (l.set k v) i = if k = i then v else gt l i := by
  rw [gt_nat (by simpa using hi), gt_nat hi, List.getElem_set]
end
end Go.Am
