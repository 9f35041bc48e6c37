/- The functions of this seat, their contracts. Printed by seat.py. -/
import Derived.Shelf.Sort.Plain
import Derived.Shelf.Slices.In.SortNone
import Derived.Test.YtfkkngepnnkloaaRows
import Derived.Test.YtfkkngepnnkloaaSjT
import Derived.KernelRfl
namespace Go.Proofs.Ytfkkngepnnkloaa
open Go Go.Am
attribute [local irreducible] W
set_option linter.unusedVariables false
set_option linter.unusedSimpArgs false
def sF : String → Nat := lkS [("l05.GraphParts", 9), ("l05.awake", 10), ("graph.Remove", 12), ("r05.Same", 16), ("graph.Components", 20), ("slices.Equal.I", 22), ("graph.Valid", 26), ("graph.Union", 31), ("r05.Made", 33), ("slices.Sort.I", 36), ("r05.Numbers", 37), ("l05.example", 38), ("graph.ascending", 39), ("graph.left", 40), ("r05.SameInts", 43), ("graph.within", 44), ("graph.numbers", 45), ("slices.Clone.E", 46), ("slices.ContainsFunc.I", 48), ("graph.Valid.1", 49), ("slices.ContainsFunc.E", 50), ("graph.Valid.2", 51), ("graph.fits", 52), ("slices.Concat.I", 55), ("slices.Contains.I", 59), ("slices.IndexFunc.I", 60), ("slices.IndexFunc.E", 61), ("slices.Grow.I", 62), ("slices.Index.I", 75)]
def sMd : Nat → List Md := lkM [(36, [.mu])]
theorem Try.mx : Try.prog.follows .mixedOrders = true := by kernel_rfl
theorem k_l05_example : K_l05_example Try.prog sF := by
  unfold K_l05_example
  rw [show sF "l05.example" = 38 by kernel_rfl]
  refine FC.of' (rs := [.c 0 true 2]) (H := wMd h_l05_example sMd) (lc := c_l05_example sF) (n := 0) Try.func38 Try.mx ?a ?b ?c ?d ?e ?f
  case f =>
    have hw := w_l05_example (P := Try.prog) (F := sF) 
    assumption
  case a => kernel_rfl
  case b => kernel_rfl
  case c => kernel_rfl
  case d => rfl
  case e => first | rfl | (simp only [List.all_cons, List.all_nil, Bool.and_true]; first | rfl | assumption | exact caps_ok hcs)
theorem k_slices_IndexFunc_I : K_slices_IndexFunc_I Try.prog sF := by
  unfold K_slices_IndexFunc_I
  rw [show sF "slices.IndexFunc.I" = 60 by kernel_rfl]
  intro l hl g cs hcs p hg
  refine FC.of' (rs := [.t 4]) (H := wMd h_slices_IndexFunc_I sMd) (lc := c_slices_IndexFunc_I sF) (n := 2) Try.func60 Try.mx ?a ?b ?c ?d ?e ?f
  case f =>
    have hw := w_slices_IndexFunc_I (P := Try.prog) (F := sF) l hl g cs hcs p hg
    assumption
  case a => kernel_rfl
  case b => kernel_rfl
  case c => kernel_rfl
  case d => rfl
  case e => first | rfl | (simp only [List.all_cons, List.all_nil, Bool.and_true]; first | rfl | assumption | exact caps_ok hcs)
theorem k_slices_ContainsFunc_I : K_slices_ContainsFunc_I Try.prog sF := by
  unfold K_slices_ContainsFunc_I
  rw [show sF "slices.ContainsFunc.I" = 48 by kernel_rfl]
  intro l hl g cs hcs p hg
  refine FC.of' (rs := [.t 4]) (H := wMd h_slices_ContainsFunc_I sMd) (lc := c_slices_ContainsFunc_I sF) (n := 2) Try.func48 Try.mx ?a ?b ?c ?d ?e ?f
  case f =>
    have hw := w_slices_ContainsFunc_I (P := Try.prog) (F := sF) k_slices_IndexFunc_I l hl g cs hcs p hg
    assumption
  case a => kernel_rfl
  case b => kernel_rfl
  case c => kernel_rfl
  case d => rfl
  case e => first | rfl | (simp only [List.all_cons, List.all_nil, Bool.and_true]; first | rfl | assumption | exact caps_ok hcs)
theorem k_slices_IndexFunc_E : K_slices_IndexFunc_E Try.prog sF := by
  unfold K_slices_IndexFunc_E
  rw [show sF "slices.IndexFunc.E" = 61 by kernel_rfl]
  intro l hl g cs hcs p hg
  refine FC.of' (rs := [.t 4]) (H := wMd h_slices_IndexFunc_E sMd) (lc := c_slices_IndexFunc_E sF) (n := 2) Try.func61 Try.mx ?a ?b ?c ?d ?e ?f
  case f =>
    have hw := w_slices_IndexFunc_E (P := Try.prog) (F := sF) l hl g cs hcs p hg
    assumption
  case a => kernel_rfl
  case b => kernel_rfl
  case c => kernel_rfl
  case d => rfl
  case e => first | rfl | (simp only [List.all_cons, List.all_nil, Bool.and_true]; first | rfl | assumption | exact caps_ok hcs)
theorem k_slices_ContainsFunc_E : K_slices_ContainsFunc_E Try.prog sF := by
  unfold K_slices_ContainsFunc_E
  rw [show sF "slices.ContainsFunc.E" = 50 by kernel_rfl]
  intro l hl g cs hcs p hg
  refine FC.of' (rs := [.t 4]) (H := wMd h_slices_ContainsFunc_E sMd) (lc := c_slices_ContainsFunc_E sF) (n := 2) Try.func50 Try.mx ?a ?b ?c ?d ?e ?f
  case f =>
    have hw := w_slices_ContainsFunc_E (P := Try.prog) (F := sF) k_slices_IndexFunc_E l hl g cs hcs p hg
    assumption
  case a => kernel_rfl
  case b => kernel_rfl
  case c => kernel_rfl
  case d => rfl
  case e => first | rfl | (simp only [List.all_cons, List.all_nil, Bool.and_true]; first | rfl | assumption | exact caps_ok hcs)
theorem k_graph_within : K_graph_within Try.prog sF := by
  unfold K_graph_within
  rw [show sF "graph.within" = 44 by kernel_rfl]
  intro n m
  refine FC.of' (rs := [.t 4]) (H := wMd h_graph_within sMd) (lc := c_graph_within sF) (n := 2) Try.func44 Try.mx ?a ?b ?c ?d ?e ?f
  case f =>
    have hw := w_graph_within (P := Try.prog) (F := sF) n m
    assumption
  case a => kernel_rfl
  case b => kernel_rfl
  case c => kernel_rfl
  case d => rfl
  case e => first | rfl | (simp only [List.all_cons, List.all_nil, Bool.and_true]; first | rfl | assumption | exact caps_ok hcs)
theorem k_graph_Valid_1 : K_graph_Valid_1 Try.prog sF := by
  unfold K_graph_Valid_1
  rw [show sF "graph.Valid.1" = 49 by kernel_rfl]
  intro x
  refine FC.of' (rs := [.t 2]) (H := wMd h_graph_Valid_1 sMd) (lc := c_graph_Valid_1 sF) (n := 1) Try.func49 Try.mx ?a ?b ?c ?d ?e ?f
  case f =>
    have hw := w_graph_Valid_1 (P := Try.prog) (F := sF) k_graph_within x
    assumption
  case a => kernel_rfl
  case b => kernel_rfl
  case c => kernel_rfl
  case d => rfl
  case e => first | rfl | (simp only [List.all_cons, List.all_nil, Bool.and_true]; first | rfl | assumption | exact caps_ok hcs)
theorem k_graph_fits : K_graph_fits Try.prog sF := by
  unfold K_graph_fits
  rw [show sF "graph.fits" = 52 by kernel_rfl]
  intro x n hn
  refine FC.of' (rs := [.t 4]) (H := wMd h_graph_fits sMd) (lc := c_graph_fits sF) (n := 2) Try.func52 Try.mx ?a ?b ?c ?d ?e ?f
  case f =>
    have hw := w_graph_fits (P := Try.prog) (F := sF) k_graph_within x n hn
    assumption
  case a => kernel_rfl
  case b => kernel_rfl
  case c => kernel_rfl
  case d => rfl
  case e => first | rfl | (simp only [List.all_cons, List.all_nil, Bool.and_true]; first | rfl | assumption | exact caps_ok hcs)
theorem k_graph_Valid_2 : K_graph_Valid_2 Try.prog sF := by
  unfold K_graph_Valid_2
  rw [show sF "graph.Valid.2" = 51 by kernel_rfl]
  intro x ns es hn
  refine FC.of' (rs := [.t 3]) (H := wMd h_graph_Valid_2 sMd) (lc := c_graph_Valid_2 sF) (n := 2) Try.func51 Try.mx ?a ?b ?c ?d ?e ?f
  case f =>
    have hw := w_graph_Valid_2 (P := Try.prog) (F := sF) k_graph_fits x ns es hn
    assumption
  case a => kernel_rfl
  case b => kernel_rfl
  case c => kernel_rfl
  case d => rfl
  case e => first | rfl | (simp only [List.all_cons, List.all_nil, Bool.and_true]; first | rfl | assumption | exact caps_ok hcs)
theorem k_graph_Valid : K_graph_Valid Try.prog sF := by
  unfold K_graph_Valid
  rw [show sF "graph.Valid" = 26 by kernel_rfl]
  intro g
  refine FC.of' (rs := [.t 2]) (H := wMd h_graph_Valid sMd) (lc := c_graph_Valid sF) (n := 1) Try.func26 Try.mx ?a ?b ?c ?d ?e ?f
  case f =>
    have hw := w_graph_Valid (P := Try.prog) (F := sF) k_slices_ContainsFunc_I k_slices_ContainsFunc_E k_graph_Valid_1 k_graph_Valid_2 g
    assumption
  case a => kernel_rfl
  case b => kernel_rfl
  case c => kernel_rfl
  case d => rfl
  case e => first | rfl | (simp only [List.all_cons, List.all_nil, Bool.and_true]; first | rfl | assumption | exact caps_ok hcs)
theorem k_graph_ascending : K_graph_ascending Try.prog sF := by
  unfold K_graph_ascending
  rw [show sF "graph.ascending" = 39 by kernel_rfl]
  intro l n hl h0 h1
  refine FC.of' (rs := [.t 4]) (H := wMd h_graph_ascending sMd) (lc := c_graph_ascending sF) (n := 2) Try.func39 Try.mx ?a ?b ?c ?d ?e ?f
  case f =>
    have hw := w_graph_ascending (P := Try.prog) (F := sF) k_graph_within l n hl h0 h1
    assumption
  case a => kernel_rfl
  case b => kernel_rfl
  case c => kernel_rfl
  case d => rfl
  case e => first | rfl | (simp only [List.all_cons, List.all_nil, Bool.and_true]; first | rfl | assumption | exact caps_ok hcs)
theorem k_slices_Index_I : K_slices_Index_I Try.prog sF := by
  unfold K_slices_Index_I
  rw [show sF "slices.Index.I" = 75 by kernel_rfl]
  intro l x hl
  refine FC.of' (rs := [.t 4]) (H := wMd h_slices_Index_I sMd) (lc := c_slices_Index_I sF) (n := 2) Try.func75 Try.mx ?a ?b ?c ?d ?e ?f
  case f =>
    have hw := w_slices_Index_I (P := Try.prog) (F := sF) l x hl
    assumption
  case a => kernel_rfl
  case b => kernel_rfl
  case c => kernel_rfl
  case d => rfl
  case e => first | rfl | (simp only [List.all_cons, List.all_nil, Bool.and_true]; first | rfl | assumption | exact caps_ok hcs)
theorem k_slices_Contains_I : K_slices_Contains_I Try.prog sF := by
  unfold K_slices_Contains_I
  rw [show sF "slices.Contains.I" = 59 by kernel_rfl]
  intro l x hl
  refine FC.of' (rs := [.t 4]) (H := wMd h_slices_Contains_I sMd) (lc := c_slices_Contains_I sF) (n := 2) Try.func59 Try.mx ?a ?b ?c ?d ?e ?f
  case f =>
    have hw := w_slices_Contains_I (P := Try.prog) (F := sF) k_slices_Index_I l x hl
    assumption
  case a => kernel_rfl
  case b => kernel_rfl
  case c => kernel_rfl
  case d => rfl
  case e => first | rfl | (simp only [List.all_cons, List.all_nil, Bool.and_true]; first | rfl | assumption | exact caps_ok hcs)
theorem k_graph_left : K_graph_left Try.prog sF := by
  unfold K_graph_left
  rw [show sF "graph.left" = 40 by kernel_rfl]
  intro gs n hl hn
  refine FC.of' (rs := [.t 4]) (H := wMd h_graph_left sMd) (lc := c_graph_left sF) (n := 2) Try.func40 Try.mx ?a ?b ?c ?d ?e ?f
  case f =>
    have hw := w_graph_left (P := Try.prog) (F := sF) k_slices_Contains_I gs n hl hn
    assumption
  case a => kernel_rfl
  case b => kernel_rfl
  case c => kernel_rfl
  case d => rfl
  case e => first | rfl | (simp only [List.all_cons, List.all_nil, Bool.and_true]; first | rfl | assumption | exact caps_ok hcs)
theorem k_graph_Remove : K_graph_Remove Try.prog sF := by
  unfold K_graph_Remove
  rw [show sF "graph.Remove" = 12 by kernel_rfl]
  intro g ns es h1 h2
  refine FC.of' (rs := [.c 6 true 2, .c 7 true 2, .t 8]) (H := wMd h_graph_Remove sMd) (lc := c_graph_Remove sF) (n := 3) Try.func12 Try.mx ?a ?b ?c ?d ?e ?f
  case f =>
    have hw := w_graph_Remove (P := Try.prog) (F := sF) k_graph_Valid k_graph_ascending k_graph_left g ns es h1 h2
    assumption
  case a => kernel_rfl
  case b => kernel_rfl
  case c => kernel_rfl
  case d => rfl
  case e => first | rfl | (simp only [List.all_cons, List.all_nil, Bool.and_true]; first | rfl | assumption | exact caps_ok hcs)
theorem k_graph_numbers : K_graph_numbers Try.prog sF := by
  unfold K_graph_numbers
  rw [show sF "graph.numbers" = 45 by kernel_rfl]
  intro f n h0 h1 h2
  refine FC.of' (rs := [.t 4]) (H := wMd h_graph_numbers sMd) (lc := c_graph_numbers sF) (n := 2) Try.func45 Try.mx ?a ?b ?c ?d ?e ?f
  case f =>
    have hw := w_graph_numbers (P := Try.prog) (F := sF) f n h0 h1 h2
    assumption
  case a => kernel_rfl
  case b => kernel_rfl
  case c => kernel_rfl
  case d => rfl
  case e => first | rfl | (simp only [List.all_cons, List.all_nil, Bool.and_true]; first | rfl | assumption | exact caps_ok hcs)
theorem k_graph_Components : K_graph_Components Try.prog sF := by
  unfold K_graph_Components
  rw [show sF "graph.Components" = 20 by kernel_rfl]
  intro g
  refine FC.of' (rs := [.t 2, .t 3]) (H := wMd h_graph_Components sMd) (lc := c_graph_Components sF) (n := 1) Try.func20 Try.mx ?a ?b ?c ?d ?e ?f
  case f =>
    have hw := w_graph_Components (P := Try.prog) (F := sF) k_graph_Valid k_graph_numbers g
    assumption
  case a => kernel_rfl
  case b => kernel_rfl
  case c => kernel_rfl
  case d => rfl
  case e => first | rfl | (simp only [List.all_cons, List.all_nil, Bool.and_true]; first | rfl | assumption | exact caps_ok hcs)
theorem k_r05_SameInts : K_r05_SameInts Try.prog sF := by
  unfold K_r05_SameInts
  rw [show sF "r05.SameInts" = 43 by kernel_rfl]
  intro a b hl
  refine FC.of' (rs := [.t 4]) (H := wMd h_r05_SameInts sMd) (lc := c_r05_SameInts sF) (n := 2) Try.func43 Try.mx ?a ?b ?c ?d ?e ?f
  case f =>
    have hw := w_r05_SameInts (P := Try.prog) (F := sF) a b hl
    assumption
  case a => kernel_rfl
  case b => kernel_rfl
  case c => kernel_rfl
  case d => rfl
  case e => first | rfl | (simp only [List.all_cons, List.all_nil, Bool.and_true]; first | rfl | assumption | exact caps_ok hcs)
theorem k_r05_Same : K_r05_Same Try.prog sF := by
  unfold K_r05_Same
  rw [show sF "r05.Same" = 16 by kernel_rfl]
  intro a b h1 h2
  refine FC.of' (rs := [.t 4]) (H := wMd h_r05_Same sMd) (lc := c_r05_Same sF) (n := 2) Try.func16 Try.mx ?a ?b ?c ?d ?e ?f
  case f =>
    have hw := w_r05_Same (P := Try.prog) (F := sF) k_r05_SameInts a b h1 h2
    assumption
  case a => kernel_rfl
  case b => kernel_rfl
  case c => kernel_rfl
  case d => rfl
  case e => first | rfl | (simp only [List.all_cons, List.all_nil, Bool.and_true]; first | rfl | assumption | exact caps_ok hcs)
theorem k_slices_Equal_I : K_slices_Equal_I Try.prog sF := by
  unfold K_slices_Equal_I
  rw [show sF "slices.Equal.I" = 22 by kernel_rfl]
  intro a b hl
  refine FC.of' (rs := [.t 4]) (H := wMd h_slices_Equal_I sMd) (lc := c_slices_Equal_I sF) (n := 2) Try.func22 Try.mx ?a ?b ?c ?d ?e ?f
  case f =>
    have hw := w_slices_Equal_I (P := Try.prog) (F := sF) a b hl
    assumption
  case a => kernel_rfl
  case b => kernel_rfl
  case c => kernel_rfl
  case d => rfl
  case e => first | rfl | (simp only [List.all_cons, List.all_nil, Bool.and_true]; first | rfl | assumption | exact caps_ok hcs)
theorem k_l05_awake : K_l05_awake Try.prog sF := by
  unfold K_l05_awake
  rw [show sF "l05.awake" = 10 by kernel_rfl]
  refine FC.of' (rs := [.t 0]) (H := wMd h_l05_awake sMd) (lc := c_l05_awake sF) (n := 0) Try.func10 Try.mx ?a ?b ?c ?d ?e ?f
  case f =>
    have hw := w_l05_awake (P := Try.prog) (F := sF) k_l05_example k_graph_Remove k_graph_Components k_r05_Same k_slices_Equal_I
    assumption
  case a => kernel_rfl
  case b => kernel_rfl
  case c => kernel_rfl
  case d => rfl
  case e => first | rfl | (simp only [List.all_cons, List.all_nil, Bool.and_true]; first | rfl | assumption | exact caps_ok hcs)
theorem k_r05_Made : K_r05_Made Try.prog sF := by
  unfold K_r05_Made
  rw [show sF "r05.Made" = 33 by kernel_rfl]
  intro x hx h1 h2
  refine FC.of' (rs := [.c 2 true 2]) (H := wMd h_r05_Made sMd) (lc := c_r05_Made sF) (n := 1) Try.func33 Try.mx ?a ?b ?c ?d ?e ?f
  case f =>
    have hw := w_r05_Made (P := Try.prog) (F := sF) x hx h1 h2
    assumption
  case a => kernel_rfl
  case b => kernel_rfl
  case c => kernel_rfl
  case d => rfl
  case e => first | rfl | (simp only [List.all_cons, List.all_nil, Bool.and_true]; first | rfl | assumption | exact caps_ok hcs)
theorem k_slices_Grow_I : K_slices_Grow_I Try.prog sF := by
  unfold K_slices_Grow_I
  rw [show sF "slices.Grow.I" = 62 by kernel_rfl]
  intro n hn
  refine FC.of' (rs := [.t 4]) (H := wMd h_slices_Grow_I sMd) (lc := c_slices_Grow_I sF) (n := 2) Try.func62 Try.mx ?a ?b ?c ?d ?e ?f
  case f =>
    have hw := w_slices_Grow_I (P := Try.prog) (F := sF) n hn
    assumption
  case a => kernel_rfl
  case b => kernel_rfl
  case c => kernel_rfl
  case d => rfl
  case e => first | rfl | (simp only [List.all_cons, List.all_nil, Bool.and_true]; first | rfl | assumption | exact caps_ok hcs)
theorem k_slices_Concat_I : K_slices_Concat_I Try.prog sF := by
  unfold K_slices_Concat_I
  rw [show sF "slices.Concat.I" = 55 by kernel_rfl]
  intro a b ha hb
  refine FC.of' (rs := [.t 2]) (H := wMd h_slices_Concat_I sMd) (lc := c_slices_Concat_I sF) (n := 1) Try.func55 Try.mx ?a ?b ?c ?d ?e ?f
  case f =>
    have hw := w_slices_Concat_I (P := Try.prog) (F := sF) k_slices_Grow_I a b ha hb
    assumption
  case a => kernel_rfl
  case b => kernel_rfl
  case c => kernel_rfl
  case d => rfl
  case e => first | rfl | (simp only [List.all_cons, List.all_nil, Bool.and_true]; first | rfl | assumption | exact caps_ok hcs)
theorem k_slices_Clone_E : K_slices_Clone_E Try.prog sF := by
  unfold K_slices_Clone_E
  rw [show sF "slices.Clone.E" = 46 by kernel_rfl]
  intro l hl
  refine FC.of' (rs := [.t 2]) (H := wMd h_slices_Clone_E sMd) (lc := c_slices_Clone_E sF) (n := 1) Try.func46 Try.mx ?a ?b ?c ?d ?e ?f
  case f =>
    have hw := w_slices_Clone_E (P := Try.prog) (F := sF) l hl
    assumption
  case a => kernel_rfl
  case b => kernel_rfl
  case c => kernel_rfl
  case d => rfl
  case e => first | rfl | (simp only [List.all_cons, List.all_nil, Bool.and_true]; first | rfl | assumption | exact caps_ok hcs)
theorem k_graph_Union : K_graph_Union Try.prog sF := by
  unfold K_graph_Union
  rw [show sF "graph.Union" = 31 by kernel_rfl]
  intro a b
  refine FC.of' (rs := [.c 4 true 2, .c 5 true 2, .c 6 true 2, .t 7]) (H := wMd h_graph_Union sMd) (lc := c_graph_Union sF) (n := 2) Try.func31 Try.mx ?a ?b ?c ?d ?e ?f
  case f =>
    have hw := w_graph_Union (P := Try.prog) (F := sF) k_graph_Valid k_slices_Concat_I k_slices_Clone_E k_graph_numbers a b
    assumption
  case a => kernel_rfl
  case b => kernel_rfl
  case c => kernel_rfl
  case d => rfl
  case e => first | rfl | (simp only [List.all_cons, List.all_nil, Bool.and_true]; first | rfl | assumption | exact caps_ok hcs)
def SortL_ren : Go.Shelf.Ren := ⟨fun | 189 => 36 | 125 => 58 | 257 => 57 | 128 => 73 | 129 => 74 | 294 => 64 | 295 => 65 | 296 => 66 | 297 => 67 | 298 => 68 | 299 => 69 | 216 => 70 | 300 => 71 | 301 => 72 | 328 => 76 | 329 => 77 | 330 => 78 | 331 => 79 | 332 => 80 | 215 => 81 | 343 => 82 | n => n, fun | 28 => 22 | 3 => 3 | 46 => 84 | 0 => 0 | 51 => 99 | 53 => 101 | 4 => 4 | 183 => 92 | 182 => 91 | 131 => 96 | 5 => 5 | 9 => 9 | 218 => 103 | 222 => 107 | 228 => 109 | 229 => 110 | n => n, fun | n => n⟩
theorem SortL : Go.Proofs.Lays.n189 Try.prog SortL_ren := {
  mixed := by kernel_rfl,
  f125 := Try.func58.trans (congrArg some (by kernel_rfl)),
  f128 := Try.func73.trans (congrArg some (by kernel_rfl)),
  f129 := Try.func74.trans (congrArg some (by kernel_rfl)),
  f189 := Try.func36.trans (congrArg some (by kernel_rfl)),
  f215 := Try.func81.trans (congrArg some (by kernel_rfl)),
  f216 := Try.func70.trans (congrArg some (by kernel_rfl)),
  f257 := Try.func57.trans (congrArg some (by kernel_rfl)),
  f294 := Try.func64.trans (congrArg some (by kernel_rfl)),
  f295 := Try.func65.trans (congrArg some (by kernel_rfl)),
  f296 := Try.func66.trans (congrArg some (by kernel_rfl)),
  f297 := Try.func67.trans (congrArg some (by kernel_rfl)),
  f298 := Try.func68.trans (congrArg some (by kernel_rfl)),
  f299 := Try.func69.trans (congrArg some (by kernel_rfl)),
  f300 := Try.func71.trans (congrArg some (by kernel_rfl)),
  f301 := Try.func72.trans (congrArg some (by kernel_rfl)),
  f328 := Try.func76.trans (congrArg some (by kernel_rfl)),
  f329 := Try.func77.trans (congrArg some (by kernel_rfl)),
  f330 := Try.func78.trans (congrArg some (by kernel_rfl)),
  f331 := Try.func79.trans (congrArg some (by kernel_rfl)),
  f332 := Try.func80.trans (congrArg some (by kernel_rfl)),
  f343 := Try.func82.trans (congrArg some (by kernel_rfl)),
  t0 := Try.underlying0,
  a0 := Try.isAgg0,
  z0 := Try.sizeOf0,
  v0 := Try.zeroValue0,
  t3 := Try.underlying3,
  a3 := Try.isAgg3,
  z3 := Try.sizeOf3,
  v3 := Try.zeroValue3,
  t4 := Try.underlying4,
  a4 := Try.isAgg4,
  z4 := Try.sizeOf4,
  v4 := Try.zeroValue4,
  t5 := Try.underlying5,
  a5 := Try.isAgg5,
  z5 := Try.sizeOf5,
  v5 := Try.zeroValue5,
  t9 := Try.underlying9,
  a9 := Try.isAgg9,
  z9 := Try.sizeOf9,
  v9 := Try.zeroValue9,
  t28 := Try.underlying22,
  a28 := Try.isAgg22,
  z28 := Try.sizeOf22,
  v28 := Try.zeroValue22,
  t46 := Try.underlying84,
  a46 := Try.isAgg84,
  z46 := Try.sizeOf84,
  v46 := Try.zeroValue84,
  t51 := Try.underlying99,
  a51 := Try.isAgg99,
  z51 := Try.sizeOf99,
  v51 := Try.zeroValue99,
  t53 := Try.underlying101,
  a53 := Try.isAgg101,
  z53 := Try.sizeOf101,
  v53 := Try.zeroValue101,
  t131 := Try.underlying96,
  a131 := Try.isAgg96,
  z131 := Try.sizeOf96,
  v131 := Try.zeroValue96,
  t182 := Try.underlying91,
  a182 := Try.isAgg91,
  z182 := Try.sizeOf91,
  v182 := Try.zeroValue91,
  t183 := Try.underlying92,
  a183 := Try.isAgg92,
  z183 := Try.sizeOf92,
  v183 := Try.zeroValue92,
  t218 := Try.underlying103,
  a218 := Try.isAgg103,
  z218 := Try.sizeOf103,
  v218 := Try.zeroValue103,
  t222 := Try.underlying107,
  a222 := Try.isAgg107,
  z222 := Try.sizeOf107,
  v222 := Try.zeroValue107,
  t228 := Try.underlying109,
  a228 := Try.isAgg109,
  z228 := Try.sizeOf109,
  v228 := Try.zeroValue109,
  t229 := Try.underlying110,
  a229 := Try.isAgg110,
  z229 := Try.sizeOf110,
  v229 := Try.zeroValue110 }
theorem k_slices_Sort_I : K_slices_Sort_I Try.prog sF := by
  unfold K_slices_Sort_I
  rw [show sF "slices.Sort.I" = 36 by kernel_rfl]
  intro l hl
  have hb : (Try.f36.body.isSome) = true := by kernel_rfl
  obtain ⟨body, hb⟩ := Option.isSome_iff_exists.1 hb
  exact sort_FC (callFunc_enter Try.func36 (by kernel_rfl) hb) (fun blk off cap zs w h1 h2 h3 => Go.Proofs.Any.slices_Sort_int SortL blk off cap zs w h1 h2 h3) (fun p cap w => Go.Proofs.Any.slices_Sort_int_none SortL p cap w) l hl
theorem k_r05_Numbers : K_r05_Numbers Try.prog sF := by
  unfold K_r05_Numbers
  rw [show sF "r05.Numbers" = 37 by kernel_rfl]
  intro f n h0 h1 h2
  refine FC.of' (rs := [.t 4]) (H := wMd h_r05_Numbers sMd) (lc := c_r05_Numbers sF) (n := 2) Try.func37 Try.mx ?a ?b ?c ?d ?e ?f
  case f =>
    have hw := w_r05_Numbers (P := Try.prog) (F := sF) f n h0 h1 h2
    assumption
  case a => kernel_rfl
  case b => kernel_rfl
  case c => kernel_rfl
  case d => rfl
  case e => first | rfl | (simp only [List.all_cons, List.all_nil, Bool.and_true]; first | rfl | assumption | exact caps_ok hcs)
theorem k_l05_GraphParts : K_l05_GraphParts Try.prog sF := by
  unfold K_l05_GraphParts
  rw [show sF "l05.GraphParts" = 9 by kernel_rfl]
  intro x y x1 x2 x3 y1 y2 y3
  refine FC.of' (rs := [.t 4]) (H := wMd h_l05_GraphParts sMd) (lc := c_l05_GraphParts sF) (n := 2) Try.func9 Try.mx ?a ?b ?c ?d ?e ?f
  case f =>
    have hw := w_l05_GraphParts (P := Try.prog) (F := sF) k_l05_awake k_r05_Made k_graph_Union k_graph_Remove k_graph_Components k_r05_Same k_slices_Sort_I k_r05_Numbers k_slices_Equal_I x y x1 x2 x3 y1 y2 y3
    assumption
  case a => kernel_rfl
  case b => kernel_rfl
  case c => kernel_rfl
  case d => rfl
  case e => first | rfl | (simp only [List.all_cons, List.all_nil, Bool.and_true]; first | rfl | assumption | exact caps_ok hcs)
end Go.Proofs.Ytfkkngepnnkloaa
