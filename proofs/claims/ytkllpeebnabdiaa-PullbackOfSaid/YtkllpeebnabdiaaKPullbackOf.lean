/- The functions of this seat, their contracts. Printed by seat.py. -/
import Derived.Shelf.Sort.Plain
import Derived.Shelf.Slices.In.SortNone
import Derived.Test.YtkllpeebnabdiaaRows
import Derived.Test.YtkllpeebnabdiaaSlB
import Derived.KernelRfl
namespace Go.Proofs.Ytkllpeebnabdiaa
open Go Go.Am
set_option linter.unusedVariables false
set_option linter.unusedSimpArgs false
def sF : String → Nat := lkS [("l11.PullbackOf", 7), ("l11.awake", 10), ("pullback.Of", 13), ("r05.Valid", 14), ("pullback.Mediate", 17), ("r06.Same", 18), ("r05.Few", 24), ("r06.Few", 25), ("pullback.Kernel", 28), ("r11.SamePairs", 30), ("r11.Of", 31), ("r11.Few", 33), ("r05.Same", 34), ("pullback.Check", 35), ("l11.example", 39), ("slices.Equal.I", 40), ("pullback.of", 42), ("pullback.sides", 43), ("r05.kind", 44), ("r05.right", 45), ("morphism.Valid", 48), ("pullback.meet", 49), ("r02.SameInts", 50), ("r06.Valid", 52), ("r05.SameInts", 57), ("pullback.Kernel.1", 60), ("slices.DeleteFunc.apiPair", 61), ("pullback.pairs", 62), ("r11.Valid", 64), ("r11.pairs", 65), ("r11.place", 66), ("r11.sides", 67), ("morphism.Injective", 68), ("morphism.Surjective", 69), ("pullback.given", 72), ("slices.Index.apiPair", 73), ("graph.Valid", 74), ("slices.IndexFunc.apiPair", 79), ("morphism.images", 80), ("slices.ContainsFunc.I", 82), ("graph.Valid.1", 83), ("graph.within", 84), ("slices.ContainsFunc.E", 85), ("graph.Valid.2", 86), ("graph.fits", 87), ("slices.Clone.I", 88), ("slices.Sort.I", 89), ("slices.Compact.I", 90), ("slices.IndexFunc.I", 91), ("slices.IndexFunc.E", 92)]
def sMd : Nat → List Md := lkM [(61, [.ow, .rd]), (89, [.mu]), (90, [.ow])]
theorem Try.mx : Try.prog.follows .mixedOrders = true := by kernel_rfl
theorem k_l11_example : K_l11_example Try.prog sF := by
  unfold K_l11_example
  rw [show sF "l11.example" = 39 by kernel_rfl]
  refine FC.ofF (rs := [.c 0 true 10]) (H := wMd h_l11_example sMd) (lc := c_l11_example sF) (n := 0) Try.func39 Try.mx ?a ?b ?c ?d ?e ?f
  case f =>
    have hw := w_l11_example (P := Try.prog) (F := sF) 
    assumption
  case a => kernel_rfl
  case b => kernel_rfl
  case c => kernel_rfl
  case d => rfl
  case e => first | rfl | (simp only [List.all_cons, List.all_nil, Bool.and_true]; first | rfl | assumption | exact caps_ok hcs)
theorem k_slices_IndexFunc_I : K_slices_IndexFunc_I Try.prog sF := by
  unfold K_slices_IndexFunc_I
  rw [show sF "slices.IndexFunc.I" = 91 by kernel_rfl]
  intro l hl g cs hcs p hg
  refine FC.of' (rs := [.t 4]) (H := wMd h_slices_IndexFunc_I sMd) (lc := c_slices_IndexFunc_I sF) (n := 2) Try.func91 Try.mx ?a ?b ?c ?d ?e ?f
  case f =>
    have hw := w_slices_IndexFunc_I (P := Try.prog) (F := sF) l hl g cs hcs p hg
    assumption
  case a => kernel_rfl
  case b => kernel_rfl
  case c => kernel_rfl
  case d => rfl
  case e => first | rfl | (simp only [List.all_cons, List.all_nil, Bool.and_true]; first | rfl | assumption | exact caps_ok hcs)
theorem k_slices_ContainsFunc_I : K_slices_ContainsFunc_I Try.prog sF := by
  unfold K_slices_ContainsFunc_I
  rw [show sF "slices.ContainsFunc.I" = 82 by kernel_rfl]
  intro l hl g cs hcs p hg
  refine FC.of' (rs := [.t 4]) (H := wMd h_slices_ContainsFunc_I sMd) (lc := c_slices_ContainsFunc_I sF) (n := 2) Try.func82 Try.mx ?a ?b ?c ?d ?e ?f
  case f =>
    have hw := w_slices_ContainsFunc_I (P := Try.prog) (F := sF) k_slices_IndexFunc_I l hl g cs hcs p hg
    assumption
  case a => kernel_rfl
  case b => kernel_rfl
  case c => kernel_rfl
  case d => rfl
  case e => first | rfl | (simp only [List.all_cons, List.all_nil, Bool.and_true]; first | rfl | assumption | exact caps_ok hcs)
theorem k_slices_IndexFunc_E : K_slices_IndexFunc_E Try.prog sF := by
  unfold K_slices_IndexFunc_E
  rw [show sF "slices.IndexFunc.E" = 92 by kernel_rfl]
  intro l hl g cs hcs p hg
  refine FC.of' (rs := [.t 4]) (H := wMd h_slices_IndexFunc_E sMd) (lc := c_slices_IndexFunc_E sF) (n := 2) Try.func92 Try.mx ?a ?b ?c ?d ?e ?f
  case f =>
    have hw := w_slices_IndexFunc_E (P := Try.prog) (F := sF) l hl g cs hcs p hg
    assumption
  case a => kernel_rfl
  case b => kernel_rfl
  case c => kernel_rfl
  case d => rfl
  case e => first | rfl | (simp only [List.all_cons, List.all_nil, Bool.and_true]; first | rfl | assumption | exact caps_ok hcs)
theorem k_slices_ContainsFunc_E : K_slices_ContainsFunc_E Try.prog sF := by
  unfold K_slices_ContainsFunc_E
  rw [show sF "slices.ContainsFunc.E" = 85 by kernel_rfl]
  intro l hl g cs hcs p hg
  refine FC.of' (rs := [.t 4]) (H := wMd h_slices_ContainsFunc_E sMd) (lc := c_slices_ContainsFunc_E sF) (n := 2) Try.func85 Try.mx ?a ?b ?c ?d ?e ?f
  case f =>
    have hw := w_slices_ContainsFunc_E (P := Try.prog) (F := sF) k_slices_IndexFunc_E l hl g cs hcs p hg
    assumption
  case a => kernel_rfl
  case b => kernel_rfl
  case c => kernel_rfl
  case d => rfl
  case e => first | rfl | (simp only [List.all_cons, List.all_nil, Bool.and_true]; first | rfl | assumption | exact caps_ok hcs)
theorem k_graph_within : K_graph_within Try.prog sF := by
  unfold K_graph_within
  rw [show sF "graph.within" = 84 by kernel_rfl]
  intro n m
  refine FC.of' (rs := [.t 4]) (H := wMd h_graph_within sMd) (lc := c_graph_within sF) (n := 2) Try.func84 Try.mx ?a ?b ?c ?d ?e ?f
  case f =>
    have hw := w_graph_within (P := Try.prog) (F := sF) n m
    assumption
  case a => kernel_rfl
  case b => kernel_rfl
  case c => kernel_rfl
  case d => rfl
  case e => first | rfl | (simp only [List.all_cons, List.all_nil, Bool.and_true]; first | rfl | assumption | exact caps_ok hcs)
theorem k_graph_Valid_1 : K_graph_Valid_1 Try.prog sF := by
  unfold K_graph_Valid_1
  rw [show sF "graph.Valid.1" = 83 by kernel_rfl]
  intro x
  refine FC.of' (rs := [.t 2]) (H := wMd h_graph_Valid_1 sMd) (lc := c_graph_Valid_1 sF) (n := 1) Try.func83 Try.mx ?a ?b ?c ?d ?e ?f
  case f =>
    have hw := w_graph_Valid_1 (P := Try.prog) (F := sF) k_graph_within x
    assumption
  case a => kernel_rfl
  case b => kernel_rfl
  case c => kernel_rfl
  case d => rfl
  case e => first | rfl | (simp only [List.all_cons, List.all_nil, Bool.and_true]; first | rfl | assumption | exact caps_ok hcs)
theorem k_graph_fits : K_graph_fits Try.prog sF := by
  unfold K_graph_fits
  rw [show sF "graph.fits" = 87 by kernel_rfl]
  intro x n hn
  refine FC.of' (rs := [.t 4]) (H := wMd h_graph_fits sMd) (lc := c_graph_fits sF) (n := 2) Try.func87 Try.mx ?a ?b ?c ?d ?e ?f
  case f =>
    have hw := w_graph_fits (P := Try.prog) (F := sF) k_graph_within x n hn
    assumption
  case a => kernel_rfl
  case b => kernel_rfl
  case c => kernel_rfl
  case d => rfl
  case e => first | rfl | (simp only [List.all_cons, List.all_nil, Bool.and_true]; first | rfl | assumption | exact caps_ok hcs)
theorem k_graph_Valid_2 : K_graph_Valid_2 Try.prog sF := by
  unfold K_graph_Valid_2
  rw [show sF "graph.Valid.2" = 86 by kernel_rfl]
  intro x ns es hn
  refine FC.of' (rs := [.t 3]) (H := wMd h_graph_Valid_2 sMd) (lc := c_graph_Valid_2 sF) (n := 2) Try.func86 Try.mx ?a ?b ?c ?d ?e ?f
  case f =>
    have hw := w_graph_Valid_2 (P := Try.prog) (F := sF) k_graph_fits x ns es hn
    assumption
  case a => kernel_rfl
  case b => kernel_rfl
  case c => kernel_rfl
  case d => rfl
  case e => first | rfl | (simp only [List.all_cons, List.all_nil, Bool.and_true]; first | rfl | assumption | exact caps_ok hcs)
theorem k_graph_Valid : K_graph_Valid Try.prog sF := by
  unfold K_graph_Valid
  rw [show sF "graph.Valid" = 74 by kernel_rfl]
  intro g
  refine FC.of' (rs := [.t 2]) (H := wMd h_graph_Valid sMd) (lc := c_graph_Valid sF) (n := 1) Try.func74 Try.mx ?a ?b ?c ?d ?e ?f
  case f =>
    have hw := w_graph_Valid (P := Try.prog) (F := sF) k_slices_ContainsFunc_I k_slices_ContainsFunc_E k_graph_Valid_1 k_graph_Valid_2 g
    assumption
  case a => kernel_rfl
  case b => kernel_rfl
  case c => kernel_rfl
  case d => rfl
  case e => first | rfl | (simp only [List.all_cons, List.all_nil, Bool.and_true]; first | rfl | assumption | exact caps_ok hcs)
theorem k_morphism_Valid : K_morphism_Valid Try.prog sF := by
  unfold K_morphism_Valid
  rw [show sF "morphism.Valid" = 48 by kernel_rfl]
  intro a b m
  refine FC.of' (rs := [.t 6]) (H := wMd h_morphism_Valid sMd) (lc := c_morphism_Valid sF) (n := 3) Try.func48 Try.mx ?a ?b ?c ?d ?e ?f
  case f =>
    have hw := w_morphism_Valid (P := Try.prog) (F := sF) k_graph_Valid a b m
    assumption
  case a => kernel_rfl
  case b => kernel_rfl
  case c => kernel_rfl
  case d => rfl
  case e => first | rfl | (simp only [List.all_cons, List.all_nil, Bool.and_true]; first | rfl | assumption | exact caps_ok hcs)
theorem k_pullback_given : K_pullback_given Try.prog sF := by
  unfold K_pullback_given
  rw [show sF "pullback.given" = 72 by kernel_rfl]
  intro s
  refine FC.of' (rs := [.t 2]) (H := wMd h_pullback_given sMd) (lc := c_pullback_given sF) (n := 1) Try.func72 Try.mx ?a ?b ?c ?d ?e ?f
  case f =>
    have hw := w_pullback_given (P := Try.prog) (F := sF) k_morphism_Valid s
    assumption
  case a => kernel_rfl
  case b => kernel_rfl
  case c => kernel_rfl
  case d => rfl
  case e => first | rfl | (simp only [List.all_cons, List.all_nil, Bool.and_true]; first | rfl | assumption | exact caps_ok hcs)
theorem k_pullback_pairs : K_pullback_pairs Try.prog sF := by
  unfold K_pullback_pairs
  rw [show sF "pullback.pairs" = 62 by kernel_rfl]
  intro f g hf hg
  refine FC.of' (rs := [.t 4]) (H := wMd h_pullback_pairs sMd) (lc := c_pullback_pairs sF) (n := 2) Try.func62 Try.mx ?a ?b ?c ?d ?e ?f
  case f =>
    have hw := w_pullback_pairs (P := Try.prog) (F := sF) f g hf hg
    assumption
  case a => kernel_rfl
  case b => kernel_rfl
  case c => kernel_rfl
  case d => rfl
  case e => first | rfl | (simp only [List.all_cons, List.all_nil, Bool.and_true]; first | rfl | assumption | exact caps_ok hcs)
theorem k_slices_Index_apiPair : K_slices_Index_apiPair Try.prog sF := by
  unfold K_slices_Index_apiPair
  rw [show sF "slices.Index.apiPair" = 73 by kernel_rfl]
  intro l a b hl
  refine FC.of' (rs := [.t 4]) (H := wMd h_slices_Index_apiPair sMd) (lc := c_slices_Index_apiPair sF) (n := 2) Try.func73 Try.mx ?a ?b ?c ?d ?e ?f
  case f =>
    have hw := w_slices_Index_apiPair (P := Try.prog) (F := sF) l a b hl
    assumption
  case a => kernel_rfl
  case b => kernel_rfl
  case c => kernel_rfl
  case d => rfl
  case e => first | rfl | (simp only [List.all_cons, List.all_nil, Bool.and_true]; first | rfl | assumption | exact caps_ok hcs)
theorem k_pullback_of : K_pullback_of Try.prog sF := by
  unfold K_pullback_of
  rw [show sF "pullback.of" = 42 by kernel_rfl]
  intro s
  refine FC.of' (rs := [.c 2 true 4, .t 3]) (H := wMd h_pullback_of sMd) (lc := c_pullback_of sF) (n := 1) Try.func42 Try.mx ?a ?b ?c ?d ?e ?f
  case f =>
    have hw := w_pullback_of (P := Try.prog) (F := sF) k_pullback_given k_pullback_pairs k_slices_Index_apiPair s
    assumption
  case a => kernel_rfl
  case b => kernel_rfl
  case c => kernel_rfl
  case d => rfl
  case e => first | rfl | (simp only [List.all_cons, List.all_nil, Bool.and_true]; first | rfl | assumption | exact caps_ok hcs)
theorem k_pullback_sides : K_pullback_sides Try.prog sF := by
  unfold K_pullback_sides
  rw [show sF "pullback.sides" = 43 by kernel_rfl]
  intro l hl
  refine FC.of' (rs := [.t 2, .t 3]) (H := wMd h_pullback_sides sMd) (lc := c_pullback_sides sF) (n := 1) Try.func43 Try.mx ?a ?b ?c ?d ?e ?f
  case f =>
    have hw := w_pullback_sides (P := Try.prog) (F := sF) l hl
    assumption
  case a => kernel_rfl
  case b => kernel_rfl
  case c => kernel_rfl
  case d => rfl
  case e => first | rfl | (simp only [List.all_cons, List.all_nil, Bool.and_true]; first | rfl | assumption | exact caps_ok hcs)
theorem k_pullback_Of : K_pullback_Of Try.prog sF := by
  unfold K_pullback_Of
  rw [show sF "pullback.Of" = 13 by kernel_rfl]
  intro s
  refine FC.of' (rs := [.c 2 true 2, .c 3 true 2, .c 4 true 2, .t 5]) (H := wMd h_pullback_Of sMd) (lc := c_pullback_Of sF) (n := 1) Try.func13 Try.mx ?a ?b ?c ?d ?e ?f
  case f =>
    have hw := w_pullback_Of (P := Try.prog) (F := sF) k_pullback_of k_pullback_sides s
    assumption
  case a => kernel_rfl
  case b => kernel_rfl
  case c => kernel_rfl
  case d => rfl
  case e => first | rfl | (simp only [List.all_cons, List.all_nil, Bool.and_true]; first | rfl | assumption | exact caps_ok hcs)
theorem k_pullback_meet : K_pullback_meet Try.prog sF := by
  unfold K_pullback_meet
  rw [show sF "pullback.meet" = 49 by kernel_rfl]
  intro l h k hl h1 h2
  refine FC.of' (rs := [.t 6, .t 7]) (H := wMd h_pullback_meet sMd) (lc := c_pullback_meet sF) (n := 3) Try.func49 Try.mx ?a ?b ?c ?d ?e ?f
  case f =>
    have hw := w_pullback_meet (P := Try.prog) (F := sF) k_slices_Index_apiPair l h k hl h1 h2
    assumption
  case a => kernel_rfl
  case b => kernel_rfl
  case c => kernel_rfl
  case d => rfl
  case e => first | rfl | (simp only [List.all_cons, List.all_nil, Bool.and_true]; first | rfl | assumption | exact caps_ok hcs)
theorem k_pullback_Mediate : K_pullback_Mediate Try.prog sF := by
  unfold K_pullback_Mediate
  rw [show sF "pullback.Mediate" = 17 by kernel_rfl]
  intro s x h k
  refine FC.of' (rs := [.c 8 true 2, .t 9]) (H := wMd h_pullback_Mediate sMd) (lc := c_pullback_Mediate sF) (n := 4) Try.func17 Try.mx ?a ?b ?c ?d ?e ?f
  case f =>
    have hw := w_pullback_Mediate (P := Try.prog) (F := sF) k_pullback_of k_morphism_Valid k_pullback_meet s x h k
    assumption
  case a => kernel_rfl
  case b => kernel_rfl
  case c => kernel_rfl
  case d => rfl
  case e => first | rfl | (simp only [List.all_cons, List.all_nil, Bool.and_true]; first | rfl | assumption | exact caps_ok hcs)
theorem k_slices_IndexFunc_apiPair : K_slices_IndexFunc_apiPair Try.prog sF := by
  unfold K_slices_IndexFunc_apiPair
  rw [show sF "slices.IndexFunc.apiPair" = 79 by kernel_rfl]
  intro l hl g cs hcs p hg
  refine FC.of' (rs := [.t 4]) (H := wMd h_slices_IndexFunc_apiPair sMd) (lc := c_slices_IndexFunc_apiPair sF) (n := 2) Try.func79 Try.mx ?a ?b ?c ?d ?e ?f
  case f =>
    have hw := w_slices_IndexFunc_apiPair (P := Try.prog) (F := sF) l hl g cs hcs p hg
    assumption
  case a => kernel_rfl
  case b => kernel_rfl
  case c => kernel_rfl
  case d => rfl
  case e => first | rfl | (simp only [List.all_cons, List.all_nil, Bool.and_true]; first | rfl | assumption | exact caps_ok hcs)
theorem k_slices_DeleteFunc_apiPair : K_slices_DeleteFunc_apiPair Try.prog sF := by
  unfold K_slices_DeleteFunc_apiPair
  rw [show sF "slices.DeleteFunc.apiPair" = 61 by kernel_rfl]
  intro l hl g cs hcs p hg
  refine FC.of' (rs := [.t 4]) (H := wMd h_slices_DeleteFunc_apiPair sMd) (lc := c_slices_DeleteFunc_apiPair sF) (n := 2) Try.func61 Try.mx ?a ?b ?c ?d ?e ?f
  case f =>
    have hw := w_slices_DeleteFunc_apiPair (P := Try.prog) (F := sF) k_slices_IndexFunc_apiPair l hl g cs hcs p hg
    assumption
  case a => kernel_rfl
  case b => kernel_rfl
  case c => kernel_rfl
  case d => rfl
  case e => first | rfl | (simp only [List.all_cons, List.all_nil, Bool.and_true]; first | rfl | assumption | exact caps_ok hcs)
theorem k_pullback_Kernel_1 : K_pullback_Kernel_1 Try.prog sF := by
  unfold K_pullback_Kernel_1
  rw [show sF "pullback.Kernel.1" = 60 by kernel_rfl]
  intro x
  refine FC.of' (rs := [.t 2]) (H := wMd h_pullback_Kernel_1 sMd) (lc := c_pullback_Kernel_1 sF) (n := 1) Try.func60 Try.mx ?a ?b ?c ?d ?e ?f
  case f =>
    have hw := w_pullback_Kernel_1 (P := Try.prog) (F := sF) x
    assumption
  case a => kernel_rfl
  case b => kernel_rfl
  case c => kernel_rfl
  case d => rfl
  case e => first | rfl | (simp only [List.all_cons, List.all_nil, Bool.and_true]; first | rfl | assumption | exact caps_ok hcs)
theorem k_pullback_Kernel : K_pullback_Kernel Try.prog sF := by
  unfold K_pullback_Kernel
  rw [show sF "pullback.Kernel" = 28 by kernel_rfl]
  intro a b m
  refine FC.of' (rs := [.t 6, .t 7, .t 8]) (H := wMd h_pullback_Kernel sMd) (lc := c_pullback_Kernel sF) (n := 3) Try.func28 Try.mx ?a ?b ?c ?d ?e ?f
  case f =>
    have hw := w_pullback_Kernel (P := Try.prog) (F := sF) k_morphism_Valid k_pullback_pairs k_slices_DeleteFunc_apiPair k_pullback_Kernel_1 a b m
    assumption
  case a => kernel_rfl
  case b => kernel_rfl
  case c => kernel_rfl
  case d => rfl
  case e => first | rfl | (simp only [List.all_cons, List.all_nil, Bool.and_true]; first | rfl | assumption | exact caps_ok hcs)
theorem k_slices_Equal_I : K_slices_Equal_I Try.prog sF := by
  unfold K_slices_Equal_I
  rw [show sF "slices.Equal.I" = 40 by kernel_rfl]
  intro a b hl
  refine FC.of' (rs := [.t 4]) (H := wMd h_slices_Equal_I sMd) (lc := c_slices_Equal_I sF) (n := 2) Try.func40 Try.mx ?a ?b ?c ?d ?e ?f
  case f =>
    have hw := w_slices_Equal_I (P := Try.prog) (F := sF) a b hl
    assumption
  case a => kernel_rfl
  case b => kernel_rfl
  case c => kernel_rfl
  case d => rfl
  case e => first | rfl | (simp only [List.all_cons, List.all_nil, Bool.and_true]; first | rfl | assumption | exact caps_ok hcs)
theorem k_r11_SamePairs : K_r11_SamePairs Try.prog sF := by
  unfold K_r11_SamePairs
  rw [show sF "r11.SamePairs" = 30 by kernel_rfl]
  intro a b hl
  refine FC.of' (rs := [.t 4]) (H := wMd h_r11_SamePairs sMd) (lc := c_r11_SamePairs sF) (n := 2) Try.func30 Try.mx ?a ?b ?c ?d ?e ?f
  case f =>
    have hw := w_r11_SamePairs (P := Try.prog) (F := sF) a b hl
    assumption
  case a => kernel_rfl
  case b => kernel_rfl
  case c => kernel_rfl
  case d => rfl
  case e => first | rfl | (simp only [List.all_cons, List.all_nil, Bool.and_true]; first | rfl | assumption | exact caps_ok hcs)
theorem k_l11_awake : K_l11_awake Try.prog sF := by
  unfold K_l11_awake
  rw [show sF "l11.awake" = 10 by kernel_rfl]
  refine FC.of' (rs := [.t 0]) (H := wMd h_l11_awake sMd) (lc := c_l11_awake sF) (n := 0) Try.func10 Try.mx ?a ?b ?c ?d ?e ?f
  case f =>
    have hw := w_l11_awake (P := Try.prog) (F := sF) k_l11_example k_pullback_Of k_pullback_Mediate k_pullback_Kernel k_slices_Equal_I k_r11_SamePairs
    assumption
  case a => kernel_rfl
  case b => kernel_rfl
  case c => kernel_rfl
  case d => rfl
  case e => first | rfl | (simp only [List.all_cons, List.all_nil, Bool.and_true]; first | rfl | assumption | exact caps_ok hcs)
theorem k_r05_Few : K_r05_Few Try.prog sF := by
  unfold K_r05_Few
  rw [show sF "r05.Few" = 24 by kernel_rfl]
  intro g
  refine FC.of' (rs := [.t 2]) (H := wMd h_r05_Few sMd) (lc := c_r05_Few sF) (n := 1) Try.func24 Try.mx ?a ?b ?c ?d ?e ?f
  case f =>
    have hw := w_r05_Few (P := Try.prog) (F := sF) g
    assumption
  case a => kernel_rfl
  case b => kernel_rfl
  case c => kernel_rfl
  case d => rfl
  case e => first | rfl | (simp only [List.all_cons, List.all_nil, Bool.and_true]; first | rfl | assumption | exact caps_ok hcs)
theorem k_r06_Few : K_r06_Few Try.prog sF := by
  unfold K_r06_Few
  rw [show sF "r06.Few" = 25 by kernel_rfl]
  intro m n h1 h2
  refine FC.of' (rs := [.t 4]) (H := wMd h_r06_Few sMd) (lc := c_r06_Few sF) (n := 2) Try.func25 Try.mx ?a ?b ?c ?d ?e ?f
  case f =>
    have hw := w_r06_Few (P := Try.prog) (F := sF) m n h1 h2
    assumption
  case a => kernel_rfl
  case b => kernel_rfl
  case c => kernel_rfl
  case d => rfl
  case e => first | rfl | (simp only [List.all_cons, List.all_nil, Bool.and_true]; first | rfl | assumption | exact caps_ok hcs)
theorem k_r11_Few : K_r11_Few Try.prog sF := by
  unfold K_r11_Few
  rw [show sF "r11.Few" = 33 by kernel_rfl]
  intro s hs
  refine FC.of' (rs := [.t 2]) (H := wMd h_r11_Few sMd) (lc := c_r11_Few sF) (n := 1) Try.func33 Try.mx ?a ?b ?c ?d ?e ?f
  case f =>
    have hw := w_r11_Few (P := Try.prog) (F := sF) k_r05_Few k_r06_Few s hs
    assumption
  case a => kernel_rfl
  case b => kernel_rfl
  case c => kernel_rfl
  case d => rfl
  case e => first | rfl | (simp only [List.all_cons, List.all_nil, Bool.and_true]; first | rfl | assumption | exact caps_ok hcs)
theorem k_r05_kind : K_r05_kind Try.prog sF := by
  unfold K_r05_kind
  rw [show sF "r05.kind" = 44 by kernel_rfl]
  intro n
  refine FC.of' (rs := [.t 2]) (H := wMd h_r05_kind sMd) (lc := c_r05_kind sF) (n := 1) Try.func44 Try.mx ?a ?b ?c ?d ?e ?f
  case f =>
    have hw := w_r05_kind (P := Try.prog) (F := sF) n
    assumption
  case a => kernel_rfl
  case b => kernel_rfl
  case c => kernel_rfl
  case d => rfl
  case e => first | rfl | (simp only [List.all_cons, List.all_nil, Bool.and_true]; first | rfl | assumption | exact caps_ok hcs)
theorem k_r05_right : K_r05_right Try.prog sF := by
  unfold K_r05_right
  rw [show sF "r05.right" = 45 by kernel_rfl]
  intro x n
  refine FC.of' (rs := [.t 4]) (H := wMd h_r05_right sMd) (lc := c_r05_right sF) (n := 2) Try.func45 Try.mx ?a ?b ?c ?d ?e ?f
  case f =>
    have hw := w_r05_right (P := Try.prog) (F := sF) k_r05_kind x n
    assumption
  case a => kernel_rfl
  case b => kernel_rfl
  case c => kernel_rfl
  case d => rfl
  case e => first | rfl | (simp only [List.all_cons, List.all_nil, Bool.and_true]; first | rfl | assumption | exact caps_ok hcs)
theorem k_r05_Valid : K_r05_Valid Try.prog sF := by
  unfold K_r05_Valid
  rw [show sF "r05.Valid" = 14 by kernel_rfl]
  intro g
  refine FC.of' (rs := [.t 2]) (H := wMd h_r05_Valid sMd) (lc := c_r05_Valid sF) (n := 1) Try.func14 Try.mx ?a ?b ?c ?d ?e ?f
  case f =>
    have hw := w_r05_Valid (P := Try.prog) (F := sF) k_r05_kind k_r05_right g
    assumption
  case a => kernel_rfl
  case b => kernel_rfl
  case c => kernel_rfl
  case d => rfl
  case e => first | rfl | (simp only [List.all_cons, List.all_nil, Bool.and_true]; first | rfl | assumption | exact caps_ok hcs)
theorem k_r06_Valid : K_r06_Valid Try.prog sF := by
  unfold K_r06_Valid
  rw [show sF "r06.Valid" = 52 by kernel_rfl]
  intro a b m
  refine FC.of' (rs := [.t 6]) (H := wMd h_r06_Valid sMd) (lc := c_r06_Valid sF) (n := 3) Try.func52 Try.mx ?a ?b ?c ?d ?e ?f
  case f =>
    have hw := w_r06_Valid (P := Try.prog) (F := sF) k_r05_Valid a b m
    assumption
  case a => kernel_rfl
  case b => kernel_rfl
  case c => kernel_rfl
  case d => rfl
  case e => first | rfl | (simp only [List.all_cons, List.all_nil, Bool.and_true]; first | rfl | assumption | exact caps_ok hcs)
theorem k_r11_Valid : K_r11_Valid Try.prog sF := by
  unfold K_r11_Valid
  rw [show sF "r11.Valid" = 64 by kernel_rfl]
  intro s
  refine FC.of' (rs := [.t 2]) (H := wMd h_r11_Valid sMd) (lc := c_r11_Valid sF) (n := 1) Try.func64 Try.mx ?a ?b ?c ?d ?e ?f
  case f =>
    have hw := w_r11_Valid (P := Try.prog) (F := sF) k_r06_Valid s
    assumption
  case a => kernel_rfl
  case b => kernel_rfl
  case c => kernel_rfl
  case d => rfl
  case e => first | rfl | (simp only [List.all_cons, List.all_nil, Bool.and_true]; first | rfl | assumption | exact caps_ok hcs)
theorem k_r11_pairs : K_r11_pairs Try.prog sF := by
  unfold K_r11_pairs
  rw [show sF "r11.pairs" = 65 by kernel_rfl]
  intro f g m hf hg hm
  refine FC.of' (rs := [.t 6]) (H := wMd h_r11_pairs sMd) (lc := c_r11_pairs sF) (n := 3) Try.func65 Try.mx ?a ?b ?c ?d ?e ?f
  case f =>
    have hw := w_r11_pairs (P := Try.prog) (F := sF) f g m hf hg hm
    assumption
  case a => kernel_rfl
  case b => kernel_rfl
  case c => kernel_rfl
  case d => rfl
  case e => first | rfl | (simp only [List.all_cons, List.all_nil, Bool.and_true]; first | rfl | assumption | exact caps_ok hcs)
theorem k_r11_place : K_r11_place Try.prog sF := by
  unfold K_r11_place
  rw [show sF "r11.place" = 66 by kernel_rfl]
  intro l a b hl
  refine FC.of' (rs := [.t 6]) (H := wMd h_r11_place sMd) (lc := c_r11_place sF) (n := 3) Try.func66 Try.mx ?a ?b ?c ?d ?e ?f
  case f =>
    have hw := w_r11_place (P := Try.prog) (F := sF) l a b hl
    assumption
  case a => kernel_rfl
  case b => kernel_rfl
  case c => kernel_rfl
  case d => rfl
  case e => first | rfl | (simp only [List.all_cons, List.all_nil, Bool.and_true]; first | rfl | assumption | exact caps_ok hcs)
theorem k_r11_sides : K_r11_sides Try.prog sF := by
  unfold K_r11_sides
  rw [show sF "r11.sides" = 67 by kernel_rfl]
  intro l hl
  refine FC.of' (rs := [.t 2, .t 3]) (H := wMd h_r11_sides sMd) (lc := c_r11_sides sF) (n := 1) Try.func67 Try.mx ?a ?b ?c ?d ?e ?f
  case f =>
    have hw := w_r11_sides (P := Try.prog) (F := sF) l hl
    assumption
  case a => kernel_rfl
  case b => kernel_rfl
  case c => kernel_rfl
  case d => rfl
  case e => first | rfl | (simp only [List.all_cons, List.all_nil, Bool.and_true]; first | rfl | assumption | exact caps_ok hcs)
theorem k_r11_Of : K_r11_Of Try.prog sF := by
  unfold K_r11_Of
  rw [show sF "r11.Of" = 31 by kernel_rfl]
  intro s
  refine FC.of' (rs := [.c 2 true 2, .c 3 true 2, .c 4 true 2, .t 5]) (H := wMd h_r11_Of sMd) (lc := c_r11_Of sF) (n := 1) Try.func31 Try.mx ?a ?b ?c ?d ?e ?f
  case f =>
    have hw := w_r11_Of (P := Try.prog) (F := sF) k_r11_Valid k_r11_pairs k_r11_place k_r11_sides s
    assumption
  case a => kernel_rfl
  case b => kernel_rfl
  case c => kernel_rfl
  case d => rfl
  case e => first | rfl | (simp only [List.all_cons, List.all_nil, Bool.and_true]; first | rfl | assumption | exact caps_ok hcs)
theorem k_r05_SameInts : K_r05_SameInts Try.prog sF := by
  unfold K_r05_SameInts
  rw [show sF "r05.SameInts" = 57 by kernel_rfl]
  intro a b hl
  refine FC.of' (rs := [.t 4]) (H := wMd h_r05_SameInts sMd) (lc := c_r05_SameInts sF) (n := 2) Try.func57 Try.mx ?a ?b ?c ?d ?e ?f
  case f =>
    have hw := w_r05_SameInts (P := Try.prog) (F := sF) a b hl
    assumption
  case a => kernel_rfl
  case b => kernel_rfl
  case c => kernel_rfl
  case d => rfl
  case e => first | rfl | (simp only [List.all_cons, List.all_nil, Bool.and_true]; first | rfl | assumption | exact caps_ok hcs)
theorem k_r05_Same : K_r05_Same Try.prog sF := by
  unfold K_r05_Same
  rw [show sF "r05.Same" = 34 by kernel_rfl]
  intro a b h1 h2
  refine FC.of' (rs := [.t 4]) (H := wMd h_r05_Same sMd) (lc := c_r05_Same sF) (n := 2) Try.func34 Try.mx ?a ?b ?c ?d ?e ?f
  case f =>
    have hw := w_r05_Same (P := Try.prog) (F := sF) k_r05_SameInts a b h1 h2
    assumption
  case a => kernel_rfl
  case b => kernel_rfl
  case c => kernel_rfl
  case d => rfl
  case e => first | rfl | (simp only [List.all_cons, List.all_nil, Bool.and_true]; first | rfl | assumption | exact caps_ok hcs)
theorem k_r02_SameInts : K_r02_SameInts Try.prog sF := by
  unfold K_r02_SameInts
  rw [show sF "r02.SameInts" = 50 by kernel_rfl]
  intro a b hl
  refine FC.of' (rs := [.t 4]) (H := wMd h_r02_SameInts sMd) (lc := c_r02_SameInts sF) (n := 2) Try.func50 Try.mx ?a ?b ?c ?d ?e ?f
  case f =>
    have hw := w_r02_SameInts (P := Try.prog) (F := sF) a b hl
    assumption
  case a => kernel_rfl
  case b => kernel_rfl
  case c => kernel_rfl
  case d => rfl
  case e => first | rfl | (simp only [List.all_cons, List.all_nil, Bool.and_true]; first | rfl | assumption | exact caps_ok hcs)
theorem k_r06_Same : K_r06_Same Try.prog sF := by
  unfold K_r06_Same
  rw [show sF "r06.Same" = 18 by kernel_rfl]
  intro a b h1 h2
  refine FC.of' (rs := [.t 4]) (H := wMd h_r06_Same sMd) (lc := c_r06_Same sF) (n := 2) Try.func18 Try.mx ?a ?b ?c ?d ?e ?f
  case f =>
    have hw := w_r06_Same (P := Try.prog) (F := sF) k_r02_SameInts a b h1 h2
    assumption
  case a => kernel_rfl
  case b => kernel_rfl
  case c => kernel_rfl
  case d => rfl
  case e => first | rfl | (simp only [List.all_cons, List.all_nil, Bool.and_true]; first | rfl | assumption | exact caps_ok hcs)
theorem k_slices_Clone_I : K_slices_Clone_I Try.prog sF := by
  unfold K_slices_Clone_I
  rw [show sF "slices.Clone.I" = 88 by kernel_rfl]
  intro l hl
  refine FC.of' (rs := [.t 2]) (H := wMd h_slices_Clone_I sMd) (lc := c_slices_Clone_I sF) (n := 1) Try.func88 Try.mx ?a ?b ?c ?d ?e ?f
  case f =>
    have hw := w_slices_Clone_I (P := Try.prog) (F := sF) l hl
    assumption
  case a => kernel_rfl
  case b => kernel_rfl
  case c => kernel_rfl
  case d => rfl
  case e => first | rfl | (simp only [List.all_cons, List.all_nil, Bool.and_true]; first | rfl | assumption | exact caps_ok hcs)
def SortL_ren : Go.Shelf.Ren := ⟨fun | 189 => 89 | 125 => 94 | 257 => 93 | 128 => 104 | 129 => 105 | 294 => 95 | 295 => 96 | 296 => 97 | 297 => 98 | 298 => 99 | 299 => 100 | 216 => 101 | 300 => 102 | 301 => 103 | 328 => 106 | 329 => 107 | 330 => 108 | 331 => 109 | 332 => 110 | 215 => 111 | 343 => 112 | n => n, fun | 28 => 31 | 3 => 3 | 46 => 126 | 0 => 0 | 51 => 136 | 53 => 138 | 4 => 4 | 183 => 129 | 182 => 128 | 131 => 133 | 5 => 5 | 9 => 9 | 218 => 139 | 222 => 143 | 228 => 145 | 229 => 146 | n => n, fun | n => n⟩
theorem SortL : Go.Proofs.Lays.n189 Try.prog SortL_ren := {
  mixed := by kernel_rfl,
  f125 := Try.func94.trans (congrArg some (by kernel_rfl)),
  f128 := Try.func104.trans (congrArg some (by kernel_rfl)),
  f129 := Try.func105.trans (congrArg some (by kernel_rfl)),
  f189 := Try.func89.trans (congrArg some (by kernel_rfl)),
  f215 := Try.func111.trans (congrArg some (by kernel_rfl)),
  f216 := Try.func101.trans (congrArg some (by kernel_rfl)),
  f257 := Try.func93.trans (congrArg some (by kernel_rfl)),
  f294 := Try.func95.trans (congrArg some (by kernel_rfl)),
  f295 := Try.func96.trans (congrArg some (by kernel_rfl)),
  f296 := Try.func97.trans (congrArg some (by kernel_rfl)),
  f297 := Try.func98.trans (congrArg some (by kernel_rfl)),
  f298 := Try.func99.trans (congrArg some (by kernel_rfl)),
  f299 := Try.func100.trans (congrArg some (by kernel_rfl)),
  f300 := Try.func102.trans (congrArg some (by kernel_rfl)),
  f301 := Try.func103.trans (congrArg some (by kernel_rfl)),
  f328 := Try.func106.trans (congrArg some (by kernel_rfl)),
  f329 := Try.func107.trans (congrArg some (by kernel_rfl)),
  f330 := Try.func108.trans (congrArg some (by kernel_rfl)),
  f331 := Try.func109.trans (congrArg some (by kernel_rfl)),
  f332 := Try.func110.trans (congrArg some (by kernel_rfl)),
  f343 := Try.func112.trans (congrArg some (by kernel_rfl)),
  t0 := Try.underlying0,
  a0 := Try.isAgg0,
  z0 := Try.sizeOf0,
  v0 := Try.zeroValue0,
  t3 := Try.underlying3,
  a3 := Try.isAgg3,
  z3 := Try.sizeOf3,
  v3 := Try.zeroValue3,
  t4 := Try.underlying4,
  a4 := Try.isAgg4,
  z4 := Try.sizeOf4,
  v4 := Try.zeroValue4,
  t5 := Try.underlying5,
  a5 := Try.isAgg5,
  z5 := Try.sizeOf5,
  v5 := Try.zeroValue5,
  t9 := Try.underlying9,
  a9 := Try.isAgg9,
  z9 := Try.sizeOf9,
  v9 := Try.zeroValue9,
  t28 := Try.underlying31,
  a28 := Try.isAgg31,
  z28 := Try.sizeOf31,
  v28 := Try.zeroValue31,
  t46 := Try.underlying126,
  a46 := Try.isAgg126,
  z46 := Try.sizeOf126,
  v46 := Try.zeroValue126,
  t51 := Try.underlying136,
  a51 := Try.isAgg136,
  z51 := Try.sizeOf136,
  v51 := Try.zeroValue136,
  t53 := Try.underlying138,
  a53 := Try.isAgg138,
  z53 := Try.sizeOf138,
  v53 := Try.zeroValue138,
  t131 := Try.underlying133,
  a131 := Try.isAgg133,
  z131 := Try.sizeOf133,
  v131 := Try.zeroValue133,
  t182 := Try.underlying128,
  a182 := Try.isAgg128,
  z182 := Try.sizeOf128,
  v182 := Try.zeroValue128,
  t183 := Try.underlying129,
  a183 := Try.isAgg129,
  z183 := Try.sizeOf129,
  v183 := Try.zeroValue129,
  t218 := Try.underlying139,
  a218 := Try.isAgg139,
  z218 := Try.sizeOf139,
  v218 := Try.zeroValue139,
  t222 := Try.underlying143,
  a222 := Try.isAgg143,
  z222 := Try.sizeOf143,
  v222 := Try.zeroValue143,
  t228 := Try.underlying145,
  a228 := Try.isAgg145,
  z228 := Try.sizeOf145,
  v228 := Try.zeroValue145,
  t229 := Try.underlying146,
  a229 := Try.isAgg146,
  z229 := Try.sizeOf146,
  v229 := Try.zeroValue146 }
theorem k_slices_Sort_I : K_slices_Sort_I Try.prog sF := by
  unfold K_slices_Sort_I
  rw [show sF "slices.Sort.I" = 89 by kernel_rfl]
  intro l hl
  have hb : (Try.f89.body.isSome) = true := by kernel_rfl
  obtain ⟨body, hb⟩ := Option.isSome_iff_exists.1 hb
  exact sort_FC (callFunc_enter Try.func89 (by kernel_rfl) hb) (fun blk off cap zs w h1 h2 h3 => Go.Proofs.Any.slices_Sort_int SortL blk off cap zs w h1 h2 h3) (fun p cap w => Go.Proofs.Any.slices_Sort_int_none SortL p cap w) l hl
theorem k_slices_Compact_I : K_slices_Compact_I Try.prog sF := by
  unfold K_slices_Compact_I
  rw [show sF "slices.Compact.I" = 90 by kernel_rfl]
  intro l hl
  refine FC.of' (rs := [.t 2]) (H := wMd h_slices_Compact_I sMd) (lc := c_slices_Compact_I sF) (n := 1) Try.func90 Try.mx ?a ?b ?c ?d ?e ?f
  case f =>
    have hw := w_slices_Compact_I (P := Try.prog) (F := sF) l hl
    assumption
  case a => kernel_rfl
  case b => kernel_rfl
  case c => kernel_rfl
  case d => rfl
  case e => first | rfl | (simp only [List.all_cons, List.all_nil, Bool.and_true]; first | rfl | assumption | exact caps_ok hcs)
theorem k_morphism_images : K_morphism_images Try.prog sF := by
  unfold K_morphism_images
  rw [show sF "morphism.images" = 80 by kernel_rfl]
  intro l hl
  refine FC.of' (rs := [.t 2]) (H := wMd h_morphism_images sMd) (lc := c_morphism_images sF) (n := 1) Try.func80 Try.mx ?a ?b ?c ?d ?e ?f
  case f =>
    have hw := w_morphism_images (P := Try.prog) (F := sF) k_slices_Clone_I k_slices_Sort_I k_slices_Compact_I l hl
    assumption
  case a => kernel_rfl
  case b => kernel_rfl
  case c => kernel_rfl
  case d => rfl
  case e => first | rfl | (simp only [List.all_cons, List.all_nil, Bool.and_true]; first | rfl | assumption | exact caps_ok hcs)
theorem k_morphism_Injective : K_morphism_Injective Try.prog sF := by
  unfold K_morphism_Injective
  rw [show sF "morphism.Injective" = 68 by kernel_rfl]
  intro a b m
  refine FC.of' (rs := [.t 6]) (H := wMd h_morphism_Injective sMd) (lc := c_morphism_Injective sF) (n := 3) Try.func68 Try.mx ?a ?b ?c ?d ?e ?f
  case f =>
    have hw := w_morphism_Injective (P := Try.prog) (F := sF) k_morphism_Valid k_morphism_images a b m
    assumption
  case a => kernel_rfl
  case b => kernel_rfl
  case c => kernel_rfl
  case d => rfl
  case e => first | rfl | (simp only [List.all_cons, List.all_nil, Bool.and_true]; first | rfl | assumption | exact caps_ok hcs)
theorem k_morphism_Surjective : K_morphism_Surjective Try.prog sF := by
  unfold K_morphism_Surjective
  rw [show sF "morphism.Surjective" = 69 by kernel_rfl]
  intro a b m
  refine FC.of' (rs := [.t 6]) (H := wMd h_morphism_Surjective sMd) (lc := c_morphism_Surjective sF) (n := 3) Try.func69 Try.mx ?a ?b ?c ?d ?e ?f
  case f =>
    have hw := w_morphism_Surjective (P := Try.prog) (F := sF) k_morphism_Valid k_morphism_images a b m
    assumption
  case a => kernel_rfl
  case b => kernel_rfl
  case c => kernel_rfl
  case d => rfl
  case e => first | rfl | (simp only [List.all_cons, List.all_nil, Bool.and_true]; first | rfl | assumption | exact caps_ok hcs)
theorem k_pullback_Check : K_pullback_Check Try.prog sF := by
  unfold K_pullback_Check
  rw [show sF "pullback.Check" = 35 by kernel_rfl]
  intro s x h k
  refine FC.of' (rs := [.t 8]) (H := wMd h_pullback_Check sMd) (lc := c_pullback_Check sF) (n := 4) Try.func35 Try.mx ?a ?b ?c ?d ?e ?f
  case f =>
    have hw := w_pullback_Check (P := Try.prog) (F := sF) k_pullback_Mediate k_pullback_of k_morphism_Injective k_morphism_Surjective s x h k
    assumption
  case a => kernel_rfl
  case b => kernel_rfl
  case c => kernel_rfl
  case d => rfl
  case e => first | rfl | (simp only [List.all_cons, List.all_nil, Bool.and_true]; first | rfl | assumption | exact caps_ok hcs)
theorem k_l11_PullbackOf : K_l11_PullbackOf Try.prog sF := by
  unfold K_l11_PullbackOf
  rw [show sF "l11.PullbackOf" = 7 by kernel_rfl]
  intro s h1
  refine FC.of' (rs := [.t 2]) (H := wMd h_l11_PullbackOf sMd) (lc := c_l11_PullbackOf sF) (n := 1) Try.func7 Try.mx ?a ?b ?c ?d ?e ?f
  case f =>
    have hw := w_l11_PullbackOf (P := Try.prog) (F := sF) k_l11_awake k_r11_Few k_pullback_Of k_r11_Of k_r05_Same k_r06_Same k_pullback_Check s h1
    assumption
  case a => kernel_rfl
  case b => kernel_rfl
  case c => kernel_rfl
  case d => rfl
  case e => first | rfl | (simp only [List.all_cons, List.all_nil, Bool.and_true]; first | rfl | assumption | exact caps_ok hcs)
end Go.Proofs.Ytkllpeebnabdiaa
