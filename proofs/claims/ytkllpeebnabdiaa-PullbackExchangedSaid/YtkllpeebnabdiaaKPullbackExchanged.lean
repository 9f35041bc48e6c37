/- The functions of this seat, their contracts. Printed by seat.py. -/
import Derived.Shelf.Sort.Plain
import Derived.Shelf.Slices.In.SortNone
import Derived.Test.YtkllpeebnabdiaaRows
import Derived.Test.YtkllpeebnabdiaaSnC
import Derived.KernelRfl
namespace Go.Proofs.Ytkllpeebnabdiaa
open Go Go.Am
attribute [local irreducible] W
set_option linter.unusedVariables false
set_option linter.unusedSimpArgs false
def sF : String → Nat := lkS [("l11.PullbackExchanged", 9), ("l11.awake", 10), ("l11.few", 11), ("r11.Made", 12), ("pullback.Of", 13), ("r11.Over", 15), ("pullback.Mediate", 17), ("pullback.Kernel", 28), ("r11.SamePairs", 30), ("pullback.Check", 35), ("l11.example", 39), ("slices.Equal.I", 40), ("r05.Made", 41), ("pullback.of", 42), ("pullback.sides", 43), ("r11.over", 46), ("morphism.Valid", 48), ("pullback.meet", 49), ("pullback.Kernel.1", 60), ("slices.DeleteFunc.apiPair", 61), ("pullback.pairs", 62), ("morphism.Injective", 68), ("morphism.Surjective", 69), ("pullback.given", 72), ("slices.Index.apiPair", 73), ("graph.Valid", 74), ("slices.IndexFunc.apiPair", 79), ("morphism.images", 80), ("slices.ContainsFunc.I", 82), ("graph.Valid.1", 83), ("graph.within", 84), ("slices.ContainsFunc.E", 85), ("graph.Valid.2", 86), ("graph.fits", 87), ("slices.Clone.I", 88), ("slices.Sort.I", 89), ("slices.Compact.I", 90), ("slices.IndexFunc.I", 91), ("slices.IndexFunc.E", 92)]
def sMd : Nat → List Md := lkM [(61, [.ow, .rd]), (89, [.mu]), (90, [.ow])]
theorem Try.mx : Try.prog.follows .mixedOrders = true := by kernel_rfl
theorem k_l11_example : K_l11_example Try.prog sF := by
  unfold K_l11_example
  rw [show sF "l11.example" = 39 by kernel_rfl]
  refine FC.ofF (rs := [.c 0 true 10]) (H := wMd h_l11_example sMd) (lc := c_l11_example sF) (n := 0) Try.func39 Try.mx ?a ?b ?c ?d ?e ?f
  case f =>
    have hw := w_l11_example (P := Try.prog) (F := sF) 
    assumption
  case a => kernel_rfl
  case b => kernel_rfl
  case c => kernel_rfl
  case d => rfl
  case e => first | rfl | (simp only [List.all_cons, List.all_nil, Bool.and_true]; first | rfl | assumption | exact caps_ok hcs)
theorem k_slices_IndexFunc_I : K_slices_IndexFunc_I Try.prog sF := by
  unfold K_slices_IndexFunc_I
  rw [show sF "slices.IndexFunc.I" = 91 by kernel_rfl]
  intro l hl g cs hcs p hg
  refine FC.of' (rs := [.t 4]) (H := wMd h_slices_IndexFunc_I sMd) (lc := c_slices_IndexFunc_I sF) (n := 2) Try.func91 Try.mx ?a ?b ?c ?d ?e ?f
  case f =>
    have hw := w_slices_IndexFunc_I (P := Try.prog) (F := sF) l hl g cs hcs p hg
    assumption
  case a => kernel_rfl
  case b => kernel_rfl
  case c => kernel_rfl
  case d => rfl
  case e => first | rfl | (simp only [List.all_cons, List.all_nil, Bool.and_true]; first | rfl | assumption | exact caps_ok hcs)
theorem k_slices_ContainsFunc_I : K_slices_ContainsFunc_I Try.prog sF := by
  unfold K_slices_ContainsFunc_I
  rw [show sF "slices.ContainsFunc.I" = 82 by kernel_rfl]
  intro l hl g cs hcs p hg
  refine FC.of' (rs := [.t 4]) (H := wMd h_slices_ContainsFunc_I sMd) (lc := c_slices_ContainsFunc_I sF) (n := 2) Try.func82 Try.mx ?a ?b ?c ?d ?e ?f
  case f =>
    have hw := w_slices_ContainsFunc_I (P := Try.prog) (F := sF) k_slices_IndexFunc_I l hl g cs hcs p hg
    assumption
  case a => kernel_rfl
  case b => kernel_rfl
  case c => kernel_rfl
  case d => rfl
  case e => first | rfl | (simp only [List.all_cons, List.all_nil, Bool.and_true]; first | rfl | assumption | exact caps_ok hcs)
theorem k_slices_IndexFunc_E : K_slices_IndexFunc_E Try.prog sF := by
  unfold K_slices_IndexFunc_E
  rw [show sF "slices.IndexFunc.E" = 92 by kernel_rfl]
  intro l hl g cs hcs p hg
  refine FC.of' (rs := [.t 4]) (H := wMd h_slices_IndexFunc_E sMd) (lc := c_slices_IndexFunc_E sF) (n := 2) Try.func92 Try.mx ?a ?b ?c ?d ?e ?f
  case f =>
    have hw := w_slices_IndexFunc_E (P := Try.prog) (F := sF) l hl g cs hcs p hg
    assumption
  case a => kernel_rfl
  case b => kernel_rfl
  case c => kernel_rfl
  case d => rfl
  case e => first | rfl | (simp only [List.all_cons, List.all_nil, Bool.and_true]; first | rfl | assumption | exact caps_ok hcs)
theorem k_slices_ContainsFunc_E : K_slices_ContainsFunc_E Try.prog sF := by
  unfold K_slices_ContainsFunc_E
  rw [show sF "slices.ContainsFunc.E" = 85 by kernel_rfl]
  intro l hl g cs hcs p hg
  refine FC.of' (rs := [.t 4]) (H := wMd h_slices_ContainsFunc_E sMd) (lc := c_slices_ContainsFunc_E sF) (n := 2) Try.func85 Try.mx ?a ?b ?c ?d ?e ?f
  case f =>
    have hw := w_slices_ContainsFunc_E (P := Try.prog) (F := sF) k_slices_IndexFunc_E l hl g cs hcs p hg
    assumption
  case a => kernel_rfl
  case b => kernel_rfl
  case c => kernel_rfl
  case d => rfl
  case e => first | rfl | (simp only [List.all_cons, List.all_nil, Bool.and_true]; first | rfl | assumption | exact caps_ok hcs)
theorem k_graph_within : K_graph_within Try.prog sF := by
  unfold K_graph_within
  rw [show sF "graph.within" = 84 by kernel_rfl]
  intro n m
  refine FC.of' (rs := [.t 4]) (H := wMd h_graph_within sMd) (lc := c_graph_within sF) (n := 2) Try.func84 Try.mx ?a ?b ?c ?d ?e ?f
  case f =>
    have hw := w_graph_within (P := Try.prog) (F := sF) n m
    assumption
  case a => kernel_rfl
  case b => kernel_rfl
  case c => kernel_rfl
  case d => rfl
  case e => first | rfl | (simp only [List.all_cons, List.all_nil, Bool.and_true]; first | rfl | assumption | exact caps_ok hcs)
theorem k_graph_Valid_1 : K_graph_Valid_1 Try.prog sF := by
  unfold K_graph_Valid_1
  rw [show sF "graph.Valid.1" = 83 by kernel_rfl]
  intro x
  refine FC.of' (rs := [.t 2]) (H := wMd h_graph_Valid_1 sMd) (lc := c_graph_Valid_1 sF) (n := 1) Try.func83 Try.mx ?a ?b ?c ?d ?e ?f
  case f =>
    have hw := w_graph_Valid_1 (P := Try.prog) (F := sF) k_graph_within x
    assumption
  case a => kernel_rfl
  case b => kernel_rfl
  case c => kernel_rfl
  case d => rfl
  case e => first | rfl | (simp only [List.all_cons, List.all_nil, Bool.and_true]; first | rfl | assumption | exact caps_ok hcs)
theorem k_graph_fits : K_graph_fits Try.prog sF := by
  unfold K_graph_fits
  rw [show sF "graph.fits" = 87 by kernel_rfl]
  intro x n hn
  refine FC.of' (rs := [.t 4]) (H := wMd h_graph_fits sMd) (lc := c_graph_fits sF) (n := 2) Try.func87 Try.mx ?a ?b ?c ?d ?e ?f
  case f =>
    have hw := w_graph_fits (P := Try.prog) (F := sF) k_graph_within x n hn
    assumption
  case a => kernel_rfl
  case b => kernel_rfl
  case c => kernel_rfl
  case d => rfl
  case e => first | rfl | (simp only [List.all_cons, List.all_nil, Bool.and_true]; first | rfl | assumption | exact caps_ok hcs)
theorem k_graph_Valid_2 : K_graph_Valid_2 Try.prog sF := by
  unfold K_graph_Valid_2
  rw [show sF "graph.Valid.2" = 86 by kernel_rfl]
  intro x ns es hn
  refine FC.of' (rs := [.t 3]) (H := wMd h_graph_Valid_2 sMd) (lc := c_graph_Valid_2 sF) (n := 2) Try.func86 Try.mx ?a ?b ?c ?d ?e ?f
  case f =>
    have hw := w_graph_Valid_2 (P := Try.prog) (F := sF) k_graph_fits x ns es hn
    assumption
  case a => kernel_rfl
  case b => kernel_rfl
  case c => kernel_rfl
  case d => rfl
  case e => first | rfl | (simp only [List.all_cons, List.all_nil, Bool.and_true]; first | rfl | assumption | exact caps_ok hcs)
theorem k_graph_Valid : K_graph_Valid Try.prog sF := by
  unfold K_graph_Valid
  rw [show sF "graph.Valid" = 74 by kernel_rfl]
  intro g
  refine FC.of' (rs := [.t 2]) (H := wMd h_graph_Valid sMd) (lc := c_graph_Valid sF) (n := 1) Try.func74 Try.mx ?a ?b ?c ?d ?e ?f
  case f =>
    have hw := w_graph_Valid (P := Try.prog) (F := sF) k_slices_ContainsFunc_I k_slices_ContainsFunc_E k_graph_Valid_1 k_graph_Valid_2 g
    assumption
  case a => kernel_rfl
  case b => kernel_rfl
  case c => kernel_rfl
  case d => rfl
  case e => first | rfl | (simp only [List.all_cons, List.all_nil, Bool.and_true]; first | rfl | assumption | exact caps_ok hcs)
theorem k_morphism_Valid : K_morphism_Valid Try.prog sF := by
  unfold K_morphism_Valid
  rw [show sF "morphism.Valid" = 48 by kernel_rfl]
  intro a b m
  refine FC.of' (rs := [.t 6]) (H := wMd h_morphism_Valid sMd) (lc := c_morphism_Valid sF) (n := 3) Try.func48 Try.mx ?a ?b ?c ?d ?e ?f
  case f =>
    have hw := w_morphism_Valid (P := Try.prog) (F := sF) k_graph_Valid a b m
    assumption
  case a => kernel_rfl
  case b => kernel_rfl
  case c => kernel_rfl
  case d => rfl
  case e => first | rfl | (simp only [List.all_cons, List.all_nil, Bool.and_true]; first | rfl | assumption | exact caps_ok hcs)
theorem k_pullback_given : K_pullback_given Try.prog sF := by
  unfold K_pullback_given
  rw [show sF "pullback.given" = 72 by kernel_rfl]
  intro s
  refine FC.of' (rs := [.t 2]) (H := wMd h_pullback_given sMd) (lc := c_pullback_given sF) (n := 1) Try.func72 Try.mx ?a ?b ?c ?d ?e ?f
  case f =>
    have hw := w_pullback_given (P := Try.prog) (F := sF) k_morphism_Valid s
    assumption
  case a => kernel_rfl
  case b => kernel_rfl
  case c => kernel_rfl
  case d => rfl
  case e => first | rfl | (simp only [List.all_cons, List.all_nil, Bool.and_true]; first | rfl | assumption | exact caps_ok hcs)
theorem k_pullback_pairs : K_pullback_pairs Try.prog sF := by
  unfold K_pullback_pairs
  rw [show sF "pullback.pairs" = 62 by kernel_rfl]
  intro f g hf hg
  refine FC.of' (rs := [.t 4]) (H := wMd h_pullback_pairs sMd) (lc := c_pullback_pairs sF) (n := 2) Try.func62 Try.mx ?a ?b ?c ?d ?e ?f
  case f =>
    have hw := w_pullback_pairs (P := Try.prog) (F := sF) f g hf hg
    assumption
  case a => kernel_rfl
  case b => kernel_rfl
  case c => kernel_rfl
  case d => rfl
  case e => first | rfl | (simp only [List.all_cons, List.all_nil, Bool.and_true]; first | rfl | assumption | exact caps_ok hcs)
theorem k_slices_Index_apiPair : K_slices_Index_apiPair Try.prog sF := by
  unfold K_slices_Index_apiPair
  rw [show sF "slices.Index.apiPair" = 73 by kernel_rfl]
  intro l a b hl
  refine FC.of' (rs := [.t 4]) (H := wMd h_slices_Index_apiPair sMd) (lc := c_slices_Index_apiPair sF) (n := 2) Try.func73 Try.mx ?a ?b ?c ?d ?e ?f
  case f =>
    have hw := w_slices_Index_apiPair (P := Try.prog) (F := sF) l a b hl
    assumption
  case a => kernel_rfl
  case b => kernel_rfl
  case c => kernel_rfl
  case d => rfl
  case e => first | rfl | (simp only [List.all_cons, List.all_nil, Bool.and_true]; first | rfl | assumption | exact caps_ok hcs)
theorem k_pullback_of : K_pullback_of Try.prog sF := by
  unfold K_pullback_of
  rw [show sF "pullback.of" = 42 by kernel_rfl]
  intro s
  refine FC.of' (rs := [.c 2 true 4, .t 3]) (H := wMd h_pullback_of sMd) (lc := c_pullback_of sF) (n := 1) Try.func42 Try.mx ?a ?b ?c ?d ?e ?f
  case f =>
    have hw := w_pullback_of (P := Try.prog) (F := sF) k_pullback_given k_pullback_pairs k_slices_Index_apiPair s
    assumption
  case a => kernel_rfl
  case b => kernel_rfl
  case c => kernel_rfl
  case d => rfl
  case e => first | rfl | (simp only [List.all_cons, List.all_nil, Bool.and_true]; first | rfl | assumption | exact caps_ok hcs)
theorem k_pullback_sides : K_pullback_sides Try.prog sF := by
  unfold K_pullback_sides
  rw [show sF "pullback.sides" = 43 by kernel_rfl]
  intro l hl
  refine FC.of' (rs := [.t 2, .t 3]) (H := wMd h_pullback_sides sMd) (lc := c_pullback_sides sF) (n := 1) Try.func43 Try.mx ?a ?b ?c ?d ?e ?f
  case f =>
    have hw := w_pullback_sides (P := Try.prog) (F := sF) l hl
    assumption
  case a => kernel_rfl
  case b => kernel_rfl
  case c => kernel_rfl
  case d => rfl
  case e => first | rfl | (simp only [List.all_cons, List.all_nil, Bool.and_true]; first | rfl | assumption | exact caps_ok hcs)
theorem k_pullback_Of : K_pullback_Of Try.prog sF := by
  unfold K_pullback_Of
  rw [show sF "pullback.Of" = 13 by kernel_rfl]
  intro s
  refine FC.of' (rs := [.c 2 true 2, .c 3 true 2, .c 4 true 2, .t 5]) (H := wMd h_pullback_Of sMd) (lc := c_pullback_Of sF) (n := 1) Try.func13 Try.mx ?a ?b ?c ?d ?e ?f
  case f =>
    have hw := w_pullback_Of (P := Try.prog) (F := sF) k_pullback_of k_pullback_sides s
    assumption
  case a => kernel_rfl
  case b => kernel_rfl
  case c => kernel_rfl
  case d => rfl
  case e => first | rfl | (simp only [List.all_cons, List.all_nil, Bool.and_true]; first | rfl | assumption | exact caps_ok hcs)
theorem k_pullback_meet : K_pullback_meet Try.prog sF := by
  unfold K_pullback_meet
  rw [show sF "pullback.meet" = 49 by kernel_rfl]
  intro l h k hl h1 h2
  refine FC.of' (rs := [.t 6, .t 7]) (H := wMd h_pullback_meet sMd) (lc := c_pullback_meet sF) (n := 3) Try.func49 Try.mx ?a ?b ?c ?d ?e ?f
  case f =>
    have hw := w_pullback_meet (P := Try.prog) (F := sF) k_slices_Index_apiPair l h k hl h1 h2
    assumption
  case a => kernel_rfl
  case b => kernel_rfl
  case c => kernel_rfl
  case d => rfl
  case e => first | rfl | (simp only [List.all_cons, List.all_nil, Bool.and_true]; first | rfl | assumption | exact caps_ok hcs)
theorem k_pullback_Mediate : K_pullback_Mediate Try.prog sF := by
  unfold K_pullback_Mediate
  rw [show sF "pullback.Mediate" = 17 by kernel_rfl]
  intro s x h k
  refine FC.of' (rs := [.c 8 true 2, .t 9]) (H := wMd h_pullback_Mediate sMd) (lc := c_pullback_Mediate sF) (n := 4) Try.func17 Try.mx ?a ?b ?c ?d ?e ?f
  case f =>
    have hw := w_pullback_Mediate (P := Try.prog) (F := sF) k_pullback_of k_morphism_Valid k_pullback_meet s x h k
    assumption
  case a => kernel_rfl
  case b => kernel_rfl
  case c => kernel_rfl
  case d => rfl
  case e => first | rfl | (simp only [List.all_cons, List.all_nil, Bool.and_true]; first | rfl | assumption | exact caps_ok hcs)
theorem k_slices_IndexFunc_apiPair : K_slices_IndexFunc_apiPair Try.prog sF := by
  unfold K_slices_IndexFunc_apiPair
  rw [show sF "slices.IndexFunc.apiPair" = 79 by kernel_rfl]
  intro l hl g cs hcs p hg
  refine FC.of' (rs := [.t 4]) (H := wMd h_slices_IndexFunc_apiPair sMd) (lc := c_slices_IndexFunc_apiPair sF) (n := 2) Try.func79 Try.mx ?a ?b ?c ?d ?e ?f
  case f =>
    have hw := w_slices_IndexFunc_apiPair (P := Try.prog) (F := sF) l hl g cs hcs p hg
    assumption
  case a => kernel_rfl
  case b => kernel_rfl
  case c => kernel_rfl
  case d => rfl
  case e => first | rfl | (simp only [List.all_cons, List.all_nil, Bool.and_true]; first | rfl | assumption | exact caps_ok hcs)
theorem k_slices_DeleteFunc_apiPair : K_slices_DeleteFunc_apiPair Try.prog sF := by
  unfold K_slices_DeleteFunc_apiPair
  rw [show sF "slices.DeleteFunc.apiPair" = 61 by kernel_rfl]
  intro l hl g cs hcs p hg
  refine FC.of' (rs := [.t 4]) (H := wMd h_slices_DeleteFunc_apiPair sMd) (lc := c_slices_DeleteFunc_apiPair sF) (n := 2) Try.func61 Try.mx ?a ?b ?c ?d ?e ?f
  case f =>
    have hw := w_slices_DeleteFunc_apiPair (P := Try.prog) (F := sF) k_slices_IndexFunc_apiPair l hl g cs hcs p hg
    assumption
  case a => kernel_rfl
  case b => kernel_rfl
  case c => kernel_rfl
  case d => rfl
  case e => first | rfl | (simp only [List.all_cons, List.all_nil, Bool.and_true]; first | rfl | assumption | exact caps_ok hcs)
theorem k_pullback_Kernel_1 : K_pullback_Kernel_1 Try.prog sF := by
  unfold K_pullback_Kernel_1
  rw [show sF "pullback.Kernel.1" = 60 by kernel_rfl]
  intro x
  refine FC.of' (rs := [.t 2]) (H := wMd h_pullback_Kernel_1 sMd) (lc := c_pullback_Kernel_1 sF) (n := 1) Try.func60 Try.mx ?a ?b ?c ?d ?e ?f
  case f =>
    have hw := w_pullback_Kernel_1 (P := Try.prog) (F := sF) x
    assumption
  case a => kernel_rfl
  case b => kernel_rfl
  case c => kernel_rfl
  case d => rfl
  case e => first | rfl | (simp only [List.all_cons, List.all_nil, Bool.and_true]; first | rfl | assumption | exact caps_ok hcs)
theorem k_pullback_Kernel : K_pullback_Kernel Try.prog sF := by
  unfold K_pullback_Kernel
  rw [show sF "pullback.Kernel" = 28 by kernel_rfl]
  intro a b m
  refine FC.of' (rs := [.t 6, .t 7, .t 8]) (H := wMd h_pullback_Kernel sMd) (lc := c_pullback_Kernel sF) (n := 3) Try.func28 Try.mx ?a ?b ?c ?d ?e ?f
  case f =>
    have hw := w_pullback_Kernel (P := Try.prog) (F := sF) k_morphism_Valid k_pullback_pairs k_slices_DeleteFunc_apiPair k_pullback_Kernel_1 a b m
    assumption
  case a => kernel_rfl
  case b => kernel_rfl
  case c => kernel_rfl
  case d => rfl
  case e => first | rfl | (simp only [List.all_cons, List.all_nil, Bool.and_true]; first | rfl | assumption | exact caps_ok hcs)
theorem k_slices_Equal_I : K_slices_Equal_I Try.prog sF := by
  unfold K_slices_Equal_I
  rw [show sF "slices.Equal.I" = 40 by kernel_rfl]
  intro a b hl
  refine FC.of' (rs := [.t 4]) (H := wMd h_slices_Equal_I sMd) (lc := c_slices_Equal_I sF) (n := 2) Try.func40 Try.mx ?a ?b ?c ?d ?e ?f
  case f =>
    have hw := w_slices_Equal_I (P := Try.prog) (F := sF) a b hl
    assumption
  case a => kernel_rfl
  case b => kernel_rfl
  case c => kernel_rfl
  case d => rfl
  case e => first | rfl | (simp only [List.all_cons, List.all_nil, Bool.and_true]; first | rfl | assumption | exact caps_ok hcs)
theorem k_r11_SamePairs : K_r11_SamePairs Try.prog sF := by
  unfold K_r11_SamePairs
  rw [show sF "r11.SamePairs" = 30 by kernel_rfl]
  intro a b hl
  refine FC.of' (rs := [.t 4]) (H := wMd h_r11_SamePairs sMd) (lc := c_r11_SamePairs sF) (n := 2) Try.func30 Try.mx ?a ?b ?c ?d ?e ?f
  case f =>
    have hw := w_r11_SamePairs (P := Try.prog) (F := sF) a b hl
    assumption
  case a => kernel_rfl
  case b => kernel_rfl
  case c => kernel_rfl
  case d => rfl
  case e => first | rfl | (simp only [List.all_cons, List.all_nil, Bool.and_true]; first | rfl | assumption | exact caps_ok hcs)
theorem k_l11_awake : K_l11_awake Try.prog sF := by
  unfold K_l11_awake
  rw [show sF "l11.awake" = 10 by kernel_rfl]
  refine FC.of' (rs := [.t 0]) (H := wMd h_l11_awake sMd) (lc := c_l11_awake sF) (n := 0) Try.func10 Try.mx ?a ?b ?c ?d ?e ?f
  case f =>
    have hw := w_l11_awake (P := Try.prog) (F := sF) k_l11_example k_pullback_Of k_pullback_Mediate k_pullback_Kernel k_slices_Equal_I k_r11_SamePairs
    assumption
  case a => kernel_rfl
  case b => kernel_rfl
  case c => kernel_rfl
  case d => rfl
  case e => first | rfl | (simp only [List.all_cons, List.all_nil, Bool.and_true]; first | rfl | assumption | exact caps_ok hcs)
theorem k_l11_few : K_l11_few Try.prog sF := by
  unfold K_l11_few
  rw [show sF "l11.few" = 11 by kernel_rfl]
  intro x hx
  refine FC.of' (rs := [.t 2]) (H := wMd h_l11_few sMd) (lc := c_l11_few sF) (n := 1) Try.func11 Try.mx ?a ?b ?c ?d ?e ?f
  case f =>
    have hw := w_l11_few (P := Try.prog) (F := sF) x hx
    assumption
  case a => kernel_rfl
  case b => kernel_rfl
  case c => kernel_rfl
  case d => rfl
  case e => first | rfl | (simp only [List.all_cons, List.all_nil, Bool.and_true]; first | rfl | assumption | exact caps_ok hcs)
theorem k_r05_Made : K_r05_Made Try.prog sF := by
  unfold K_r05_Made
  rw [show sF "r05.Made" = 41 by kernel_rfl]
  intro x hx h1 h2
  refine FC.of' (rs := [.c 2 true 2]) (H := wMd h_r05_Made sMd) (lc := c_r05_Made sF) (n := 1) Try.func41 Try.mx ?a ?b ?c ?d ?e ?f
  case f =>
    have hw := w_r05_Made (P := Try.prog) (F := sF) x hx h1 h2
    assumption
  case a => kernel_rfl
  case b => kernel_rfl
  case c => kernel_rfl
  case d => rfl
  case e => first | rfl | (simp only [List.all_cons, List.all_nil, Bool.and_true]; first | rfl | assumption | exact caps_ok hcs)
theorem k_r11_over : K_r11_over Try.prog sF := by
  unfold K_r11_over
  rw [show sF "r11.over" = 46 by kernel_rfl]
  intro l n hl
  refine FC.of' (rs := [.t 4]) (H := wMd h_r11_over sMd) (lc := c_r11_over sF) (n := 2) Try.func46 Try.mx ?a ?b ?c ?d ?e ?f
  case f =>
    have hw := w_r11_over (P := Try.prog) (F := sF) l n hl
    assumption
  case a => kernel_rfl
  case b => kernel_rfl
  case c => kernel_rfl
  case d => rfl
  case e => first | rfl | (simp only [List.all_cons, List.all_nil, Bool.and_true]; first | rfl | assumption | exact caps_ok hcs)
theorem k_r11_Over : K_r11_Over Try.prog sF := by
  unfold K_r11_Over
  rw [show sF "r11.Over" = 15 by kernel_rfl]
  intro d x vd hx h1 h2
  refine FC.of' (rs := [.c 4 true 2, .c 5 true 2]) (H := wMd h_r11_Over sMd) (lc := c_r11_Over sF) (n := 2) Try.func15 Try.mx ?a ?b ?c ?d ?e ?f
  case f =>
    have hw := w_r11_Over (P := Try.prog) (F := sF) k_r11_over d x vd hx h1 h2
    assumption
  case a => kernel_rfl
  case b => kernel_rfl
  case c => kernel_rfl
  case d => rfl
  case e => first | rfl | (simp only [List.all_cons, List.all_nil, Bool.and_true]; first | rfl | assumption | exact caps_ok hcs)
theorem k_r11_Made : K_r11_Made Try.prog sF := by
  unfold K_r11_Made
  rw [show sF "r11.Made" = 12 by kernel_rfl]
  intro x hx
  refine FC.of' (rs := [.c 2 true 10]) (H := wMd h_r11_Made sMd) (lc := c_r11_Made sF) (n := 1) Try.func12 Try.mx ?a ?b ?c ?d ?e ?f
  case f =>
    have hw := w_r11_Made (P := Try.prog) (F := sF) k_r05_Made k_r11_Over x hx
    assumption
  case a => kernel_rfl
  case b => kernel_rfl
  case c => kernel_rfl
  case d => rfl
  case e => first | rfl | (simp only [List.all_cons, List.all_nil, Bool.and_true]; first | rfl | assumption | exact caps_ok hcs)
theorem k_slices_Clone_I : K_slices_Clone_I Try.prog sF := by
  unfold K_slices_Clone_I
  rw [show sF "slices.Clone.I" = 88 by kernel_rfl]
  intro l hl
  refine FC.of' (rs := [.t 2]) (H := wMd h_slices_Clone_I sMd) (lc := c_slices_Clone_I sF) (n := 1) Try.func88 Try.mx ?a ?b ?c ?d ?e ?f
  case f =>
    have hw := w_slices_Clone_I (P := Try.prog) (F := sF) l hl
    assumption
  case a => kernel_rfl
  case b => kernel_rfl
  case c => kernel_rfl
  case d => rfl
  case e => first | rfl | (simp only [List.all_cons, List.all_nil, Bool.and_true]; first | rfl | assumption | exact caps_ok hcs)
def SortL_ren : Go.Shelf.Ren := ⟨fun | 189 => 89 | 125 => 94 | 257 => 93 | 128 => 104 | 129 => 105 | 294 => 95 | 295 => 96 | 296 => 97 | 297 => 98 | 298 => 99 | 299 => 100 | 216 => 101 | 300 => 102 | 301 => 103 | 328 => 106 | 329 => 107 | 330 => 108 | 331 => 109 | 332 => 110 | 215 => 111 | 343 => 112 | n => n, fun | 28 => 31 | 3 => 3 | 46 => 126 | 0 => 0 | 51 => 136 | 53 => 138 | 4 => 4 | 183 => 129 | 182 => 128 | 131 => 133 | 5 => 5 | 9 => 9 | 218 => 139 | 222 => 143 | 228 => 145 | 229 => 146 | n => n, fun | n => n⟩
theorem SortL : Go.Proofs.Lays.n189 Try.prog SortL_ren := {
  mixed := by kernel_rfl,
  f125 := Try.func94.trans (congrArg some (by kernel_rfl)),
  f128 := Try.func104.trans (congrArg some (by kernel_rfl)),
  f129 := Try.func105.trans (congrArg some (by kernel_rfl)),
  f189 := Try.func89.trans (congrArg some (by kernel_rfl)),
  f215 := Try.func111.trans (congrArg some (by kernel_rfl)),
  f216 := Try.func101.trans (congrArg some (by kernel_rfl)),
  f257 := Try.func93.trans (congrArg some (by kernel_rfl)),
  f294 := Try.func95.trans (congrArg some (by kernel_rfl)),
  f295 := Try.func96.trans (congrArg some (by kernel_rfl)),
  f296 := Try.func97.trans (congrArg some (by kernel_rfl)),
  f297 := Try.func98.trans (congrArg some (by kernel_rfl)),
  f298 := Try.func99.trans (congrArg some (by kernel_rfl)),
  f299 := Try.func100.trans (congrArg some (by kernel_rfl)),
  f300 := Try.func102.trans (congrArg some (by kernel_rfl)),
  f301 := Try.func103.trans (congrArg some (by kernel_rfl)),
  f328 := Try.func106.trans (congrArg some (by kernel_rfl)),
  f329 := Try.func107.trans (congrArg some (by kernel_rfl)),
  f330 := Try.func108.trans (congrArg some (by kernel_rfl)),
  f331 := Try.func109.trans (congrArg some (by kernel_rfl)),
  f332 := Try.func110.trans (congrArg some (by kernel_rfl)),
  f343 := Try.func112.trans (congrArg some (by kernel_rfl)),
  t0 := Try.underlying0,
  a0 := Try.isAgg0,
  z0 := Try.sizeOf0,
  v0 := Try.zeroValue0,
  t3 := Try.underlying3,
  a3 := Try.isAgg3,
  z3 := Try.sizeOf3,
  v3 := Try.zeroValue3,
  t4 := Try.underlying4,
  a4 := Try.isAgg4,
  z4 := Try.sizeOf4,
  v4 := Try.zeroValue4,
  t5 := Try.underlying5,
  a5 := Try.isAgg5,
  z5 := Try.sizeOf5,
  v5 := Try.zeroValue5,
  t9 := Try.underlying9,
  a9 := Try.isAgg9,
  z9 := Try.sizeOf9,
  v9 := Try.zeroValue9,
  t28 := Try.underlying31,
  a28 := Try.isAgg31,
  z28 := Try.sizeOf31,
  v28 := Try.zeroValue31,
  t46 := Try.underlying126,
  a46 := Try.isAgg126,
  z46 := Try.sizeOf126,
  v46 := Try.zeroValue126,
  t51 := Try.underlying136,
  a51 := Try.isAgg136,
  z51 := Try.sizeOf136,
  v51 := Try.zeroValue136,
  t53 := Try.underlying138,
  a53 := Try.isAgg138,
  z53 := Try.sizeOf138,
  v53 := Try.zeroValue138,
  t131 := Try.underlying133,
  a131 := Try.isAgg133,
  z131 := Try.sizeOf133,
  v131 := Try.zeroValue133,
  t182 := Try.underlying128,
  a182 := Try.isAgg128,
  z182 := Try.sizeOf128,
  v182 := Try.zeroValue128,
  t183 := Try.underlying129,
  a183 := Try.isAgg129,
  z183 := Try.sizeOf129,
  v183 := Try.zeroValue129,
  t218 := Try.underlying139,
  a218 := Try.isAgg139,
  z218 := Try.sizeOf139,
  v218 := Try.zeroValue139,
  t222 := Try.underlying143,
  a222 := Try.isAgg143,
  z222 := Try.sizeOf143,
  v222 := Try.zeroValue143,
  t228 := Try.underlying145,
  a228 := Try.isAgg145,
  z228 := Try.sizeOf145,
  v228 := Try.zeroValue145,
  t229 := Try.underlying146,
  a229 := Try.isAgg146,
  z229 := Try.sizeOf146,
  v229 := Try.zeroValue146 }
theorem k_slices_Sort_I : K_slices_Sort_I Try.prog sF := by
  unfold K_slices_Sort_I
  rw [show sF "slices.Sort.I" = 89 by kernel_rfl]
  intro l hl
  have hb : (Try.f89.body.isSome) = true := by kernel_rfl
  obtain ⟨body, hb⟩ := Option.isSome_iff_exists.1 hb
  exact sort_FC (callFunc_enter Try.func89 (by kernel_rfl) hb) (fun blk off cap zs w h1 h2 h3 => Go.Proofs.Any.slices_Sort_int SortL blk off cap zs w h1 h2 h3) (fun p cap w => Go.Proofs.Any.slices_Sort_int_none SortL p cap w) l hl
theorem k_slices_Compact_I : K_slices_Compact_I Try.prog sF := by
  unfold K_slices_Compact_I
  rw [show sF "slices.Compact.I" = 90 by kernel_rfl]
  intro l hl
  refine FC.of' (rs := [.t 2]) (H := wMd h_slices_Compact_I sMd) (lc := c_slices_Compact_I sF) (n := 1) Try.func90 Try.mx ?a ?b ?c ?d ?e ?f
  case f =>
    have hw := w_slices_Compact_I (P := Try.prog) (F := sF) l hl
    assumption
  case a => kernel_rfl
  case b => kernel_rfl
  case c => kernel_rfl
  case d => rfl
  case e => first | rfl | (simp only [List.all_cons, List.all_nil, Bool.and_true]; first | rfl | assumption | exact caps_ok hcs)
theorem k_morphism_images : K_morphism_images Try.prog sF := by
  unfold K_morphism_images
  rw [show sF "morphism.images" = 80 by kernel_rfl]
  intro l hl
  refine FC.of' (rs := [.t 2]) (H := wMd h_morphism_images sMd) (lc := c_morphism_images sF) (n := 1) Try.func80 Try.mx ?a ?b ?c ?d ?e ?f
  case f =>
    have hw := w_morphism_images (P := Try.prog) (F := sF) k_slices_Clone_I k_slices_Sort_I k_slices_Compact_I l hl
    assumption
  case a => kernel_rfl
  case b => kernel_rfl
  case c => kernel_rfl
  case d => rfl
  case e => first | rfl | (simp only [List.all_cons, List.all_nil, Bool.and_true]; first | rfl | assumption | exact caps_ok hcs)
theorem k_morphism_Injective : K_morphism_Injective Try.prog sF := by
  unfold K_morphism_Injective
  rw [show sF "morphism.Injective" = 68 by kernel_rfl]
  intro a b m
  refine FC.of' (rs := [.t 6]) (H := wMd h_morphism_Injective sMd) (lc := c_morphism_Injective sF) (n := 3) Try.func68 Try.mx ?a ?b ?c ?d ?e ?f
  case f =>
    have hw := w_morphism_Injective (P := Try.prog) (F := sF) k_morphism_Valid k_morphism_images a b m
    assumption
  case a => kernel_rfl
  case b => kernel_rfl
  case c => kernel_rfl
  case d => rfl
  case e => first | rfl | (simp only [List.all_cons, List.all_nil, Bool.and_true]; first | rfl | assumption | exact caps_ok hcs)
theorem k_morphism_Surjective : K_morphism_Surjective Try.prog sF := by
  unfold K_morphism_Surjective
  rw [show sF "morphism.Surjective" = 69 by kernel_rfl]
  intro a b m
  refine FC.of' (rs := [.t 6]) (H := wMd h_morphism_Surjective sMd) (lc := c_morphism_Surjective sF) (n := 3) Try.func69 Try.mx ?a ?b ?c ?d ?e ?f
  case f =>
    have hw := w_morphism_Surjective (P := Try.prog) (F := sF) k_morphism_Valid k_morphism_images a b m
    assumption
  case a => kernel_rfl
  case b => kernel_rfl
  case c => kernel_rfl
  case d => rfl
  case e => first | rfl | (simp only [List.all_cons, List.all_nil, Bool.and_true]; first | rfl | assumption | exact caps_ok hcs)
theorem k_pullback_Check : K_pullback_Check Try.prog sF := by
  unfold K_pullback_Check
  rw [show sF "pullback.Check" = 35 by kernel_rfl]
  intro s x h k
  refine FC.of' (rs := [.t 8]) (H := wMd h_pullback_Check sMd) (lc := c_pullback_Check sF) (n := 4) Try.func35 Try.mx ?a ?b ?c ?d ?e ?f
  case f =>
    have hw := w_pullback_Check (P := Try.prog) (F := sF) k_pullback_Mediate k_pullback_of k_morphism_Injective k_morphism_Surjective s x h k
    assumption
  case a => kernel_rfl
  case b => kernel_rfl
  case c => kernel_rfl
  case d => rfl
  case e => first | rfl | (simp only [List.all_cons, List.all_nil, Bool.and_true]; first | rfl | assumption | exact caps_ok hcs)
theorem k_l11_PullbackExchanged : K_l11_PullbackExchanged Try.prog sF := by
  unfold K_l11_PullbackExchanged
  rw [show sF "l11.PullbackExchanged" = 9 by kernel_rfl]
  intro x hx
  refine FC.of' (rs := [.t 2]) (H := wMd h_l11_PullbackExchanged sMd) (lc := c_l11_PullbackExchanged sF) (n := 1) Try.func9 Try.mx ?a ?b ?c ?d ?e ?f
  case f =>
    have hw := w_l11_PullbackExchanged (P := Try.prog) (F := sF) k_l11_awake k_l11_few k_r11_Made k_pullback_Of k_pullback_Check x hx
    assumption
  case a => kernel_rfl
  case b => kernel_rfl
  case c => kernel_rfl
  case d => rfl
  case e => first | rfl | (simp only [List.all_cons, List.all_nil, Bool.and_true]; first | rfl | assumption | exact caps_ok hcs)
end Go.Proofs.Ytkllpeebnabdiaa
