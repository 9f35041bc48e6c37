/- The functions of this seat, their contracts. Printed by seat.py. -/
import Derived.Test.YtkllpeebnabdiaaRows
import Derived.Test.YtkllpeebnabdiaaSnG
import Derived.KernelRfl
namespace Go.Proofs.Ytkllpeebnabdiaa
open Go Go.Am
attribute [local irreducible] W
set_option linter.unusedVariables false
set_option linter.unusedSimpArgs false
def sF : String → Nat := lkS [("l11.PullbackMono", 6), ("l11.awake", 10), ("l11.few", 11), ("r11.Made", 12), ("pullback.Of", 13), ("r05.Valid", 14), ("r11.Over", 15), ("r06.Then", 16), ("pullback.Mediate", 17), ("r06.Same", 18), ("r07.Image", 21), ("pullback.Equalizer", 26), ("pullback.Kernel", 28), ("r11.SamePairs", 30), ("r11.Of", 31), ("r07.In", 32), ("l11.example", 39), ("slices.Equal.I", 40), ("r05.Made", 41), ("pullback.of", 42), ("pullback.sides", 43), ("r05.kind", 44), ("r05.right", 45), ("r11.over", 46), ("r06.Through", 47), ("morphism.Valid", 48), ("pullback.meet", 49), ("r02.SameInts", 50), ("r06.Valid", 52), ("r07.merged", 54), ("r07.into", 56), ("pullback.equal", 58), ("pullback.Kernel.1", 60), ("slices.DeleteFunc.apiPair", 61), ("pullback.pairs", 62), ("r11.Valid", 64), ("r11.pairs", 65), ("r11.place", 66), ("r11.sides", 67), ("pullback.given", 72), ("slices.Index.apiPair", 73), ("graph.Valid", 74), ("r07.has", 77), ("slices.IndexFunc.apiPair", 79), ("slices.ContainsFunc.I", 82), ("graph.Valid.1", 83), ("graph.within", 84), ("slices.ContainsFunc.E", 85), ("graph.Valid.2", 86), ("graph.fits", 87), ("slices.IndexFunc.I", 91), ("slices.IndexFunc.E", 92)]
def sMd : Nat → List Md := lkM [(61, [.ow, .rd])]
theorem Try.mx : Try.prog.follows .mixedOrders = true := by kernel_rfl
theorem k_l11_example : K_l11_example Try.prog sF := by
  unfold K_l11_example
  rw [show sF "l11.example" = 39 by kernel_rfl]
  refine FC.ofF (rs := [.c 0 true 10]) (H := wMd h_l11_example sMd) (lc := c_l11_example sF) (n := 0) Try.func39 Try.mx ?a ?b ?c ?d ?e ?f
  case f =>
    have hw := w_l11_example (P := Try.prog) (F := sF) 
    assumption
  case a => kernel_rfl
  case b => kernel_rfl
  case c => kernel_rfl
  case d => rfl
  case e => first | rfl | (simp only [List.all_cons, List.all_nil, Bool.and_true]; first | rfl | assumption | exact caps_ok hcs)
theorem k_slices_IndexFunc_I : K_slices_IndexFunc_I Try.prog sF := by
  unfold K_slices_IndexFunc_I
  rw [show sF "slices.IndexFunc.I" = 91 by kernel_rfl]
  intro l hl g cs hcs p hg
  refine FC.of' (rs := [.t 4]) (H := wMd h_slices_IndexFunc_I sMd) (lc := c_slices_IndexFunc_I sF) (n := 2) Try.func91 Try.mx ?a ?b ?c ?d ?e ?f
  case f =>
    have hw := w_slices_IndexFunc_I (P := Try.prog) (F := sF) l hl g cs hcs p hg
    assumption
  case a => kernel_rfl
  case b => kernel_rfl
  case c => kernel_rfl
  case d => rfl
  case e => first | rfl | (simp only [List.all_cons, List.all_nil, Bool.and_true]; first | rfl | assumption | exact caps_ok hcs)
theorem k_slices_ContainsFunc_I : K_slices_ContainsFunc_I Try.prog sF := by
  unfold K_slices_ContainsFunc_I
  rw [show sF "slices.ContainsFunc.I" = 82 by kernel_rfl]
  intro l hl g cs hcs p hg
  refine FC.of' (rs := [.t 4]) (H := wMd h_slices_ContainsFunc_I sMd) (lc := c_slices_ContainsFunc_I sF) (n := 2) Try.func82 Try.mx ?a ?b ?c ?d ?e ?f
  case f =>
    have hw := w_slices_ContainsFunc_I (P := Try.prog) (F := sF) k_slices_IndexFunc_I l hl g cs hcs p hg
    assumption
  case a => kernel_rfl
  case b => kernel_rfl
  case c => kernel_rfl
  case d => rfl
  case e => first | rfl | (simp only [List.all_cons, List.all_nil, Bool.and_true]; first | rfl | assumption | exact caps_ok hcs)
theorem k_slices_IndexFunc_E : K_slices_IndexFunc_E Try.prog sF := by
  unfold K_slices_IndexFunc_E
  rw [show sF "slices.IndexFunc.E" = 92 by kernel_rfl]
  intro l hl g cs hcs p hg
  refine FC.of' (rs := [.t 4]) (H := wMd h_slices_IndexFunc_E sMd) (lc := c_slices_IndexFunc_E sF) (n := 2) Try.func92 Try.mx ?a ?b ?c ?d ?e ?f
  case f =>
    have hw := w_slices_IndexFunc_E (P := Try.prog) (F := sF) l hl g cs hcs p hg
    assumption
  case a => kernel_rfl
  case b => kernel_rfl
  case c => kernel_rfl
  case d => rfl
  case e => first | rfl | (simp only [List.all_cons, List.all_nil, Bool.and_true]; first | rfl | assumption | exact caps_ok hcs)
theorem k_slices_ContainsFunc_E : K_slices_ContainsFunc_E Try.prog sF := by
  unfold K_slices_ContainsFunc_E
  rw [show sF "slices.ContainsFunc.E" = 85 by kernel_rfl]
  intro l hl g cs hcs p hg
  refine FC.of' (rs := [.t 4]) (H := wMd h_slices_ContainsFunc_E sMd) (lc := c_slices_ContainsFunc_E sF) (n := 2) Try.func85 Try.mx ?a ?b ?c ?d ?e ?f
  case f =>
    have hw := w_slices_ContainsFunc_E (P := Try.prog) (F := sF) k_slices_IndexFunc_E l hl g cs hcs p hg
    assumption
  case a => kernel_rfl
  case b => kernel_rfl
  case c => kernel_rfl
  case d => rfl
  case e => first | rfl | (simp only [List.all_cons, List.all_nil, Bool.and_true]; first | rfl | assumption | exact caps_ok hcs)
theorem k_graph_within : K_graph_within Try.prog sF := by
  unfold K_graph_within
  rw [show sF "graph.within" = 84 by kernel_rfl]
  intro n m
  refine FC.of' (rs := [.t 4]) (H := wMd h_graph_within sMd) (lc := c_graph_within sF) (n := 2) Try.func84 Try.mx ?a ?b ?c ?d ?e ?f
  case f =>
    have hw := w_graph_within (P := Try.prog) (F := sF) n m
    assumption
  case a => kernel_rfl
  case b => kernel_rfl
  case c => kernel_rfl
  case d => rfl
  case e => first | rfl | (simp only [List.all_cons, List.all_nil, Bool.and_true]; first | rfl | assumption | exact caps_ok hcs)
theorem k_graph_Valid_1 : K_graph_Valid_1 Try.prog sF := by
  unfold K_graph_Valid_1
  rw [show sF "graph.Valid.1" = 83 by kernel_rfl]
  intro x
  refine FC.of' (rs := [.t 2]) (H := wMd h_graph_Valid_1 sMd) (lc := c_graph_Valid_1 sF) (n := 1) Try.func83 Try.mx ?a ?b ?c ?d ?e ?f
  case f =>
    have hw := w_graph_Valid_1 (P := Try.prog) (F := sF) k_graph_within x
    assumption
  case a => kernel_rfl
  case b => kernel_rfl
  case c => kernel_rfl
  case d => rfl
  case e => first | rfl | (simp only [List.all_cons, List.all_nil, Bool.and_true]; first | rfl | assumption | exact caps_ok hcs)
theorem k_graph_fits : K_graph_fits Try.prog sF := by
  unfold K_graph_fits
  rw [show sF "graph.fits" = 87 by kernel_rfl]
  intro x n hn
  refine FC.of' (rs := [.t 4]) (H := wMd h_graph_fits sMd) (lc := c_graph_fits sF) (n := 2) Try.func87 Try.mx ?a ?b ?c ?d ?e ?f
  case f =>
    have hw := w_graph_fits (P := Try.prog) (F := sF) k_graph_within x n hn
    assumption
  case a => kernel_rfl
  case b => kernel_rfl
  case c => kernel_rfl
  case d => rfl
  case e => first | rfl | (simp only [List.all_cons, List.all_nil, Bool.and_true]; first | rfl | assumption | exact caps_ok hcs)
theorem k_graph_Valid_2 : K_graph_Valid_2 Try.prog sF := by
  unfold K_graph_Valid_2
  rw [show sF "graph.Valid.2" = 86 by kernel_rfl]
  intro x ns es hn
  refine FC.of' (rs := [.t 3]) (H := wMd h_graph_Valid_2 sMd) (lc := c_graph_Valid_2 sF) (n := 2) Try.func86 Try.mx ?a ?b ?c ?d ?e ?f
  case f =>
    have hw := w_graph_Valid_2 (P := Try.prog) (F := sF) k_graph_fits x ns es hn
    assumption
  case a => kernel_rfl
  case b => kernel_rfl
  case c => kernel_rfl
  case d => rfl
  case e => first | rfl | (simp only [List.all_cons, List.all_nil, Bool.and_true]; first | rfl | assumption | exact caps_ok hcs)
theorem k_graph_Valid : K_graph_Valid Try.prog sF := by
  unfold K_graph_Valid
  rw [show sF "graph.Valid" = 74 by kernel_rfl]
  intro g
  refine FC.of' (rs := [.t 2]) (H := wMd h_graph_Valid sMd) (lc := c_graph_Valid sF) (n := 1) Try.func74 Try.mx ?a ?b ?c ?d ?e ?f
  case f =>
    have hw := w_graph_Valid (P := Try.prog) (F := sF) k_slices_ContainsFunc_I k_slices_ContainsFunc_E k_graph_Valid_1 k_graph_Valid_2 g
    assumption
  case a => kernel_rfl
  case b => kernel_rfl
  case c => kernel_rfl
  case d => rfl
  case e => first | rfl | (simp only [List.all_cons, List.all_nil, Bool.and_true]; first | rfl | assumption | exact caps_ok hcs)
theorem k_morphism_Valid : K_morphism_Valid Try.prog sF := by
  unfold K_morphism_Valid
  rw [show sF "morphism.Valid" = 48 by kernel_rfl]
  intro a b m
  refine FC.of' (rs := [.t 6]) (H := wMd h_morphism_Valid sMd) (lc := c_morphism_Valid sF) (n := 3) Try.func48 Try.mx ?a ?b ?c ?d ?e ?f
  case f =>
    have hw := w_morphism_Valid (P := Try.prog) (F := sF) k_graph_Valid a b m
    assumption
  case a => kernel_rfl
  case b => kernel_rfl
  case c => kernel_rfl
  case d => rfl
  case e => first | rfl | (simp only [List.all_cons, List.all_nil, Bool.and_true]; first | rfl | assumption | exact caps_ok hcs)
theorem k_pullback_given : K_pullback_given Try.prog sF := by
  unfold K_pullback_given
  rw [show sF "pullback.given" = 72 by kernel_rfl]
  intro s
  refine FC.of' (rs := [.t 2]) (H := wMd h_pullback_given sMd) (lc := c_pullback_given sF) (n := 1) Try.func72 Try.mx ?a ?b ?c ?d ?e ?f
  case f =>
    have hw := w_pullback_given (P := Try.prog) (F := sF) k_morphism_Valid s
    assumption
  case a => kernel_rfl
  case b => kernel_rfl
  case c => kernel_rfl
  case d => rfl
  case e => first | rfl | (simp only [List.all_cons, List.all_nil, Bool.and_true]; first | rfl | assumption | exact caps_ok hcs)
theorem k_pullback_pairs : K_pullback_pairs Try.prog sF := by
  unfold K_pullback_pairs
  rw [show sF "pullback.pairs" = 62 by kernel_rfl]
  intro f g hf hg
  refine FC.of' (rs := [.t 4]) (H := wMd h_pullback_pairs sMd) (lc := c_pullback_pairs sF) (n := 2) Try.func62 Try.mx ?a ?b ?c ?d ?e ?f
  case f =>
    have hw := w_pullback_pairs (P := Try.prog) (F := sF) f g hf hg
    assumption
  case a => kernel_rfl
  case b => kernel_rfl
  case c => kernel_rfl
  case d => rfl
  case e => first | rfl | (simp only [List.all_cons, List.all_nil, Bool.and_true]; first | rfl | assumption | exact caps_ok hcs)
theorem k_slices_Index_apiPair : K_slices_Index_apiPair Try.prog sF := by
  unfold K_slices_Index_apiPair
  rw [show sF "slices.Index.apiPair" = 73 by kernel_rfl]
  intro l a b hl
  refine FC.of' (rs := [.t 4]) (H := wMd h_slices_Index_apiPair sMd) (lc := c_slices_Index_apiPair sF) (n := 2) Try.func73 Try.mx ?a ?b ?c ?d ?e ?f
  case f =>
    have hw := w_slices_Index_apiPair (P := Try.prog) (F := sF) l a b hl
    assumption
  case a => kernel_rfl
  case b => kernel_rfl
  case c => kernel_rfl
  case d => rfl
  case e => first | rfl | (simp only [List.all_cons, List.all_nil, Bool.and_true]; first | rfl | assumption | exact caps_ok hcs)
theorem k_pullback_of : K_pullback_of Try.prog sF := by
  unfold K_pullback_of
  rw [show sF "pullback.of" = 42 by kernel_rfl]
  intro s
  refine FC.of' (rs := [.c 2 true 4, .t 3]) (H := wMd h_pullback_of sMd) (lc := c_pullback_of sF) (n := 1) Try.func42 Try.mx ?a ?b ?c ?d ?e ?f
  case f =>
    have hw := w_pullback_of (P := Try.prog) (F := sF) k_pullback_given k_pullback_pairs k_slices_Index_apiPair s
    assumption
  case a => kernel_rfl
  case b => kernel_rfl
  case c => kernel_rfl
  case d => rfl
  case e => first | rfl | (simp only [List.all_cons, List.all_nil, Bool.and_true]; first | rfl | assumption | exact caps_ok hcs)
theorem k_pullback_sides : K_pullback_sides Try.prog sF := by
  unfold K_pullback_sides
  rw [show sF "pullback.sides" = 43 by kernel_rfl]
  intro l hl
  refine FC.of' (rs := [.t 2, .t 3]) (H := wMd h_pullback_sides sMd) (lc := c_pullback_sides sF) (n := 1) Try.func43 Try.mx ?a ?b ?c ?d ?e ?f
  case f =>
    have hw := w_pullback_sides (P := Try.prog) (F := sF) l hl
    assumption
  case a => kernel_rfl
  case b => kernel_rfl
  case c => kernel_rfl
  case d => rfl
  case e => first | rfl | (simp only [List.all_cons, List.all_nil, Bool.and_true]; first | rfl | assumption | exact caps_ok hcs)
theorem k_pullback_Of : K_pullback_Of Try.prog sF := by
  unfold K_pullback_Of
  rw [show sF "pullback.Of" = 13 by kernel_rfl]
  intro s
  refine FC.of' (rs := [.c 2 true 2, .c 3 true 2, .c 4 true 2, .t 5]) (H := wMd h_pullback_Of sMd) (lc := c_pullback_Of sF) (n := 1) Try.func13 Try.mx ?a ?b ?c ?d ?e ?f
  case f =>
    have hw := w_pullback_Of (P := Try.prog) (F := sF) k_pullback_of k_pullback_sides s
    assumption
  case a => kernel_rfl
  case b => kernel_rfl
  case c => kernel_rfl
  case d => rfl
  case e => first | rfl | (simp only [List.all_cons, List.all_nil, Bool.and_true]; first | rfl | assumption | exact caps_ok hcs)
theorem k_pullback_meet : K_pullback_meet Try.prog sF := by
  unfold K_pullback_meet
  rw [show sF "pullback.meet" = 49 by kernel_rfl]
  intro l h k hl h1 h2
  refine FC.of' (rs := [.t 6, .t 7]) (H := wMd h_pullback_meet sMd) (lc := c_pullback_meet sF) (n := 3) Try.func49 Try.mx ?a ?b ?c ?d ?e ?f
  case f =>
    have hw := w_pullback_meet (P := Try.prog) (F := sF) k_slices_Index_apiPair l h k hl h1 h2
    assumption
  case a => kernel_rfl
  case b => kernel_rfl
  case c => kernel_rfl
  case d => rfl
  case e => first | rfl | (simp only [List.all_cons, List.all_nil, Bool.and_true]; first | rfl | assumption | exact caps_ok hcs)
theorem k_pullback_Mediate : K_pullback_Mediate Try.prog sF := by
  unfold K_pullback_Mediate
  rw [show sF "pullback.Mediate" = 17 by kernel_rfl]
  intro s x h k
  refine FC.of' (rs := [.c 8 true 2, .t 9]) (H := wMd h_pullback_Mediate sMd) (lc := c_pullback_Mediate sF) (n := 4) Try.func17 Try.mx ?a ?b ?c ?d ?e ?f
  case f =>
    have hw := w_pullback_Mediate (P := Try.prog) (F := sF) k_pullback_of k_morphism_Valid k_pullback_meet s x h k
    assumption
  case a => kernel_rfl
  case b => kernel_rfl
  case c => kernel_rfl
  case d => rfl
  case e => first | rfl | (simp only [List.all_cons, List.all_nil, Bool.and_true]; first | rfl | assumption | exact caps_ok hcs)
theorem k_slices_IndexFunc_apiPair : K_slices_IndexFunc_apiPair Try.prog sF := by
  unfold K_slices_IndexFunc_apiPair
  rw [show sF "slices.IndexFunc.apiPair" = 79 by kernel_rfl]
  intro l hl g cs hcs p hg
  refine FC.of' (rs := [.t 4]) (H := wMd h_slices_IndexFunc_apiPair sMd) (lc := c_slices_IndexFunc_apiPair sF) (n := 2) Try.func79 Try.mx ?a ?b ?c ?d ?e ?f
  case f =>
    have hw := w_slices_IndexFunc_apiPair (P := Try.prog) (F := sF) l hl g cs hcs p hg
    assumption
  case a => kernel_rfl
  case b => kernel_rfl
  case c => kernel_rfl
  case d => rfl
  case e => first | rfl | (simp only [List.all_cons, List.all_nil, Bool.and_true]; first | rfl | assumption | exact caps_ok hcs)
theorem k_slices_DeleteFunc_apiPair : K_slices_DeleteFunc_apiPair Try.prog sF := by
  unfold K_slices_DeleteFunc_apiPair
  rw [show sF "slices.DeleteFunc.apiPair" = 61 by kernel_rfl]
  intro l hl g cs hcs p hg
  refine FC.of' (rs := [.t 4]) (H := wMd h_slices_DeleteFunc_apiPair sMd) (lc := c_slices_DeleteFunc_apiPair sF) (n := 2) Try.func61 Try.mx ?a ?b ?c ?d ?e ?f
  case f =>
    have hw := w_slices_DeleteFunc_apiPair (P := Try.prog) (F := sF) k_slices_IndexFunc_apiPair l hl g cs hcs p hg
    assumption
  case a => kernel_rfl
  case b => kernel_rfl
  case c => kernel_rfl
  case d => rfl
  case e => first | rfl | (simp only [List.all_cons, List.all_nil, Bool.and_true]; first | rfl | assumption | exact caps_ok hcs)
theorem k_pullback_Kernel_1 : K_pullback_Kernel_1 Try.prog sF := by
  unfold K_pullback_Kernel_1
  rw [show sF "pullback.Kernel.1" = 60 by kernel_rfl]
  intro x
  refine FC.of' (rs := [.t 2]) (H := wMd h_pullback_Kernel_1 sMd) (lc := c_pullback_Kernel_1 sF) (n := 1) Try.func60 Try.mx ?a ?b ?c ?d ?e ?f
  case f =>
    have hw := w_pullback_Kernel_1 (P := Try.prog) (F := sF) x
    assumption
  case a => kernel_rfl
  case b => kernel_rfl
  case c => kernel_rfl
  case d => rfl
  case e => first | rfl | (simp only [List.all_cons, List.all_nil, Bool.and_true]; first | rfl | assumption | exact caps_ok hcs)
theorem k_pullback_Kernel : K_pullback_Kernel Try.prog sF := by
  unfold K_pullback_Kernel
  rw [show sF "pullback.Kernel" = 28 by kernel_rfl]
  intro a b m
  refine FC.of' (rs := [.t 6, .t 7, .t 8]) (H := wMd h_pullback_Kernel sMd) (lc := c_pullback_Kernel sF) (n := 3) Try.func28 Try.mx ?a ?b ?c ?d ?e ?f
  case f =>
    have hw := w_pullback_Kernel (P := Try.prog) (F := sF) k_morphism_Valid k_pullback_pairs k_slices_DeleteFunc_apiPair k_pullback_Kernel_1 a b m
    assumption
  case a => kernel_rfl
  case b => kernel_rfl
  case c => kernel_rfl
  case d => rfl
  case e => first | rfl | (simp only [List.all_cons, List.all_nil, Bool.and_true]; first | rfl | assumption | exact caps_ok hcs)
theorem k_slices_Equal_I : K_slices_Equal_I Try.prog sF := by
  unfold K_slices_Equal_I
  rw [show sF "slices.Equal.I" = 40 by kernel_rfl]
  intro a b hl
  refine FC.of' (rs := [.t 4]) (H := wMd h_slices_Equal_I sMd) (lc := c_slices_Equal_I sF) (n := 2) Try.func40 Try.mx ?a ?b ?c ?d ?e ?f
  case f =>
    have hw := w_slices_Equal_I (P := Try.prog) (F := sF) a b hl
    assumption
  case a => kernel_rfl
  case b => kernel_rfl
  case c => kernel_rfl
  case d => rfl
  case e => first | rfl | (simp only [List.all_cons, List.all_nil, Bool.and_true]; first | rfl | assumption | exact caps_ok hcs)
theorem k_r11_SamePairs : K_r11_SamePairs Try.prog sF := by
  unfold K_r11_SamePairs
  rw [show sF "r11.SamePairs" = 30 by kernel_rfl]
  intro a b hl
  refine FC.of' (rs := [.t 4]) (H := wMd h_r11_SamePairs sMd) (lc := c_r11_SamePairs sF) (n := 2) Try.func30 Try.mx ?a ?b ?c ?d ?e ?f
  case f =>
    have hw := w_r11_SamePairs (P := Try.prog) (F := sF) a b hl
    assumption
  case a => kernel_rfl
  case b => kernel_rfl
  case c => kernel_rfl
  case d => rfl
  case e => first | rfl | (simp only [List.all_cons, List.all_nil, Bool.and_true]; first | rfl | assumption | exact caps_ok hcs)
theorem k_l11_awake : K_l11_awake Try.prog sF := by
  unfold K_l11_awake
  rw [show sF "l11.awake" = 10 by kernel_rfl]
  refine FC.of' (rs := [.t 0]) (H := wMd h_l11_awake sMd) (lc := c_l11_awake sF) (n := 0) Try.func10 Try.mx ?a ?b ?c ?d ?e ?f
  case f =>
    have hw := w_l11_awake (P := Try.prog) (F := sF) k_l11_example k_pullback_Of k_pullback_Mediate k_pullback_Kernel k_slices_Equal_I k_r11_SamePairs
    assumption
  case a => kernel_rfl
  case b => kernel_rfl
  case c => kernel_rfl
  case d => rfl
  case e => first | rfl | (simp only [List.all_cons, List.all_nil, Bool.and_true]; first | rfl | assumption | exact caps_ok hcs)
theorem k_l11_few : K_l11_few Try.prog sF := by
  unfold K_l11_few
  rw [show sF "l11.few" = 11 by kernel_rfl]
  intro x hx
  refine FC.of' (rs := [.t 2]) (H := wMd h_l11_few sMd) (lc := c_l11_few sF) (n := 1) Try.func11 Try.mx ?a ?b ?c ?d ?e ?f
  case f =>
    have hw := w_l11_few (P := Try.prog) (F := sF) x hx
    assumption
  case a => kernel_rfl
  case b => kernel_rfl
  case c => kernel_rfl
  case d => rfl
  case e => first | rfl | (simp only [List.all_cons, List.all_nil, Bool.and_true]; first | rfl | assumption | exact caps_ok hcs)
theorem k_r05_Made : K_r05_Made Try.prog sF := by
  unfold K_r05_Made
  rw [show sF "r05.Made" = 41 by kernel_rfl]
  intro x hx h1 h2
  refine FC.of' (rs := [.c 2 true 2]) (H := wMd h_r05_Made sMd) (lc := c_r05_Made sF) (n := 1) Try.func41 Try.mx ?a ?b ?c ?d ?e ?f
  case f =>
    have hw := w_r05_Made (P := Try.prog) (F := sF) x hx h1 h2
    assumption
  case a => kernel_rfl
  case b => kernel_rfl
  case c => kernel_rfl
  case d => rfl
  case e => first | rfl | (simp only [List.all_cons, List.all_nil, Bool.and_true]; first | rfl | assumption | exact caps_ok hcs)
theorem k_r11_over : K_r11_over Try.prog sF := by
  unfold K_r11_over
  rw [show sF "r11.over" = 46 by kernel_rfl]
  intro l n hl
  refine FC.of' (rs := [.t 4]) (H := wMd h_r11_over sMd) (lc := c_r11_over sF) (n := 2) Try.func46 Try.mx ?a ?b ?c ?d ?e ?f
  case f =>
    have hw := w_r11_over (P := Try.prog) (F := sF) l n hl
    assumption
  case a => kernel_rfl
  case b => kernel_rfl
  case c => kernel_rfl
  case d => rfl
  case e => first | rfl | (simp only [List.all_cons, List.all_nil, Bool.and_true]; first | rfl | assumption | exact caps_ok hcs)
theorem k_r11_Over : K_r11_Over Try.prog sF := by
  unfold K_r11_Over
  rw [show sF "r11.Over" = 15 by kernel_rfl]
  intro d x vd hx h1 h2
  refine FC.of' (rs := [.c 4 true 2, .c 5 true 2]) (H := wMd h_r11_Over sMd) (lc := c_r11_Over sF) (n := 2) Try.func15 Try.mx ?a ?b ?c ?d ?e ?f
  case f =>
    have hw := w_r11_Over (P := Try.prog) (F := sF) k_r11_over d x vd hx h1 h2
    assumption
  case a => kernel_rfl
  case b => kernel_rfl
  case c => kernel_rfl
  case d => rfl
  case e => first | rfl | (simp only [List.all_cons, List.all_nil, Bool.and_true]; first | rfl | assumption | exact caps_ok hcs)
theorem k_r11_Made : K_r11_Made Try.prog sF := by
  unfold K_r11_Made
  rw [show sF "r11.Made" = 12 by kernel_rfl]
  intro x hx
  refine FC.of' (rs := [.c 2 true 10]) (H := wMd h_r11_Made sMd) (lc := c_r11_Made sF) (n := 1) Try.func12 Try.mx ?a ?b ?c ?d ?e ?f
  case f =>
    have hw := w_r11_Made (P := Try.prog) (F := sF) k_r05_Made k_r11_Over x hx
    assumption
  case a => kernel_rfl
  case b => kernel_rfl
  case c => kernel_rfl
  case d => rfl
  case e => first | rfl | (simp only [List.all_cons, List.all_nil, Bool.and_true]; first | rfl | assumption | exact caps_ok hcs)
theorem k_r05_kind : K_r05_kind Try.prog sF := by
  unfold K_r05_kind
  rw [show sF "r05.kind" = 44 by kernel_rfl]
  intro n
  refine FC.of' (rs := [.t 2]) (H := wMd h_r05_kind sMd) (lc := c_r05_kind sF) (n := 1) Try.func44 Try.mx ?a ?b ?c ?d ?e ?f
  case f =>
    have hw := w_r05_kind (P := Try.prog) (F := sF) n
    assumption
  case a => kernel_rfl
  case b => kernel_rfl
  case c => kernel_rfl
  case d => rfl
  case e => first | rfl | (simp only [List.all_cons, List.all_nil, Bool.and_true]; first | rfl | assumption | exact caps_ok hcs)
theorem k_r05_right : K_r05_right Try.prog sF := by
  unfold K_r05_right
  rw [show sF "r05.right" = 45 by kernel_rfl]
  intro x n
  refine FC.of' (rs := [.t 4]) (H := wMd h_r05_right sMd) (lc := c_r05_right sF) (n := 2) Try.func45 Try.mx ?a ?b ?c ?d ?e ?f
  case f =>
    have hw := w_r05_right (P := Try.prog) (F := sF) k_r05_kind x n
    assumption
  case a => kernel_rfl
  case b => kernel_rfl
  case c => kernel_rfl
  case d => rfl
  case e => first | rfl | (simp only [List.all_cons, List.all_nil, Bool.and_true]; first | rfl | assumption | exact caps_ok hcs)
theorem k_r05_Valid : K_r05_Valid Try.prog sF := by
  unfold K_r05_Valid
  rw [show sF "r05.Valid" = 14 by kernel_rfl]
  intro g
  refine FC.of' (rs := [.t 2]) (H := wMd h_r05_Valid sMd) (lc := c_r05_Valid sF) (n := 1) Try.func14 Try.mx ?a ?b ?c ?d ?e ?f
  case f =>
    have hw := w_r05_Valid (P := Try.prog) (F := sF) k_r05_kind k_r05_right g
    assumption
  case a => kernel_rfl
  case b => kernel_rfl
  case c => kernel_rfl
  case d => rfl
  case e => first | rfl | (simp only [List.all_cons, List.all_nil, Bool.and_true]; first | rfl | assumption | exact caps_ok hcs)
theorem k_r06_Valid : K_r06_Valid Try.prog sF := by
  unfold K_r06_Valid
  rw [show sF "r06.Valid" = 52 by kernel_rfl]
  intro a b m
  refine FC.of' (rs := [.t 6]) (H := wMd h_r06_Valid sMd) (lc := c_r06_Valid sF) (n := 3) Try.func52 Try.mx ?a ?b ?c ?d ?e ?f
  case f =>
    have hw := w_r06_Valid (P := Try.prog) (F := sF) k_r05_Valid a b m
    assumption
  case a => kernel_rfl
  case b => kernel_rfl
  case c => kernel_rfl
  case d => rfl
  case e => first | rfl | (simp only [List.all_cons, List.all_nil, Bool.and_true]; first | rfl | assumption | exact caps_ok hcs)
theorem k_r11_Valid : K_r11_Valid Try.prog sF := by
  unfold K_r11_Valid
  rw [show sF "r11.Valid" = 64 by kernel_rfl]
  intro s
  refine FC.of' (rs := [.t 2]) (H := wMd h_r11_Valid sMd) (lc := c_r11_Valid sF) (n := 1) Try.func64 Try.mx ?a ?b ?c ?d ?e ?f
  case f =>
    have hw := w_r11_Valid (P := Try.prog) (F := sF) k_r06_Valid s
    assumption
  case a => kernel_rfl
  case b => kernel_rfl
  case c => kernel_rfl
  case d => rfl
  case e => first | rfl | (simp only [List.all_cons, List.all_nil, Bool.and_true]; first | rfl | assumption | exact caps_ok hcs)
theorem k_r11_pairs : K_r11_pairs Try.prog sF := by
  unfold K_r11_pairs
  rw [show sF "r11.pairs" = 65 by kernel_rfl]
  intro f g m hf hg hm
  refine FC.of' (rs := [.t 6]) (H := wMd h_r11_pairs sMd) (lc := c_r11_pairs sF) (n := 3) Try.func65 Try.mx ?a ?b ?c ?d ?e ?f
  case f =>
    have hw := w_r11_pairs (P := Try.prog) (F := sF) f g m hf hg hm
    assumption
  case a => kernel_rfl
  case b => kernel_rfl
  case c => kernel_rfl
  case d => rfl
  case e => first | rfl | (simp only [List.all_cons, List.all_nil, Bool.and_true]; first | rfl | assumption | exact caps_ok hcs)
theorem k_r11_place : K_r11_place Try.prog sF := by
  unfold K_r11_place
  rw [show sF "r11.place" = 66 by kernel_rfl]
  intro l a b hl
  refine FC.of' (rs := [.t 6]) (H := wMd h_r11_place sMd) (lc := c_r11_place sF) (n := 3) Try.func66 Try.mx ?a ?b ?c ?d ?e ?f
  case f =>
    have hw := w_r11_place (P := Try.prog) (F := sF) l a b hl
    assumption
  case a => kernel_rfl
  case b => kernel_rfl
  case c => kernel_rfl
  case d => rfl
  case e => first | rfl | (simp only [List.all_cons, List.all_nil, Bool.and_true]; first | rfl | assumption | exact caps_ok hcs)
theorem k_r11_sides : K_r11_sides Try.prog sF := by
  unfold K_r11_sides
  rw [show sF "r11.sides" = 67 by kernel_rfl]
  intro l hl
  refine FC.of' (rs := [.t 2, .t 3]) (H := wMd h_r11_sides sMd) (lc := c_r11_sides sF) (n := 1) Try.func67 Try.mx ?a ?b ?c ?d ?e ?f
  case f =>
    have hw := w_r11_sides (P := Try.prog) (F := sF) l hl
    assumption
  case a => kernel_rfl
  case b => kernel_rfl
  case c => kernel_rfl
  case d => rfl
  case e => first | rfl | (simp only [List.all_cons, List.all_nil, Bool.and_true]; first | rfl | assumption | exact caps_ok hcs)
theorem k_r11_Of : K_r11_Of Try.prog sF := by
  unfold K_r11_Of
  rw [show sF "r11.Of" = 31 by kernel_rfl]
  intro s
  refine FC.of' (rs := [.c 2 true 2, .c 3 true 2, .c 4 true 2, .t 5]) (H := wMd h_r11_Of sMd) (lc := c_r11_Of sF) (n := 1) Try.func31 Try.mx ?a ?b ?c ?d ?e ?f
  case f =>
    have hw := w_r11_Of (P := Try.prog) (F := sF) k_r11_Valid k_r11_pairs k_r11_place k_r11_sides s
    assumption
  case a => kernel_rfl
  case b => kernel_rfl
  case c => kernel_rfl
  case d => rfl
  case e => first | rfl | (simp only [List.all_cons, List.all_nil, Bool.and_true]; first | rfl | assumption | exact caps_ok hcs)
theorem k_pullback_equal : K_pullback_equal Try.prog sF := by
  unfold K_pullback_equal
  rw [show sF "pullback.equal" = 58 by kernel_rfl]
  intro f g hf hg
  refine FC.of' (rs := [.t 4]) (H := wMd h_pullback_equal sMd) (lc := c_pullback_equal sF) (n := 2) Try.func58 Try.mx ?a ?b ?c ?d ?e ?f
  case f =>
    have hw := w_pullback_equal (P := Try.prog) (F := sF) f g hf hg
    assumption
  case a => kernel_rfl
  case b => kernel_rfl
  case c => kernel_rfl
  case d => rfl
  case e => first | rfl | (simp only [List.all_cons, List.all_nil, Bool.and_true]; first | rfl | assumption | exact caps_ok hcs)
theorem k_pullback_Equalizer : K_pullback_Equalizer Try.prog sF := by
  unfold K_pullback_Equalizer
  rw [show sF "pullback.Equalizer" = 26 by kernel_rfl]
  intro a b f g
  refine FC.of' (rs := [.c 8 true 2, .t 9]) (H := wMd h_pullback_Equalizer sMd) (lc := c_pullback_Equalizer sF) (n := 4) Try.func26 Try.mx ?a ?b ?c ?d ?e ?f
  case f =>
    have hw := w_pullback_Equalizer (P := Try.prog) (F := sF) k_morphism_Valid k_pullback_equal a b f g
    assumption
  case a => kernel_rfl
  case b => kernel_rfl
  case c => kernel_rfl
  case d => rfl
  case e => first | rfl | (simp only [List.all_cons, List.all_nil, Bool.and_true]; first | rfl | assumption | exact caps_ok hcs)
theorem k_r07_has : K_r07_has Try.prog sF := by
  unfold K_r07_has
  rw [show sF "r07.has" = 77 by kernel_rfl]
  intro l n hl
  refine FC.of' (rs := [.t 4]) (H := wMd h_r07_has sMd) (lc := c_r07_has sF) (n := 2) Try.func77 Try.mx ?a ?b ?c ?d ?e ?f
  case f =>
    have hw := w_r07_has (P := Try.prog) (F := sF) l n hl
    assumption
  case a => kernel_rfl
  case b => kernel_rfl
  case c => kernel_rfl
  case d => rfl
  case e => first | rfl | (simp only [List.all_cons, List.all_nil, Bool.and_true]; first | rfl | assumption | exact caps_ok hcs)
theorem k_r07_merged : K_r07_merged Try.prog sF := by
  unfold K_r07_merged
  rw [show sF "r07.merged" = 54 by kernel_rfl]
  intro n l hn hl
  refine FC.of' (rs := [.t 8]) (H := wMd h_r07_merged sMd) (lc := c_r07_merged sF) (n := 4) Try.func54 Try.mx ?a ?b ?c ?d ?e ?f
  case f =>
    have hw := w_r07_merged (P := Try.prog) (F := sF) k_r07_has n l hn hl
    assumption
  case a => kernel_rfl
  case b => kernel_rfl
  case c => kernel_rfl
  case d => rfl
  case e => first | rfl | (simp only [List.all_cons, List.all_nil, Bool.and_true]; first | rfl | assumption | exact caps_ok hcs)
theorem k_r07_Image : K_r07_Image Try.prog sF := by
  unfold K_r07_Image
  rw [show sF "r07.Image" = 21 by kernel_rfl]
  intro a b m h
  refine FC.of' (rs := [.c 6 true 2, .t 7]) (H := wMd h_r07_Image sMd) (lc := c_r07_Image sF) (n := 3) Try.func21 Try.mx ?a ?b ?c ?d ?e ?f
  case f =>
    have hw := w_r07_Image (P := Try.prog) (F := sF) k_r06_Valid k_r07_merged a b m h
    assumption
  case a => kernel_rfl
  case b => kernel_rfl
  case c => kernel_rfl
  case d => rfl
  case e => first | rfl | (simp only [List.all_cons, List.all_nil, Bool.and_true]; first | rfl | assumption | exact caps_ok hcs)
theorem k_r07_into : K_r07_into Try.prog sF := by
  unfold K_r07_into
  rw [show sF "r07.into" = 56 by kernel_rfl]
  intro l p hl hp
  refine FC.of' (rs := [.t 4]) (H := wMd h_r07_into sMd) (lc := c_r07_into sF) (n := 2) Try.func56 Try.mx ?a ?b ?c ?d ?e ?f
  case f =>
    have hw := w_r07_into (P := Try.prog) (F := sF) k_r07_has l p hl hp
    assumption
  case a => kernel_rfl
  case b => kernel_rfl
  case c => kernel_rfl
  case d => rfl
  case e => first | rfl | (simp only [List.all_cons, List.all_nil, Bool.and_true]; first | rfl | assumption | exact caps_ok hcs)
theorem k_r07_In : K_r07_In Try.prog sF := by
  unfold K_r07_In
  rw [show sF "r07.In" = 32 by kernel_rfl]
  intro p q l1 l2 l3 l4
  refine FC.of' (rs := [.t 4]) (H := wMd h_r07_In sMd) (lc := c_r07_In sF) (n := 2) Try.func32 Try.mx ?a ?b ?c ?d ?e ?f
  case f =>
    have hw := w_r07_In (P := Try.prog) (F := sF) k_r07_into p q l1 l2 l3 l4
    assumption
  case a => kernel_rfl
  case b => kernel_rfl
  case c => kernel_rfl
  case d => rfl
  case e => first | rfl | (simp only [List.all_cons, List.all_nil, Bool.and_true]; first | rfl | assumption | exact caps_ok hcs)
theorem k_r06_Through : K_r06_Through Try.prog sF := by
  unfold K_r06_Through
  rw [show sF "r06.Through" = 47 by kernel_rfl]
  intro l b hl hb
  refine FC.of' (rs := [.t 4]) (H := wMd h_r06_Through sMd) (lc := c_r06_Through sF) (n := 2) Try.func47 Try.mx ?a ?b ?c ?d ?e ?f
  case f =>
    have hw := w_r06_Through (P := Try.prog) (F := sF) l b hl hb
    assumption
  case a => kernel_rfl
  case b => kernel_rfl
  case c => kernel_rfl
  case d => rfl
  case e => first | rfl | (simp only [List.all_cons, List.all_nil, Bool.and_true]; first | rfl | assumption | exact caps_ok hcs)
theorem k_r06_Then : K_r06_Then Try.prog sF := by
  unfold K_r06_Then
  rw [show sF "r06.Then" = 16 by kernel_rfl]
  intro m n h1 h2 h3 h4
  refine FC.of' (rs := [.c 4 true 2]) (H := wMd h_r06_Then sMd) (lc := c_r06_Then sF) (n := 2) Try.func16 Try.mx ?a ?b ?c ?d ?e ?f
  case f =>
    have hw := w_r06_Then (P := Try.prog) (F := sF) k_r06_Through m n h1 h2 h3 h4
    assumption
  case a => kernel_rfl
  case b => kernel_rfl
  case c => kernel_rfl
  case d => rfl
  case e => first | rfl | (simp only [List.all_cons, List.all_nil, Bool.and_true]; first | rfl | assumption | exact caps_ok hcs)
theorem k_r02_SameInts : K_r02_SameInts Try.prog sF := by
  unfold K_r02_SameInts
  rw [show sF "r02.SameInts" = 50 by kernel_rfl]
  intro a b hl
  refine FC.of' (rs := [.t 4]) (H := wMd h_r02_SameInts sMd) (lc := c_r02_SameInts sF) (n := 2) Try.func50 Try.mx ?a ?b ?c ?d ?e ?f
  case f =>
    have hw := w_r02_SameInts (P := Try.prog) (F := sF) a b hl
    assumption
  case a => kernel_rfl
  case b => kernel_rfl
  case c => kernel_rfl
  case d => rfl
  case e => first | rfl | (simp only [List.all_cons, List.all_nil, Bool.and_true]; first | rfl | assumption | exact caps_ok hcs)
theorem k_r06_Same : K_r06_Same Try.prog sF := by
  unfold K_r06_Same
  rw [show sF "r06.Same" = 18 by kernel_rfl]
  intro a b h1 h2
  refine FC.of' (rs := [.t 4]) (H := wMd h_r06_Same sMd) (lc := c_r06_Same sF) (n := 2) Try.func18 Try.mx ?a ?b ?c ?d ?e ?f
  case f =>
    have hw := w_r06_Same (P := Try.prog) (F := sF) k_r02_SameInts a b h1 h2
    assumption
  case a => kernel_rfl
  case b => kernel_rfl
  case c => kernel_rfl
  case d => rfl
  case e => first | rfl | (simp only [List.all_cons, List.all_nil, Bool.and_true]; first | rfl | assumption | exact caps_ok hcs)
theorem k_l11_PullbackMono : K_l11_PullbackMono Try.prog sF := by
  unfold K_l11_PullbackMono
  rw [show sF "l11.PullbackMono" = 6 by kernel_rfl]
  intro x y hx hy ly1 ly2
  refine FC.of' (rs := [.t 4]) (H := wMd h_l11_PullbackMono sMd) (lc := c_l11_PullbackMono sF) (n := 2) Try.func6 Try.mx ?a ?b ?c ?d ?e ?f
  case f =>
    have hw := w_l11_PullbackMono (P := Try.prog) (F := sF) k_l11_awake k_l11_few k_r11_Made k_r11_Of k_r11_Over k_pullback_Equalizer k_r07_Image k_r07_In k_r06_Then k_r06_Same x y hx hy ly1 ly2
    assumption
  case a => kernel_rfl
  case b => kernel_rfl
  case c => kernel_rfl
  case d => rfl
  case e => first | rfl | (simp only [List.all_cons, List.all_nil, Bool.and_true]; first | rfl | assumption | exact caps_ok hcs)
end Go.Proofs.Ytkllpeebnabdiaa
