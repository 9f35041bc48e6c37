/- The functions of this seat, their contracts. Printed by seat.py. -/
import Derived.Test.YtfkkngepnnkloaaRows
import Derived.Test.YtfkkngepnnkloaaSjL
import Derived.KernelRfl
namespace Go.Proofs.Ytfkkngepnnkloaa
open Go Go.Am
set_option linter.unusedVariables false
set_option linter.unusedSimpArgs false
def sF : String → Nat := lkS [("l05.GraphUnion", 7), ("l05.awake", 10), ("r05.Few", 11), ("graph.Remove", 12), ("r05.Copied", 13), ("r05.Same", 16), ("l05.same", 17), ("graph.Components", 20), ("slices.Equal.I", 22), ("graph.Valid", 26), ("r05.Valid", 27), ("graph.Union", 31), ("r05.Union", 32), ("r05.Numbers", 37), ("l05.example", 38), ("graph.ascending", 39), ("graph.left", 40), ("r05.SameInts", 43), ("graph.within", 44), ("graph.numbers", 45), ("slices.Clone.E", 46), ("r05.kind", 47), ("slices.ContainsFunc.I", 48), ("graph.Valid.1", 49), ("slices.ContainsFunc.E", 50), ("graph.Valid.2", 51), ("graph.fits", 52), ("r05.right", 53), ("slices.Concat.I", 55), ("slices.Contains.I", 59), ("slices.IndexFunc.I", 60), ("slices.IndexFunc.E", 61), ("slices.Grow.I", 62), ("slices.Index.I", 75)]
theorem Try.mx : Try.prog.follows .mixedOrders = true := by kernel_rfl
theorem k_l05_example : K_l05_example Try.prog sF := by
  unfold K_l05_example
  rw [show sF "l05.example" = 38 by kernel_rfl]
  exact FC.of' (H := h_l05_example) (lc := c_l05_example sF) (n := 0) Try.func38 Try.mx (by kernel_rfl) (by kernel_rfl) (by kernel_rfl) rfl (by first | rfl | (simp only [List.all_cons, List.all_nil, Bool.and_true]; first | rfl | assumption | exact caps_ok hcs)) (w_l05_example )
theorem k_slices_IndexFunc_I : K_slices_IndexFunc_I Try.prog sF := by
  unfold K_slices_IndexFunc_I
  rw [show sF "slices.IndexFunc.I" = 60 by kernel_rfl]
  intro l hl g cs hcs p hg
  exact FC.of' (H := h_slices_IndexFunc_I) (lc := c_slices_IndexFunc_I sF) (n := 2) Try.func60 Try.mx (by kernel_rfl) (by kernel_rfl) (by kernel_rfl) rfl (by first | rfl | (simp only [List.all_cons, List.all_nil, Bool.and_true]; first | rfl | assumption | exact caps_ok hcs)) (w_slices_IndexFunc_I l hl g cs hcs p hg)
theorem k_slices_ContainsFunc_I : K_slices_ContainsFunc_I Try.prog sF := by
  unfold K_slices_ContainsFunc_I
  rw [show sF "slices.ContainsFunc.I" = 48 by kernel_rfl]
  intro l hl g cs hcs p hg
  exact FC.of' (H := h_slices_ContainsFunc_I) (lc := c_slices_ContainsFunc_I sF) (n := 2) Try.func48 Try.mx (by kernel_rfl) (by kernel_rfl) (by kernel_rfl) rfl (by first | rfl | (simp only [List.all_cons, List.all_nil, Bool.and_true]; first | rfl | assumption | exact caps_ok hcs)) (w_slices_ContainsFunc_I k_slices_IndexFunc_I l hl g cs hcs p hg)
theorem k_slices_IndexFunc_E : K_slices_IndexFunc_E Try.prog sF := by
  unfold K_slices_IndexFunc_E
  rw [show sF "slices.IndexFunc.E" = 61 by kernel_rfl]
  intro l hl g cs hcs p hg
  exact FC.of' (H := h_slices_IndexFunc_E) (lc := c_slices_IndexFunc_E sF) (n := 2) Try.func61 Try.mx (by kernel_rfl) (by kernel_rfl) (by kernel_rfl) rfl (by first | rfl | (simp only [List.all_cons, List.all_nil, Bool.and_true]; first | rfl | assumption | exact caps_ok hcs)) (w_slices_IndexFunc_E l hl g cs hcs p hg)
theorem k_slices_ContainsFunc_E : K_slices_ContainsFunc_E Try.prog sF := by
  unfold K_slices_ContainsFunc_E
  rw [show sF "slices.ContainsFunc.E" = 50 by kernel_rfl]
  intro l hl g cs hcs p hg
  exact FC.of' (H := h_slices_ContainsFunc_E) (lc := c_slices_ContainsFunc_E sF) (n := 2) Try.func50 Try.mx (by kernel_rfl) (by kernel_rfl) (by kernel_rfl) rfl (by first | rfl | (simp only [List.all_cons, List.all_nil, Bool.and_true]; first | rfl | assumption | exact caps_ok hcs)) (w_slices_ContainsFunc_E k_slices_IndexFunc_E l hl g cs hcs p hg)
theorem k_graph_within : K_graph_within Try.prog sF := by
  unfold K_graph_within
  rw [show sF "graph.within" = 44 by kernel_rfl]
  intro n m
  exact FC.of' (H := h_graph_within) (lc := c_graph_within sF) (n := 2) Try.func44 Try.mx (by kernel_rfl) (by kernel_rfl) (by kernel_rfl) rfl (by first | rfl | (simp only [List.all_cons, List.all_nil, Bool.and_true]; first | rfl | assumption | exact caps_ok hcs)) (w_graph_within n m)
theorem k_graph_Valid_1 : K_graph_Valid_1 Try.prog sF := by
  unfold K_graph_Valid_1
  rw [show sF "graph.Valid.1" = 49 by kernel_rfl]
  intro x
  exact FC.of' (H := h_graph_Valid_1) (lc := c_graph_Valid_1 sF) (n := 1) Try.func49 Try.mx (by kernel_rfl) (by kernel_rfl) (by kernel_rfl) rfl (by first | rfl | (simp only [List.all_cons, List.all_nil, Bool.and_true]; first | rfl | assumption | exact caps_ok hcs)) (w_graph_Valid_1 k_graph_within x)
theorem k_graph_fits : K_graph_fits Try.prog sF := by
  unfold K_graph_fits
  rw [show sF "graph.fits" = 52 by kernel_rfl]
  intro x n hn
  exact FC.of' (H := h_graph_fits) (lc := c_graph_fits sF) (n := 2) Try.func52 Try.mx (by kernel_rfl) (by kernel_rfl) (by kernel_rfl) rfl (by first | rfl | (simp only [List.all_cons, List.all_nil, Bool.and_true]; first | rfl | assumption | exact caps_ok hcs)) (w_graph_fits k_graph_within x n hn)
theorem k_graph_Valid_2 : K_graph_Valid_2 Try.prog sF := by
  unfold K_graph_Valid_2
  rw [show sF "graph.Valid.2" = 51 by kernel_rfl]
  intro x ns es hn
  exact FC.of' (H := h_graph_Valid_2) (lc := c_graph_Valid_2 sF) (n := 2) Try.func51 Try.mx (by kernel_rfl) (by kernel_rfl) (by kernel_rfl) rfl (by first | rfl | (simp only [List.all_cons, List.all_nil, Bool.and_true]; first | rfl | assumption | exact caps_ok hcs)) (w_graph_Valid_2 k_graph_fits x ns es hn)
theorem k_graph_Valid : K_graph_Valid Try.prog sF := by
  unfold K_graph_Valid
  rw [show sF "graph.Valid" = 26 by kernel_rfl]
  intro g
  exact FC.of' (H := h_graph_Valid) (lc := c_graph_Valid sF) (n := 1) Try.func26 Try.mx (by kernel_rfl) (by kernel_rfl) (by kernel_rfl) rfl (by first | rfl | (simp only [List.all_cons, List.all_nil, Bool.and_true]; first | rfl | assumption | exact caps_ok hcs)) (w_graph_Valid k_slices_ContainsFunc_I k_slices_ContainsFunc_E k_graph_Valid_1 k_graph_Valid_2 g)
theorem k_graph_ascending : K_graph_ascending Try.prog sF := by
  unfold K_graph_ascending
  rw [show sF "graph.ascending" = 39 by kernel_rfl]
  intro l n hl h0 h1
  exact FC.of' (H := h_graph_ascending) (lc := c_graph_ascending sF) (n := 2) Try.func39 Try.mx (by kernel_rfl) (by kernel_rfl) (by kernel_rfl) rfl (by first | rfl | (simp only [List.all_cons, List.all_nil, Bool.and_true]; first | rfl | assumption | exact caps_ok hcs)) (w_graph_ascending k_graph_within l n hl h0 h1)
theorem k_slices_Index_I : K_slices_Index_I Try.prog sF := by
  unfold K_slices_Index_I
  rw [show sF "slices.Index.I" = 75 by kernel_rfl]
  intro l x hl
  exact FC.of' (H := h_slices_Index_I) (lc := c_slices_Index_I sF) (n := 2) Try.func75 Try.mx (by kernel_rfl) (by kernel_rfl) (by kernel_rfl) rfl (by first | rfl | (simp only [List.all_cons, List.all_nil, Bool.and_true]; first | rfl | assumption | exact caps_ok hcs)) (w_slices_Index_I l x hl)
theorem k_slices_Contains_I : K_slices_Contains_I Try.prog sF := by
  unfold K_slices_Contains_I
  rw [show sF "slices.Contains.I" = 59 by kernel_rfl]
  intro l x hl
  exact FC.of' (H := h_slices_Contains_I) (lc := c_slices_Contains_I sF) (n := 2) Try.func59 Try.mx (by kernel_rfl) (by kernel_rfl) (by kernel_rfl) rfl (by first | rfl | (simp only [List.all_cons, List.all_nil, Bool.and_true]; first | rfl | assumption | exact caps_ok hcs)) (w_slices_Contains_I k_slices_Index_I l x hl)
theorem k_graph_left : K_graph_left Try.prog sF := by
  unfold K_graph_left
  rw [show sF "graph.left" = 40 by kernel_rfl]
  intro gs n hl hn
  exact FC.of' (H := h_graph_left) (lc := c_graph_left sF) (n := 2) Try.func40 Try.mx (by kernel_rfl) (by kernel_rfl) (by kernel_rfl) rfl (by first | rfl | (simp only [List.all_cons, List.all_nil, Bool.and_true]; first | rfl | assumption | exact caps_ok hcs)) (w_graph_left k_slices_Contains_I gs n hl hn)
theorem k_graph_Remove : K_graph_Remove Try.prog sF := by
  unfold K_graph_Remove
  rw [show sF "graph.Remove" = 12 by kernel_rfl]
  intro g ns es h1 h2
  exact FC.of' (H := h_graph_Remove) (lc := c_graph_Remove sF) (n := 3) Try.func12 Try.mx (by kernel_rfl) (by kernel_rfl) (by kernel_rfl) rfl (by first | rfl | (simp only [List.all_cons, List.all_nil, Bool.and_true]; first | rfl | assumption | exact caps_ok hcs)) (w_graph_Remove k_graph_Valid k_graph_ascending k_graph_left g ns es h1 h2)
theorem k_graph_numbers : K_graph_numbers Try.prog sF := by
  unfold K_graph_numbers
  rw [show sF "graph.numbers" = 45 by kernel_rfl]
  intro f n h0 h1 h2
  exact FC.of' (H := h_graph_numbers) (lc := c_graph_numbers sF) (n := 2) Try.func45 Try.mx (by kernel_rfl) (by kernel_rfl) (by kernel_rfl) rfl (by first | rfl | (simp only [List.all_cons, List.all_nil, Bool.and_true]; first | rfl | assumption | exact caps_ok hcs)) (w_graph_numbers f n h0 h1 h2)
theorem k_graph_Components : K_graph_Components Try.prog sF := by
  unfold K_graph_Components
  rw [show sF "graph.Components" = 20 by kernel_rfl]
  intro g
  exact FC.of' (H := h_graph_Components) (lc := c_graph_Components sF) (n := 1) Try.func20 Try.mx (by kernel_rfl) (by kernel_rfl) (by kernel_rfl) rfl (by first | rfl | (simp only [List.all_cons, List.all_nil, Bool.and_true]; first | rfl | assumption | exact caps_ok hcs)) (w_graph_Components k_graph_Valid k_graph_numbers g)
theorem k_r05_SameInts : K_r05_SameInts Try.prog sF := by
  unfold K_r05_SameInts
  rw [show sF "r05.SameInts" = 43 by kernel_rfl]
  intro a b hl
  exact FC.of' (H := h_r05_SameInts) (lc := c_r05_SameInts sF) (n := 2) Try.func43 Try.mx (by kernel_rfl) (by kernel_rfl) (by kernel_rfl) rfl (by first | rfl | (simp only [List.all_cons, List.all_nil, Bool.and_true]; first | rfl | assumption | exact caps_ok hcs)) (w_r05_SameInts a b hl)
theorem k_r05_Same : K_r05_Same Try.prog sF := by
  unfold K_r05_Same
  rw [show sF "r05.Same" = 16 by kernel_rfl]
  intro a b h1 h2
  exact FC.of' (H := h_r05_Same) (lc := c_r05_Same sF) (n := 2) Try.func16 Try.mx (by kernel_rfl) (by kernel_rfl) (by kernel_rfl) rfl (by first | rfl | (simp only [List.all_cons, List.all_nil, Bool.and_true]; first | rfl | assumption | exact caps_ok hcs)) (w_r05_Same k_r05_SameInts a b h1 h2)
theorem k_slices_Equal_I : K_slices_Equal_I Try.prog sF := by
  unfold K_slices_Equal_I
  rw [show sF "slices.Equal.I" = 22 by kernel_rfl]
  intro a b hl
  exact FC.of' (H := h_slices_Equal_I) (lc := c_slices_Equal_I sF) (n := 2) Try.func22 Try.mx (by kernel_rfl) (by kernel_rfl) (by kernel_rfl) rfl (by first | rfl | (simp only [List.all_cons, List.all_nil, Bool.and_true]; first | rfl | assumption | exact caps_ok hcs)) (w_slices_Equal_I a b hl)
theorem k_l05_awake : K_l05_awake Try.prog sF := by
  unfold K_l05_awake
  rw [show sF "l05.awake" = 10 by kernel_rfl]
  exact FC.of' (H := h_l05_awake) (lc := c_l05_awake sF) (n := 0) Try.func10 Try.mx (by kernel_rfl) (by kernel_rfl) (by kernel_rfl) rfl (by first | rfl | (simp only [List.all_cons, List.all_nil, Bool.and_true]; first | rfl | assumption | exact caps_ok hcs)) (w_l05_awake k_l05_example k_graph_Remove k_graph_Components k_r05_Same k_slices_Equal_I)
theorem k_r05_Few : K_r05_Few Try.prog sF := by
  unfold K_r05_Few
  rw [show sF "r05.Few" = 11 by kernel_rfl]
  intro g
  exact FC.of' (H := h_r05_Few) (lc := c_r05_Few sF) (n := 1) Try.func11 Try.mx (by kernel_rfl) (by kernel_rfl) (by kernel_rfl) rfl (by first | rfl | (simp only [List.all_cons, List.all_nil, Bool.and_true]; first | rfl | assumption | exact caps_ok hcs)) (w_r05_Few g)
theorem k_r05_Copied : K_r05_Copied Try.prog sF := by
  unfold K_r05_Copied
  rw [show sF "r05.Copied" = 13 by kernel_rfl]
  intro g h0 h1
  exact FC.of' (H := h_r05_Copied) (lc := c_r05_Copied sF) (n := 1) Try.func13 Try.mx (by kernel_rfl) (by kernel_rfl) (by kernel_rfl) rfl (by first | rfl | (simp only [List.all_cons, List.all_nil, Bool.and_true]; first | rfl | assumption | exact caps_ok hcs)) (w_r05_Copied g h0 h1)
theorem k_slices_Grow_I : K_slices_Grow_I Try.prog sF := by
  unfold K_slices_Grow_I
  rw [show sF "slices.Grow.I" = 62 by kernel_rfl]
  intro n hn
  exact FC.of' (H := h_slices_Grow_I) (lc := c_slices_Grow_I sF) (n := 2) Try.func62 Try.mx (by kernel_rfl) (by kernel_rfl) (by kernel_rfl) rfl (by first | rfl | (simp only [List.all_cons, List.all_nil, Bool.and_true]; first | rfl | assumption | exact caps_ok hcs)) (w_slices_Grow_I n hn)
theorem k_slices_Concat_I : K_slices_Concat_I Try.prog sF := by
  unfold K_slices_Concat_I
  rw [show sF "slices.Concat.I" = 55 by kernel_rfl]
  intro a b ha hb
  exact FC.of' (H := h_slices_Concat_I) (lc := c_slices_Concat_I sF) (n := 1) Try.func55 Try.mx (by kernel_rfl) (by kernel_rfl) (by kernel_rfl) rfl (by first | rfl | (simp only [List.all_cons, List.all_nil, Bool.and_true]; first | rfl | assumption | exact caps_ok hcs)) (w_slices_Concat_I k_slices_Grow_I a b ha hb)
theorem k_slices_Clone_E : K_slices_Clone_E Try.prog sF := by
  unfold K_slices_Clone_E
  rw [show sF "slices.Clone.E" = 46 by kernel_rfl]
  intro l hl
  exact FC.of' (H := h_slices_Clone_E) (lc := c_slices_Clone_E sF) (n := 1) Try.func46 Try.mx (by kernel_rfl) (by kernel_rfl) (by kernel_rfl) rfl (by first | rfl | (simp only [List.all_cons, List.all_nil, Bool.and_true]; first | rfl | assumption | exact caps_ok hcs)) (w_slices_Clone_E l hl)
theorem k_graph_Union : K_graph_Union Try.prog sF := by
  unfold K_graph_Union
  rw [show sF "graph.Union" = 31 by kernel_rfl]
  intro a b
  exact FC.of' (H := h_graph_Union) (lc := c_graph_Union sF) (n := 2) Try.func31 Try.mx (by kernel_rfl) (by kernel_rfl) (by kernel_rfl) rfl (by first | rfl | (simp only [List.all_cons, List.all_nil, Bool.and_true]; first | rfl | assumption | exact caps_ok hcs)) (w_graph_Union k_graph_Valid k_slices_Concat_I k_slices_Clone_E k_graph_numbers a b)
theorem k_r05_kind : K_r05_kind Try.prog sF := by
  unfold K_r05_kind
  rw [show sF "r05.kind" = 47 by kernel_rfl]
  intro n
  exact FC.of' (H := h_r05_kind) (lc := c_r05_kind sF) (n := 1) Try.func47 Try.mx (by kernel_rfl) (by kernel_rfl) (by kernel_rfl) rfl (by first | rfl | (simp only [List.all_cons, List.all_nil, Bool.and_true]; first | rfl | assumption | exact caps_ok hcs)) (w_r05_kind n)
theorem k_r05_right : K_r05_right Try.prog sF := by
  unfold K_r05_right
  rw [show sF "r05.right" = 53 by kernel_rfl]
  intro x n
  exact FC.of' (H := h_r05_right) (lc := c_r05_right sF) (n := 2) Try.func53 Try.mx (by kernel_rfl) (by kernel_rfl) (by kernel_rfl) rfl (by first | rfl | (simp only [List.all_cons, List.all_nil, Bool.and_true]; first | rfl | assumption | exact caps_ok hcs)) (w_r05_right k_r05_kind x n)
theorem k_r05_Valid : K_r05_Valid Try.prog sF := by
  unfold K_r05_Valid
  rw [show sF "r05.Valid" = 27 by kernel_rfl]
  intro g
  exact FC.of' (H := h_r05_Valid) (lc := c_r05_Valid sF) (n := 1) Try.func27 Try.mx (by kernel_rfl) (by kernel_rfl) (by kernel_rfl) rfl (by first | rfl | (simp only [List.all_cons, List.all_nil, Bool.and_true]; first | rfl | assumption | exact caps_ok hcs)) (w_r05_Valid k_r05_kind k_r05_right g)
theorem k_r05_Numbers : K_r05_Numbers Try.prog sF := by
  unfold K_r05_Numbers
  rw [show sF "r05.Numbers" = 37 by kernel_rfl]
  intro f n h0 h1 h2
  exact FC.of' (H := h_r05_Numbers) (lc := c_r05_Numbers sF) (n := 2) Try.func37 Try.mx (by kernel_rfl) (by kernel_rfl) (by kernel_rfl) rfl (by first | rfl | (simp only [List.all_cons, List.all_nil, Bool.and_true]; first | rfl | assumption | exact caps_ok hcs)) (w_r05_Numbers f n h0 h1 h2)
theorem k_r05_Union : K_r05_Union Try.prog sF := by
  unfold K_r05_Union
  rw [show sF "r05.Union" = 32 by kernel_rfl]
  intro a b
  exact FC.of' (H := h_r05_Union) (lc := c_r05_Union sF) (n := 2) Try.func32 Try.mx (by kernel_rfl) (by kernel_rfl) (by kernel_rfl) rfl (by first | rfl | (simp only [List.all_cons, List.all_nil, Bool.and_true]; first | rfl | assumption | exact caps_ok hcs)) (w_r05_Union k_r05_Valid k_r05_Copied k_r05_Numbers a b)
theorem k_l05_same : K_l05_same Try.prog sF := by
  unfold K_l05_same
  rw [show sF "l05.same" = 17 by kernel_rfl]
  intro a b h1 h2
  exact FC.of' (H := h_l05_same) (lc := c_l05_same sF) (n := 2) Try.func17 Try.mx (by kernel_rfl) (by kernel_rfl) (by kernel_rfl) rfl (by first | rfl | (simp only [List.all_cons, List.all_nil, Bool.and_true]; first | rfl | assumption | exact caps_ok hcs)) (w_l05_same k_slices_Equal_I a b h1 h2)
theorem k_l05_GraphUnion : K_l05_GraphUnion Try.prog sF := by
  unfold K_l05_GraphUnion
  rw [show sF "l05.GraphUnion" = 7 by kernel_rfl]
  intro a b
  exact FC.of' (H := h_l05_GraphUnion) (lc := c_l05_GraphUnion sF) (n := 2) Try.func7 Try.mx (by kernel_rfl) (by kernel_rfl) (by kernel_rfl) rfl (by first | rfl | (simp only [List.all_cons, List.all_nil, Bool.and_true]; first | rfl | assumption | exact caps_ok hcs)) (w_l05_GraphUnion k_l05_awake k_r05_Few k_r05_Copied k_graph_Union k_r05_Union k_r05_Same k_l05_same a b)
end Go.Proofs.Ytfkkngepnnkloaa
