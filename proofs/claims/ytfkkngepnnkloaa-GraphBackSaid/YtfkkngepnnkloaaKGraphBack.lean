/- The functions of this seat, their contracts. Printed by seat.py. -/
import Derived.Test.YtfkkngepnnkloaaRows
import Derived.Test.YtfkkngepnnkloaaSjP
import Derived.KernelRfl
namespace Go.Proofs.Ytfkkngepnnkloaa
open Go Go.Am
set_option linter.unusedVariables false
set_option linter.unusedSimpArgs false
def sF : String → Nat := lkS [("l05.GraphBack", 8), ("l05.awake", 10), ("graph.Remove", 12), ("r05.Same", 16), ("graph.Incident", 18), ("graph.Components", 20), ("slices.Equal.I", 22), ("graph.Valid", 26), ("r05.Made", 33), ("r05.Shuffle", 34), ("graph.Reorder", 35), ("r05.Numbers", 37), ("l05.example", 38), ("graph.ascending", 39), ("graph.left", 40), ("r05.SameInts", 43), ("graph.within", 44), ("graph.numbers", 45), ("slices.ContainsFunc.I", 48), ("graph.Valid.1", 49), ("slices.ContainsFunc.E", 50), ("graph.Valid.2", 51), ("graph.fits", 52), ("graph.permutation", 56), ("slices.Contains.I", 59), ("slices.IndexFunc.I", 60), ("slices.IndexFunc.E", 61), ("graph.permutation.1", 63), ("slices.Index.I", 75)]
theorem Try.mx : Try.prog.follows .mixedOrders = true := by kernel_rfl
theorem k_l05_example : K_l05_example Try.prog sF := by
  unfold K_l05_example
  rw [show sF "l05.example" = 38 by kernel_rfl]
  exact FC.of' (H := h_l05_example) (lc := c_l05_example sF) (n := 0) Try.func38 Try.mx (by kernel_rfl) (by kernel_rfl) (by kernel_rfl) rfl (by first | rfl | (simp only [List.all_cons, List.all_nil, Bool.and_true]; first | rfl | assumption | exact caps_ok hcs)) (w_l05_example )
theorem k_slices_IndexFunc_I : K_slices_IndexFunc_I Try.prog sF := by
  unfold K_slices_IndexFunc_I
  rw [show sF "slices.IndexFunc.I" = 60 by kernel_rfl]
  intro l hl g cs hcs p hg
  exact FC.of' (H := h_slices_IndexFunc_I) (lc := c_slices_IndexFunc_I sF) (n := 2) Try.func60 Try.mx (by kernel_rfl) (by kernel_rfl) (by kernel_rfl) rfl (by first | rfl | (simp only [List.all_cons, List.all_nil, Bool.and_true]; first | rfl | assumption | exact caps_ok hcs)) (w_slices_IndexFunc_I l hl g cs hcs p hg)
theorem k_slices_ContainsFunc_I : K_slices_ContainsFunc_I Try.prog sF := by
  unfold K_slices_ContainsFunc_I
  rw [show sF "slices.ContainsFunc.I" = 48 by kernel_rfl]
  intro l hl g cs hcs p hg
  exact FC.of' (H := h_slices_ContainsFunc_I) (lc := c_slices_ContainsFunc_I sF) (n := 2) Try.func48 Try.mx (by kernel_rfl) (by kernel_rfl) (by kernel_rfl) rfl (by first | rfl | (simp only [List.all_cons, List.all_nil, Bool.and_true]; first | rfl | assumption | exact caps_ok hcs)) (w_slices_ContainsFunc_I k_slices_IndexFunc_I l hl g cs hcs p hg)
theorem k_slices_IndexFunc_E : K_slices_IndexFunc_E Try.prog sF := by
  unfold K_slices_IndexFunc_E
  rw [show sF "slices.IndexFunc.E" = 61 by kernel_rfl]
  intro l hl g cs hcs p hg
  exact FC.of' (H := h_slices_IndexFunc_E) (lc := c_slices_IndexFunc_E sF) (n := 2) Try.func61 Try.mx (by kernel_rfl) (by kernel_rfl) (by kernel_rfl) rfl (by first | rfl | (simp only [List.all_cons, List.all_nil, Bool.and_true]; first | rfl | assumption | exact caps_ok hcs)) (w_slices_IndexFunc_E l hl g cs hcs p hg)
theorem k_slices_ContainsFunc_E : K_slices_ContainsFunc_E Try.prog sF := by
  unfold K_slices_ContainsFunc_E
  rw [show sF "slices.ContainsFunc.E" = 50 by kernel_rfl]
  intro l hl g cs hcs p hg
  exact FC.of' (H := h_slices_ContainsFunc_E) (lc := c_slices_ContainsFunc_E sF) (n := 2) Try.func50 Try.mx (by kernel_rfl) (by kernel_rfl) (by kernel_rfl) rfl (by first | rfl | (simp only [List.all_cons, List.all_nil, Bool.and_true]; first | rfl | assumption | exact caps_ok hcs)) (w_slices_ContainsFunc_E k_slices_IndexFunc_E l hl g cs hcs p hg)
theorem k_graph_within : K_graph_within Try.prog sF := by
  unfold K_graph_within
  rw [show sF "graph.within" = 44 by kernel_rfl]
  intro n m
  exact FC.of' (H := h_graph_within) (lc := c_graph_within sF) (n := 2) Try.func44 Try.mx (by kernel_rfl) (by kernel_rfl) (by kernel_rfl) rfl (by first | rfl | (simp only [List.all_cons, List.all_nil, Bool.and_true]; first | rfl | assumption | exact caps_ok hcs)) (w_graph_within n m)
theorem k_graph_Valid_1 : K_graph_Valid_1 Try.prog sF := by
  unfold K_graph_Valid_1
  rw [show sF "graph.Valid.1" = 49 by kernel_rfl]
  intro x
  exact FC.of' (H := h_graph_Valid_1) (lc := c_graph_Valid_1 sF) (n := 1) Try.func49 Try.mx (by kernel_rfl) (by kernel_rfl) (by kernel_rfl) rfl (by first | rfl | (simp only [List.all_cons, List.all_nil, Bool.and_true]; first | rfl | assumption | exact caps_ok hcs)) (w_graph_Valid_1 k_graph_within x)
theorem k_graph_fits : K_graph_fits Try.prog sF := by
  unfold K_graph_fits
  rw [show sF "graph.fits" = 52 by kernel_rfl]
  intro x n hn
  exact FC.of' (H := h_graph_fits) (lc := c_graph_fits sF) (n := 2) Try.func52 Try.mx (by kernel_rfl) (by kernel_rfl) (by kernel_rfl) rfl (by first | rfl | (simp only [List.all_cons, List.all_nil, Bool.and_true]; first | rfl | assumption | exact caps_ok hcs)) (w_graph_fits k_graph_within x n hn)
theorem k_graph_Valid_2 : K_graph_Valid_2 Try.prog sF := by
  unfold K_graph_Valid_2
  rw [show sF "graph.Valid.2" = 51 by kernel_rfl]
  intro x ns es hn
  exact FC.of' (H := h_graph_Valid_2) (lc := c_graph_Valid_2 sF) (n := 2) Try.func51 Try.mx (by kernel_rfl) (by kernel_rfl) (by kernel_rfl) rfl (by first | rfl | (simp only [List.all_cons, List.all_nil, Bool.and_true]; first | rfl | assumption | exact caps_ok hcs)) (w_graph_Valid_2 k_graph_fits x ns es hn)
theorem k_graph_Valid : K_graph_Valid Try.prog sF := by
  unfold K_graph_Valid
  rw [show sF "graph.Valid" = 26 by kernel_rfl]
  intro g
  exact FC.of' (H := h_graph_Valid) (lc := c_graph_Valid sF) (n := 1) Try.func26 Try.mx (by kernel_rfl) (by kernel_rfl) (by kernel_rfl) rfl (by first | rfl | (simp only [List.all_cons, List.all_nil, Bool.and_true]; first | rfl | assumption | exact caps_ok hcs)) (w_graph_Valid k_slices_ContainsFunc_I k_slices_ContainsFunc_E k_graph_Valid_1 k_graph_Valid_2 g)
theorem k_graph_ascending : K_graph_ascending Try.prog sF := by
  unfold K_graph_ascending
  rw [show sF "graph.ascending" = 39 by kernel_rfl]
  intro l n hl h0 h1
  exact FC.of' (H := h_graph_ascending) (lc := c_graph_ascending sF) (n := 2) Try.func39 Try.mx (by kernel_rfl) (by kernel_rfl) (by kernel_rfl) rfl (by first | rfl | (simp only [List.all_cons, List.all_nil, Bool.and_true]; first | rfl | assumption | exact caps_ok hcs)) (w_graph_ascending k_graph_within l n hl h0 h1)
theorem k_slices_Index_I : K_slices_Index_I Try.prog sF := by
  unfold K_slices_Index_I
  rw [show sF "slices.Index.I" = 75 by kernel_rfl]
  intro l x hl
  exact FC.of' (H := h_slices_Index_I) (lc := c_slices_Index_I sF) (n := 2) Try.func75 Try.mx (by kernel_rfl) (by kernel_rfl) (by kernel_rfl) rfl (by first | rfl | (simp only [List.all_cons, List.all_nil, Bool.and_true]; first | rfl | assumption | exact caps_ok hcs)) (w_slices_Index_I l x hl)
theorem k_slices_Contains_I : K_slices_Contains_I Try.prog sF := by
  unfold K_slices_Contains_I
  rw [show sF "slices.Contains.I" = 59 by kernel_rfl]
  intro l x hl
  exact FC.of' (H := h_slices_Contains_I) (lc := c_slices_Contains_I sF) (n := 2) Try.func59 Try.mx (by kernel_rfl) (by kernel_rfl) (by kernel_rfl) rfl (by first | rfl | (simp only [List.all_cons, List.all_nil, Bool.and_true]; first | rfl | assumption | exact caps_ok hcs)) (w_slices_Contains_I k_slices_Index_I l x hl)
theorem k_graph_left : K_graph_left Try.prog sF := by
  unfold K_graph_left
  rw [show sF "graph.left" = 40 by kernel_rfl]
  intro gs n hl hn
  exact FC.of' (H := h_graph_left) (lc := c_graph_left sF) (n := 2) Try.func40 Try.mx (by kernel_rfl) (by kernel_rfl) (by kernel_rfl) rfl (by first | rfl | (simp only [List.all_cons, List.all_nil, Bool.and_true]; first | rfl | assumption | exact caps_ok hcs)) (w_graph_left k_slices_Contains_I gs n hl hn)
theorem k_graph_Remove : K_graph_Remove Try.prog sF := by
  unfold K_graph_Remove
  rw [show sF "graph.Remove" = 12 by kernel_rfl]
  intro g ns es h1 h2
  exact FC.of' (H := h_graph_Remove) (lc := c_graph_Remove sF) (n := 3) Try.func12 Try.mx (by kernel_rfl) (by kernel_rfl) (by kernel_rfl) rfl (by first | rfl | (simp only [List.all_cons, List.all_nil, Bool.and_true]; first | rfl | assumption | exact caps_ok hcs)) (w_graph_Remove k_graph_Valid k_graph_ascending k_graph_left g ns es h1 h2)
theorem k_graph_numbers : K_graph_numbers Try.prog sF := by
  unfold K_graph_numbers
  rw [show sF "graph.numbers" = 45 by kernel_rfl]
  intro f n h0 h1 h2
  exact FC.of' (H := h_graph_numbers) (lc := c_graph_numbers sF) (n := 2) Try.func45 Try.mx (by kernel_rfl) (by kernel_rfl) (by kernel_rfl) rfl (by first | rfl | (simp only [List.all_cons, List.all_nil, Bool.and_true]; first | rfl | assumption | exact caps_ok hcs)) (w_graph_numbers f n h0 h1 h2)
theorem k_graph_Components : K_graph_Components Try.prog sF := by
  unfold K_graph_Components
  rw [show sF "graph.Components" = 20 by kernel_rfl]
  intro g
  exact FC.of' (H := h_graph_Components) (lc := c_graph_Components sF) (n := 1) Try.func20 Try.mx (by kernel_rfl) (by kernel_rfl) (by kernel_rfl) rfl (by first | rfl | (simp only [List.all_cons, List.all_nil, Bool.and_true]; first | rfl | assumption | exact caps_ok hcs)) (w_graph_Components k_graph_Valid k_graph_numbers g)
theorem k_r05_SameInts : K_r05_SameInts Try.prog sF := by
  unfold K_r05_SameInts
  rw [show sF "r05.SameInts" = 43 by kernel_rfl]
  intro a b hl
  exact FC.of' (H := h_r05_SameInts) (lc := c_r05_SameInts sF) (n := 2) Try.func43 Try.mx (by kernel_rfl) (by kernel_rfl) (by kernel_rfl) rfl (by first | rfl | (simp only [List.all_cons, List.all_nil, Bool.and_true]; first | rfl | assumption | exact caps_ok hcs)) (w_r05_SameInts a b hl)
theorem k_r05_Same : K_r05_Same Try.prog sF := by
  unfold K_r05_Same
  rw [show sF "r05.Same" = 16 by kernel_rfl]
  intro a b h1 h2
  exact FC.of' (H := h_r05_Same) (lc := c_r05_Same sF) (n := 2) Try.func16 Try.mx (by kernel_rfl) (by kernel_rfl) (by kernel_rfl) rfl (by first | rfl | (simp only [List.all_cons, List.all_nil, Bool.and_true]; first | rfl | assumption | exact caps_ok hcs)) (w_r05_Same k_r05_SameInts a b h1 h2)
theorem k_slices_Equal_I : K_slices_Equal_I Try.prog sF := by
  unfold K_slices_Equal_I
  rw [show sF "slices.Equal.I" = 22 by kernel_rfl]
  intro a b hl
  exact FC.of' (H := h_slices_Equal_I) (lc := c_slices_Equal_I sF) (n := 2) Try.func22 Try.mx (by kernel_rfl) (by kernel_rfl) (by kernel_rfl) rfl (by first | rfl | (simp only [List.all_cons, List.all_nil, Bool.and_true]; first | rfl | assumption | exact caps_ok hcs)) (w_slices_Equal_I a b hl)
theorem k_l05_awake : K_l05_awake Try.prog sF := by
  unfold K_l05_awake
  rw [show sF "l05.awake" = 10 by kernel_rfl]
  exact FC.of' (H := h_l05_awake) (lc := c_l05_awake sF) (n := 0) Try.func10 Try.mx (by kernel_rfl) (by kernel_rfl) (by kernel_rfl) rfl (by first | rfl | (simp only [List.all_cons, List.all_nil, Bool.and_true]; first | rfl | assumption | exact caps_ok hcs)) (w_l05_awake k_l05_example k_graph_Remove k_graph_Components k_r05_Same k_slices_Equal_I)
theorem k_r05_Made : K_r05_Made Try.prog sF := by
  unfold K_r05_Made
  rw [show sF "r05.Made" = 33 by kernel_rfl]
  intro x hx h1 h2
  exact FC.of' (H := h_r05_Made) (lc := c_r05_Made sF) (n := 1) Try.func33 Try.mx (by kernel_rfl) (by kernel_rfl) (by kernel_rfl) rfl (by first | rfl | (simp only [List.all_cons, List.all_nil, Bool.and_true]; first | rfl | assumption | exact caps_ok hcs)) (w_r05_Made x hx h1 h2)
theorem k_r05_Numbers : K_r05_Numbers Try.prog sF := by
  unfold K_r05_Numbers
  rw [show sF "r05.Numbers" = 37 by kernel_rfl]
  intro f n h0 h1 h2
  exact FC.of' (H := h_r05_Numbers) (lc := c_r05_Numbers sF) (n := 2) Try.func37 Try.mx (by kernel_rfl) (by kernel_rfl) (by kernel_rfl) rfl (by first | rfl | (simp only [List.all_cons, List.all_nil, Bool.and_true]; first | rfl | assumption | exact caps_ok hcs)) (w_r05_Numbers f n h0 h1 h2)
theorem k_r05_Shuffle : K_r05_Shuffle Try.prog sF := by
  unfold K_r05_Shuffle
  rw [show sF "r05.Shuffle" = 34 by kernel_rfl]
  intro n cs h1 h2 h3
  exact FC.of' (H := h_r05_Shuffle) (lc := c_r05_Shuffle sF) (n := 2) Try.func34 Try.mx (by kernel_rfl) (by kernel_rfl) (by kernel_rfl) rfl (by first | rfl | (simp only [List.all_cons, List.all_nil, Bool.and_true]; first | rfl | assumption | exact caps_ok hcs)) (w_r05_Shuffle k_r05_Numbers n cs h1 h2 h3)
theorem k_graph_permutation_1 : K_graph_permutation_1 Try.prog sF := by
  unfold K_graph_permutation_1
  rw [show sF "graph.permutation.1" = 63 by kernel_rfl]
  intro x n hn
  exact FC.of' (H := h_graph_permutation_1) (lc := c_graph_permutation_1 sF) (n := 2) Try.func63 Try.mx (by kernel_rfl) (by kernel_rfl) (by kernel_rfl) rfl (by first | rfl | (simp only [List.all_cons, List.all_nil, Bool.and_true]; first | rfl | assumption | exact caps_ok hcs)) (w_graph_permutation_1 k_graph_within x n hn)
theorem k_graph_permutation : K_graph_permutation Try.prog sF := by
  unfold K_graph_permutation
  rw [show sF "graph.permutation" = 56 by kernel_rfl]
  intro l n hn hp
  exact FC.of' (H := h_graph_permutation) (lc := c_graph_permutation sF) (n := 2) Try.func56 Try.mx (by kernel_rfl) (by kernel_rfl) (by kernel_rfl) rfl (by first | rfl | (simp only [List.all_cons, List.all_nil, Bool.and_true]; first | rfl | assumption | exact caps_ok hcs)) (w_graph_permutation k_graph_permutation_1 k_slices_ContainsFunc_I k_slices_Contains_I l n hn hp)
theorem k_graph_Reorder : K_graph_Reorder Try.prog sF := by
  unfold K_graph_Reorder
  rw [show sF "graph.Reorder" = 35 by kernel_rfl]
  intro g m c1 p1 p2
  exact FC.of' (H := h_graph_Reorder) (lc := c_graph_Reorder sF) (n := 2) Try.func35 Try.mx (by kernel_rfl) (by kernel_rfl) (by kernel_rfl) rfl (by first | rfl | (simp only [List.all_cons, List.all_nil, Bool.and_true]; first | rfl | assumption | exact caps_ok hcs)) (w_graph_Reorder k_graph_Valid k_graph_permutation g m c1 p1 p2)
theorem k_graph_Incident : K_graph_Incident Try.prog sF := by
  unfold K_graph_Incident
  rw [show sF "graph.Incident" = 18 by kernel_rfl]
  intro g v
  exact FC.of' (H := h_graph_Incident) (lc := c_graph_Incident sF) (n := 2) Try.func18 Try.mx (by kernel_rfl) (by kernel_rfl) (by kernel_rfl) rfl (by first | rfl | (simp only [List.all_cons, List.all_nil, Bool.and_true]; first | rfl | assumption | exact caps_ok hcs)) (w_graph_Incident k_graph_Valid k_graph_within g v)
theorem k_l05_GraphBack : K_l05_GraphBack Try.prog sF := by
  unfold K_l05_GraphBack
  rw [show sF "l05.GraphBack" = 8 by kernel_rfl]
  intro x cs hx hc l1 l2 l3
  exact FC.of' (H := h_l05_GraphBack) (lc := c_l05_GraphBack sF) (n := 2) Try.func8 Try.mx (by kernel_rfl) (by kernel_rfl) (by kernel_rfl) rfl (by first | rfl | (simp only [List.all_cons, List.all_nil, Bool.and_true]; first | rfl | assumption | exact caps_ok hcs)) (w_l05_GraphBack k_l05_awake k_r05_Made k_r05_Shuffle k_graph_Reorder k_graph_Incident k_r05_Same x cs hx hc l1 l2 l3)
end Go.Proofs.Ytfkkngepnnkloaa
