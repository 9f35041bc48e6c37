/- The functions of this seat, their contracts. Printed by seat.py. -/
import Derived.Shelf.Sort.Plain
import Derived.Shelf.Slices.In.SortNone
import Derived.Test.YtoeomfoohdheoaaRows
import Derived.Test.YtoeomfoohdheoaaSpK
import Derived.KernelRfl
namespace Go.Proofs.Ytoeomfoohdheoaa
open Go Go.Am
attribute [local irreducible] W
set_option linter.unusedVariables false
set_option linter.unusedSimpArgs false
def sF : String → Nat := lkS [("l12.ComplementPushout", 9), ("l12.awake", 10), ("complement.Of", 12), ("r07.Same", 15), ("complement.Repair", 16), ("l12.made", 18), ("complement.Dangling", 23), ("slices.Equal.I", 27), ("r07.Made", 30), ("slices.ContainsFunc.I", 31), ("slices.Contains.I", 33), ("subgraph.Extract", 36), ("slices.Index.I", 37), ("pushout.Check", 38), ("complement.gluing.given", 41), ("complement.gluing.identified", 42), ("complement.gluing.dangling", 43), ("complement.rest", 44), ("slices.Clone.I", 45), ("r05.SameInts", 51), ("slices.Sort.I", 52), ("slices.Compact.I", 53), ("r05.Made", 55), ("r10.Grown", 56), ("slices.Concat.I", 59), ("r07.Least", 60), ("slices.IndexFunc.I", 61), ("subgraph.Valid", 63), ("slices.BinarySearch.I", 64), ("pushout.Mediate", 65), ("pushout.glue", 66), ("morphism.Injective", 67), ("morphism.Surjective", 68), ("morphism.Valid", 69), ("complement.pairs", 70), ("complement.gluing.deleted", 71), ("r05.Copied", 78), ("r06.Of", 79), ("r06.Image", 80), ("subgraph.part", 81), ("slices.Grow.I", 82), ("r07.marked", 83), ("graph.Valid", 85), ("cmp.Less.I", 86), ("slices.isNaN.I", 87), ("pushout.span", 88), ("morphism.Same", 89), ("pushout.then", 90), ("pushout.filled", 91), ("graph.Union", 92), ("pushout.quotient", 93), ("pushout.pairs", 94), ("morphism.images", 95), ("r02.Finest", 109), ("r06.numbers", 110), ("r02.Merge", 111), ("r02.Quotient", 112), ("subgraph.list", 113), ("subgraph.has", 114), ("graph.Valid.1", 115), ("graph.within", 116), ("slices.ContainsFunc.E", 117), ("graph.Valid.2", 118), ("graph.fits", 119), ("cmp.isNaN.I", 120), ("pushout.follow", 121), ("slices.Clone.E", 122), ("graph.numbers", 123), ("partition.Generate", 124), ("partition.Quotient", 125), ("r02.one", 132), ("slices.IndexFunc.E", 133), ("partition.finest", 134), ("partition.unite", 135), ("partition.flat", 136), ("partition.one", 137), ("r02.Valid", 139), ("partition.root", 140), ("partition.right", 141)]
def sMd : Nat → List Md := lkM [(52, [.mu]), (53, [.ow]), (135, [.mu, .rd, .rd]), (136, [.ow])]
theorem Try.mx : Try.prog.follows .mixedOrders = true := by kernel_rfl
theorem k_slices_IndexFunc_I : K_slices_IndexFunc_I Try.prog sF := by
  unfold K_slices_IndexFunc_I
  rw [show sF "slices.IndexFunc.I" = 61 by kernel_rfl]
  intro l hl g cs hcs p hg
  refine FC.of' (rs := [.t 4]) (H := wMd h_slices_IndexFunc_I sMd) (lc := c_slices_IndexFunc_I sF) (n := 2) Try.func61 Try.mx ?a ?b ?c ?d ?e ?f
  case f =>
    have hw := w_slices_IndexFunc_I (P := Try.prog) (F := sF) l hl g cs hcs p hg
    assumption
  case a => kernel_rfl
  case b => kernel_rfl
  case c => kernel_rfl
  case d => rfl
  case e => first | rfl | (simp only [List.all_cons, List.all_nil, Bool.and_true]; first | rfl | assumption | exact caps_ok hcs)
theorem k_slices_ContainsFunc_I : K_slices_ContainsFunc_I Try.prog sF := by
  unfold K_slices_ContainsFunc_I
  rw [show sF "slices.ContainsFunc.I" = 31 by kernel_rfl]
  intro l hl g cs hcs p hg
  refine FC.of' (rs := [.t 4]) (H := wMd h_slices_ContainsFunc_I sMd) (lc := c_slices_ContainsFunc_I sF) (n := 2) Try.func31 Try.mx ?a ?b ?c ?d ?e ?f
  case f =>
    have hw := w_slices_ContainsFunc_I (P := Try.prog) (F := sF) k_slices_IndexFunc_I l hl g cs hcs p hg
    assumption
  case a => kernel_rfl
  case b => kernel_rfl
  case c => kernel_rfl
  case d => rfl
  case e => first | rfl | (simp only [List.all_cons, List.all_nil, Bool.and_true]; first | rfl | assumption | exact caps_ok hcs)
theorem k_slices_IndexFunc_E : K_slices_IndexFunc_E Try.prog sF := by
  unfold K_slices_IndexFunc_E
  rw [show sF "slices.IndexFunc.E" = 133 by kernel_rfl]
  intro l hl g cs hcs p hg
  refine FC.of' (rs := [.t 4]) (H := wMd h_slices_IndexFunc_E sMd) (lc := c_slices_IndexFunc_E sF) (n := 2) Try.func133 Try.mx ?a ?b ?c ?d ?e ?f
  case f =>
    have hw := w_slices_IndexFunc_E (P := Try.prog) (F := sF) l hl g cs hcs p hg
    assumption
  case a => kernel_rfl
  case b => kernel_rfl
  case c => kernel_rfl
  case d => rfl
  case e => first | rfl | (simp only [List.all_cons, List.all_nil, Bool.and_true]; first | rfl | assumption | exact caps_ok hcs)
theorem k_slices_ContainsFunc_E : K_slices_ContainsFunc_E Try.prog sF := by
  unfold K_slices_ContainsFunc_E
  rw [show sF "slices.ContainsFunc.E" = 117 by kernel_rfl]
  intro l hl g cs hcs p hg
  refine FC.of' (rs := [.t 4]) (H := wMd h_slices_ContainsFunc_E sMd) (lc := c_slices_ContainsFunc_E sF) (n := 2) Try.func117 Try.mx ?a ?b ?c ?d ?e ?f
  case f =>
    have hw := w_slices_ContainsFunc_E (P := Try.prog) (F := sF) k_slices_IndexFunc_E l hl g cs hcs p hg
    assumption
  case a => kernel_rfl
  case b => kernel_rfl
  case c => kernel_rfl
  case d => rfl
  case e => first | rfl | (simp only [List.all_cons, List.all_nil, Bool.and_true]; first | rfl | assumption | exact caps_ok hcs)
theorem k_graph_within : K_graph_within Try.prog sF := by
  unfold K_graph_within
  rw [show sF "graph.within" = 116 by kernel_rfl]
  intro n m
  refine FC.of' (rs := [.t 4]) (H := wMd h_graph_within sMd) (lc := c_graph_within sF) (n := 2) Try.func116 Try.mx ?a ?b ?c ?d ?e ?f
  case f =>
    have hw := w_graph_within (P := Try.prog) (F := sF) n m
    assumption
  case a => kernel_rfl
  case b => kernel_rfl
  case c => kernel_rfl
  case d => rfl
  case e => first | rfl | (simp only [List.all_cons, List.all_nil, Bool.and_true]; first | rfl | assumption | exact caps_ok hcs)
theorem k_graph_Valid_1 : K_graph_Valid_1 Try.prog sF := by
  unfold K_graph_Valid_1
  rw [show sF "graph.Valid.1" = 115 by kernel_rfl]
  intro x
  refine FC.of' (rs := [.t 2]) (H := wMd h_graph_Valid_1 sMd) (lc := c_graph_Valid_1 sF) (n := 1) Try.func115 Try.mx ?a ?b ?c ?d ?e ?f
  case f =>
    have hw := w_graph_Valid_1 (P := Try.prog) (F := sF) k_graph_within x
    assumption
  case a => kernel_rfl
  case b => kernel_rfl
  case c => kernel_rfl
  case d => rfl
  case e => first | rfl | (simp only [List.all_cons, List.all_nil, Bool.and_true]; first | rfl | assumption | exact caps_ok hcs)
theorem k_graph_fits : K_graph_fits Try.prog sF := by
  unfold K_graph_fits
  rw [show sF "graph.fits" = 119 by kernel_rfl]
  intro x n hn
  refine FC.of' (rs := [.t 4]) (H := wMd h_graph_fits sMd) (lc := c_graph_fits sF) (n := 2) Try.func119 Try.mx ?a ?b ?c ?d ?e ?f
  case f =>
    have hw := w_graph_fits (P := Try.prog) (F := sF) k_graph_within x n hn
    assumption
  case a => kernel_rfl
  case b => kernel_rfl
  case c => kernel_rfl
  case d => rfl
  case e => first | rfl | (simp only [List.all_cons, List.all_nil, Bool.and_true]; first | rfl | assumption | exact caps_ok hcs)
theorem k_graph_Valid_2 : K_graph_Valid_2 Try.prog sF := by
  unfold K_graph_Valid_2
  rw [show sF "graph.Valid.2" = 118 by kernel_rfl]
  intro x ns es hn
  refine FC.of' (rs := [.t 3]) (H := wMd h_graph_Valid_2 sMd) (lc := c_graph_Valid_2 sF) (n := 2) Try.func118 Try.mx ?a ?b ?c ?d ?e ?f
  case f =>
    have hw := w_graph_Valid_2 (P := Try.prog) (F := sF) k_graph_fits x ns es hn
    assumption
  case a => kernel_rfl
  case b => kernel_rfl
  case c => kernel_rfl
  case d => rfl
  case e => first | rfl | (simp only [List.all_cons, List.all_nil, Bool.and_true]; first | rfl | assumption | exact caps_ok hcs)
theorem k_graph_Valid : K_graph_Valid Try.prog sF := by
  unfold K_graph_Valid
  rw [show sF "graph.Valid" = 85 by kernel_rfl]
  intro g
  refine FC.of' (rs := [.t 2]) (H := wMd h_graph_Valid sMd) (lc := c_graph_Valid sF) (n := 1) Try.func85 Try.mx ?a ?b ?c ?d ?e ?f
  case f =>
    have hw := w_graph_Valid (P := Try.prog) (F := sF) k_slices_ContainsFunc_I k_slices_ContainsFunc_E k_graph_Valid_1 k_graph_Valid_2 g
    assumption
  case a => kernel_rfl
  case b => kernel_rfl
  case c => kernel_rfl
  case d => rfl
  case e => first | rfl | (simp only [List.all_cons, List.all_nil, Bool.and_true]; first | rfl | assumption | exact caps_ok hcs)
theorem k_morphism_Valid : K_morphism_Valid Try.prog sF := by
  unfold K_morphism_Valid
  rw [show sF "morphism.Valid" = 69 by kernel_rfl]
  intro a b m
  refine FC.of' (rs := [.t 6]) (H := wMd h_morphism_Valid sMd) (lc := c_morphism_Valid sF) (n := 3) Try.func69 Try.mx ?a ?b ?c ?d ?e ?f
  case f =>
    have hw := w_morphism_Valid (P := Try.prog) (F := sF) k_graph_Valid a b m
    assumption
  case a => kernel_rfl
  case b => kernel_rfl
  case c => kernel_rfl
  case d => rfl
  case e => first | rfl | (simp only [List.all_cons, List.all_nil, Bool.and_true]; first | rfl | assumption | exact caps_ok hcs)
theorem k_subgraph_list : K_subgraph_list Try.prog sF := by
  unfold K_subgraph_list
  rw [show sF "subgraph.list" = 113 by kernel_rfl]
  intro l n hl h0 h1
  refine FC.of' (rs := [.t 4]) (H := wMd h_subgraph_list sMd) (lc := c_subgraph_list sF) (n := 2) Try.func113 Try.mx ?a ?b ?c ?d ?e ?f
  case f =>
    have hw := w_subgraph_list (P := Try.prog) (F := sF) l n hl h0 h1
    assumption
  case a => kernel_rfl
  case b => kernel_rfl
  case c => kernel_rfl
  case d => rfl
  case e => first | rfl | (simp only [List.all_cons, List.all_nil, Bool.and_true]; first | rfl | assumption | exact caps_ok hcs)
theorem k_cmp_isNaN_I : K_cmp_isNaN_I Try.prog sF := by
  unfold K_cmp_isNaN_I
  rw [show sF "cmp.isNaN.I" = 120 by kernel_rfl]
  intro x
  refine FC.of' (rs := [.t 2]) (H := wMd h_cmp_isNaN_I sMd) (lc := c_cmp_isNaN_I sF) (n := 1) Try.func120 Try.mx ?a ?b ?c ?d ?e ?f
  case f =>
    have hw := w_cmp_isNaN_I (P := Try.prog) (F := sF) x
    assumption
  case a => kernel_rfl
  case b => kernel_rfl
  case c => kernel_rfl
  case d => rfl
  case e => first | rfl | (simp only [List.all_cons, List.all_nil, Bool.and_true]; first | rfl | assumption | exact caps_ok hcs)
theorem k_cmp_Less_I : K_cmp_Less_I Try.prog sF := by
  unfold K_cmp_Less_I
  rw [show sF "cmp.Less.I" = 86 by kernel_rfl]
  intro x y
  refine FC.of' (rs := [.t 4]) (H := wMd h_cmp_Less_I sMd) (lc := c_cmp_Less_I sF) (n := 2) Try.func86 Try.mx ?a ?b ?c ?d ?e ?f
  case f =>
    have hw := w_cmp_Less_I (P := Try.prog) (F := sF) k_cmp_isNaN_I x y
    assumption
  case a => kernel_rfl
  case b => kernel_rfl
  case c => kernel_rfl
  case d => rfl
  case e => first | rfl | (simp only [List.all_cons, List.all_nil, Bool.and_true]; first | rfl | assumption | exact caps_ok hcs)
theorem k_slices_isNaN_I : K_slices_isNaN_I Try.prog sF := by
  unfold K_slices_isNaN_I
  rw [show sF "slices.isNaN.I" = 87 by kernel_rfl]
  intro x
  refine FC.of' (rs := [.t 2]) (H := wMd h_slices_isNaN_I sMd) (lc := c_slices_isNaN_I sF) (n := 1) Try.func87 Try.mx ?a ?b ?c ?d ?e ?f
  case f =>
    have hw := w_slices_isNaN_I (P := Try.prog) (F := sF) x
    assumption
  case a => kernel_rfl
  case b => kernel_rfl
  case c => kernel_rfl
  case d => rfl
  case e => first | rfl | (simp only [List.all_cons, List.all_nil, Bool.and_true]; first | rfl | assumption | exact caps_ok hcs)
theorem k_slices_BinarySearch_I : K_slices_BinarySearch_I Try.prog sF := by
  unfold K_slices_BinarySearch_I
  rw [show sF "slices.BinarySearch.I" = 64 by kernel_rfl]
  intro l x hp hl
  refine FC.of' (rs := [.t 4, .t 5]) (H := wMd h_slices_BinarySearch_I sMd) (lc := c_slices_BinarySearch_I sF) (n := 2) Try.func64 Try.mx ?a ?b ?c ?d ?e ?f
  case f =>
    have hw := w_slices_BinarySearch_I (P := Try.prog) (F := sF) k_cmp_Less_I k_slices_isNaN_I l x hp hl
    assumption
  case a => kernel_rfl
  case b => kernel_rfl
  case c => kernel_rfl
  case d => rfl
  case e => first | rfl | (simp only [List.all_cons, List.all_nil, Bool.and_true]; first | rfl | assumption | exact caps_ok hcs)
theorem k_subgraph_has : K_subgraph_has Try.prog sF := by
  unfold K_subgraph_has
  rw [show sF "subgraph.has" = 114 by kernel_rfl]
  intro l x hp hl
  refine FC.of' (rs := [.t 4]) (H := wMd h_subgraph_has sMd) (lc := c_subgraph_has sF) (n := 2) Try.func114 Try.mx ?a ?b ?c ?d ?e ?f
  case f =>
    have hw := w_subgraph_has (P := Try.prog) (F := sF) k_slices_BinarySearch_I l x hp hl
    assumption
  case a => kernel_rfl
  case b => kernel_rfl
  case c => kernel_rfl
  case d => rfl
  case e => first | rfl | (simp only [List.all_cons, List.all_nil, Bool.and_true]; first | rfl | assumption | exact caps_ok hcs)
theorem k_subgraph_part : K_subgraph_part Try.prog sF := by
  unfold K_subgraph_part
  rw [show sF "subgraph.part" = 81 by kernel_rfl]
  intro g p hv h1 h2
  refine FC.of' (rs := [.t 4]) (H := wMd h_subgraph_part sMd) (lc := c_subgraph_part sF) (n := 2) Try.func81 Try.mx ?a ?b ?c ?d ?e ?f
  case f =>
    have hw := w_subgraph_part (P := Try.prog) (F := sF) k_subgraph_list k_subgraph_has g p hv h1 h2
    assumption
  case a => kernel_rfl
  case b => kernel_rfl
  case c => kernel_rfl
  case d => rfl
  case e => first | rfl | (simp only [List.all_cons, List.all_nil, Bool.and_true]; first | rfl | assumption | exact caps_ok hcs)
theorem k_subgraph_Valid : K_subgraph_Valid Try.prog sF := by
  unfold K_subgraph_Valid
  rw [show sF "subgraph.Valid" = 63 by kernel_rfl]
  intro g p h1 h2
  refine FC.of' (rs := [.t 4]) (H := wMd h_subgraph_Valid sMd) (lc := c_subgraph_Valid sF) (n := 2) Try.func63 Try.mx ?a ?b ?c ?d ?e ?f
  case f =>
    have hw := w_subgraph_Valid (P := Try.prog) (F := sF) k_graph_Valid k_subgraph_part g p h1 h2
    assumption
  case a => kernel_rfl
  case b => kernel_rfl
  case c => kernel_rfl
  case d => rfl
  case e => first | rfl | (simp only [List.all_cons, List.all_nil, Bool.and_true]; first | rfl | assumption | exact caps_ok hcs)
theorem k_complement_gluing_given : K_complement_gluing_given Try.prog sF := by
  unfold K_complement_gluing_given
  rw [show sF "complement.gluing.given" = 41 by kernel_rfl]
  intro x hs
  refine FC.of' (rs := [.t 2]) (H := wMd h_complement_gluing_given sMd) (lc := c_complement_gluing_given sF) (n := 1) Try.func41 Try.mx ?a ?b ?c ?d ?e ?f
  case f =>
    have hw := w_complement_gluing_given (P := Try.prog) (F := sF) k_morphism_Valid k_subgraph_Valid x hs
    assumption
  case a => kernel_rfl
  case b => kernel_rfl
  case c => kernel_rfl
  case d => rfl
  case e => first | rfl | (simp only [List.all_cons, List.all_nil, Bool.and_true]; first | rfl | assumption | exact caps_ok hcs)
theorem k_slices_Index_I : K_slices_Index_I Try.prog sF := by
  unfold K_slices_Index_I
  rw [show sF "slices.Index.I" = 37 by kernel_rfl]
  intro l x hl
  refine FC.of' (rs := [.t 4]) (H := wMd h_slices_Index_I sMd) (lc := c_slices_Index_I sF) (n := 2) Try.func37 Try.mx ?a ?b ?c ?d ?e ?f
  case f =>
    have hw := w_slices_Index_I (P := Try.prog) (F := sF) l x hl
    assumption
  case a => kernel_rfl
  case b => kernel_rfl
  case c => kernel_rfl
  case d => rfl
  case e => first | rfl | (simp only [List.all_cons, List.all_nil, Bool.and_true]; first | rfl | assumption | exact caps_ok hcs)
theorem k_slices_Contains_I : K_slices_Contains_I Try.prog sF := by
  unfold K_slices_Contains_I
  rw [show sF "slices.Contains.I" = 33 by kernel_rfl]
  intro l x hl
  refine FC.of' (rs := [.t 4]) (H := wMd h_slices_Contains_I sMd) (lc := c_slices_Contains_I sF) (n := 2) Try.func33 Try.mx ?a ?b ?c ?d ?e ?f
  case f =>
    have hw := w_slices_Contains_I (P := Try.prog) (F := sF) k_slices_Index_I l x hl
    assumption
  case a => kernel_rfl
  case b => kernel_rfl
  case c => kernel_rfl
  case d => rfl
  case e => first | rfl | (simp only [List.all_cons, List.all_nil, Bool.and_true]; first | rfl | assumption | exact caps_ok hcs)
theorem k_complement_pairs : K_complement_pairs Try.prog sF := by
  unfold K_complement_pairs
  rw [show sF "complement.pairs" = 70 by kernel_rfl]
  intro im kn h1 h2
  refine FC.of' (rs := [.t 4]) (H := wMd h_complement_pairs sMd) (lc := c_complement_pairs sF) (n := 2) Try.func70 Try.mx ?a ?b ?c ?d ?e ?f
  case f =>
    have hw := w_complement_pairs (P := Try.prog) (F := sF) k_slices_Contains_I im kn h1 h2
    assumption
  case a => kernel_rfl
  case b => kernel_rfl
  case c => kernel_rfl
  case d => rfl
  case e => first | rfl | (simp only [List.all_cons, List.all_nil, Bool.and_true]; first | rfl | assumption | exact caps_ok hcs)
theorem k_complement_gluing_identified : K_complement_gluing_identified Try.prog sF := by
  unfold K_complement_gluing_identified
  rw [show sF "complement.gluing.identified" = 42 by kernel_rfl]
  intro x he
  refine FC.of' (rs := [.t 2, .t 3]) (H := wMd h_complement_gluing_identified sMd) (lc := c_complement_gluing_identified sF) (n := 1) Try.func42 Try.mx ?a ?b ?c ?d ?e ?f
  case f =>
    have hw := w_complement_gluing_identified (P := Try.prog) (F := sF) k_complement_pairs x he
    assumption
  case a => kernel_rfl
  case b => kernel_rfl
  case c => kernel_rfl
  case d => rfl
  case e => first | rfl | (simp only [List.all_cons, List.all_nil, Bool.and_true]; first | rfl | assumption | exact caps_ok hcs)
theorem k_complement_gluing_deleted : K_complement_gluing_deleted Try.prog sF := by
  unfold K_complement_gluing_deleted
  rw [show sF "complement.gluing.deleted" = 71 by kernel_rfl]
  intro x h1 h2
  refine FC.of' (rs := [.t 2]) (H := wMd h_complement_gluing_deleted sMd) (lc := c_complement_gluing_deleted sF) (n := 1) Try.func71 Try.mx ?a ?b ?c ?d ?e ?f
  case f =>
    have hw := w_complement_gluing_deleted (P := Try.prog) (F := sF) k_slices_Contains_I x h1 h2
    assumption
  case a => kernel_rfl
  case b => kernel_rfl
  case c => kernel_rfl
  case d => rfl
  case e => first | rfl | (simp only [List.all_cons, List.all_nil, Bool.and_true]; first | rfl | assumption | exact caps_ok hcs)
theorem k_complement_gluing_dangling : K_complement_gluing_dangling Try.prog sF := by
  unfold K_complement_gluing_dangling
  rw [show sF "complement.gluing.dangling" = 43 by kernel_rfl]
  intro x he
  refine FC.of' (rs := [.t 2]) (H := wMd h_complement_gluing_dangling sMd) (lc := c_complement_gluing_dangling sF) (n := 1) Try.func43 Try.mx ?a ?b ?c ?d ?e ?f
  case f =>
    have hw := w_complement_gluing_dangling (P := Try.prog) (F := sF) k_complement_gluing_deleted k_slices_Contains_I x he
    assumption
  case a => kernel_rfl
  case b => kernel_rfl
  case c => kernel_rfl
  case d => rfl
  case e => first | rfl | (simp only [List.all_cons, List.all_nil, Bool.and_true]; first | rfl | assumption | exact caps_ok hcs)
theorem k_complement_rest : K_complement_rest Try.prog sF := by
  unfold K_complement_rest
  rw [show sF "complement.rest" = 44 by kernel_rfl]
  intro n im kn hn h1 h2 hb
  refine FC.of' (rs := [.t 6]) (H := wMd h_complement_rest sMd) (lc := c_complement_rest sF) (n := 3) Try.func44 Try.mx ?a ?b ?c ?d ?e ?f
  case f =>
    have hw := w_complement_rest (P := Try.prog) (F := sF) k_slices_Contains_I n im kn hn h1 h2 hb
    assumption
  case a => kernel_rfl
  case b => kernel_rfl
  case c => kernel_rfl
  case d => rfl
  case e => first | rfl | (simp only [List.all_cons, List.all_nil, Bool.and_true]; first | rfl | assumption | exact caps_ok hcs)
theorem k_complement_Of : K_complement_Of Try.prog sF := by
  unfold K_complement_Of
  rw [show sF "complement.Of" = 12 by kernel_rfl]
  intro x hs
  refine FC.of' (rs := [.c 8 true 2, .t 9]) (H := wMd h_complement_Of sMd) (lc := c_complement_Of sF) (n := 4) Try.func12 Try.mx ?a ?b ?c ?d ?e ?f
  case f =>
    have hw := w_complement_Of (P := Try.prog) (F := sF) k_complement_gluing_given k_complement_gluing_identified k_complement_gluing_dangling k_complement_rest x hs
    assumption
  case a => kernel_rfl
  case b => kernel_rfl
  case c => kernel_rfl
  case d => rfl
  case e => first | rfl | (simp only [List.all_cons, List.all_nil, Bool.and_true]; first | rfl | assumption | exact caps_ok hcs)
theorem k_complement_Dangling : K_complement_Dangling Try.prog sF := by
  unfold K_complement_Dangling
  rw [show sF "complement.Dangling" = 23 by kernel_rfl]
  intro x hs
  refine FC.of' (rs := [.t 8, .t 9]) (H := wMd h_complement_Dangling sMd) (lc := c_complement_Dangling sF) (n := 4) Try.func23 Try.mx ?a ?b ?c ?d ?e ?f
  case f =>
    have hw := w_complement_Dangling (P := Try.prog) (F := sF) k_complement_gluing_given k_complement_gluing_dangling x hs
    assumption
  case a => kernel_rfl
  case b => kernel_rfl
  case c => kernel_rfl
  case d => rfl
  case e => first | rfl | (simp only [List.all_cons, List.all_nil, Bool.and_true]; first | rfl | assumption | exact caps_ok hcs)
theorem k_slices_Clone_I : K_slices_Clone_I Try.prog sF := by
  unfold K_slices_Clone_I
  rw [show sF "slices.Clone.I" = 45 by kernel_rfl]
  intro l hl
  refine FC.of' (rs := [.t 2]) (H := wMd h_slices_Clone_I sMd) (lc := c_slices_Clone_I sF) (n := 1) Try.func45 Try.mx ?a ?b ?c ?d ?e ?f
  case f =>
    have hw := w_slices_Clone_I (P := Try.prog) (F := sF) l hl
    assumption
  case a => kernel_rfl
  case b => kernel_rfl
  case c => kernel_rfl
  case d => rfl
  case e => first | rfl | (simp only [List.all_cons, List.all_nil, Bool.and_true]; first | rfl | assumption | exact caps_ok hcs)
def SortL_ren : Go.Shelf.Ren := ⟨fun | 189 => 52 | 125 => 76 | 257 => 75 | 128 => 105 | 129 => 106 | 294 => 97 | 295 => 98 | 296 => 99 | 297 => 100 | 298 => 101 | 299 => 102 | 216 => 86 | 300 => 103 | 301 => 104 | 328 => 127 | 329 => 128 | 330 => 129 | 331 => 130 | 332 => 131 | 215 => 120 | 343 => 138 | n => n, fun | 28 => 22 | 3 => 3 | 46 => 111 | 0 => 0 | 51 => 136 | 53 => 42 | 4 => 4 | 183 => 130 | 182 => 129 | 131 => 101 | 5 => 5 | 9 => 9 | 218 => 151 | 222 => 155 | 228 => 159 | 229 => 160 | n => n, fun | n => n⟩
theorem SortL : Go.Proofs.Lays.n189 Try.prog SortL_ren := {
  mixed := by kernel_rfl,
  f125 := Try.func76.trans (congrArg some (by kernel_rfl)),
  f128 := Try.func105.trans (congrArg some (by kernel_rfl)),
  f129 := Try.func106.trans (congrArg some (by kernel_rfl)),
  f189 := Try.func52.trans (congrArg some (by kernel_rfl)),
  f215 := Try.func120.trans (congrArg some (by kernel_rfl)),
  f216 := Try.func86.trans (congrArg some (by kernel_rfl)),
  f257 := Try.func75.trans (congrArg some (by kernel_rfl)),
  f294 := Try.func97.trans (congrArg some (by kernel_rfl)),
  f295 := Try.func98.trans (congrArg some (by kernel_rfl)),
  f296 := Try.func99.trans (congrArg some (by kernel_rfl)),
  f297 := Try.func100.trans (congrArg some (by kernel_rfl)),
  f298 := Try.func101.trans (congrArg some (by kernel_rfl)),
  f299 := Try.func102.trans (congrArg some (by kernel_rfl)),
  f300 := Try.func103.trans (congrArg some (by kernel_rfl)),
  f301 := Try.func104.trans (congrArg some (by kernel_rfl)),
  f328 := Try.func127.trans (congrArg some (by kernel_rfl)),
  f329 := Try.func128.trans (congrArg some (by kernel_rfl)),
  f330 := Try.func129.trans (congrArg some (by kernel_rfl)),
  f331 := Try.func130.trans (congrArg some (by kernel_rfl)),
  f332 := Try.func131.trans (congrArg some (by kernel_rfl)),
  f343 := Try.func138.trans (congrArg some (by kernel_rfl)),
  t0 := Try.underlying0,
  a0 := Try.isAgg0,
  z0 := Try.sizeOf0,
  v0 := Try.zeroValue0,
  t3 := Try.underlying3,
  a3 := Try.isAgg3,
  z3 := Try.sizeOf3,
  v3 := Try.zeroValue3,
  t4 := Try.underlying4,
  a4 := Try.isAgg4,
  z4 := Try.sizeOf4,
  v4 := Try.zeroValue4,
  t5 := Try.underlying5,
  a5 := Try.isAgg5,
  z5 := Try.sizeOf5,
  v5 := Try.zeroValue5,
  t9 := Try.underlying9,
  a9 := Try.isAgg9,
  z9 := Try.sizeOf9,
  v9 := Try.zeroValue9,
  t28 := Try.underlying22,
  a28 := Try.isAgg22,
  z28 := Try.sizeOf22,
  v28 := Try.zeroValue22,
  t46 := Try.underlying111,
  a46 := Try.isAgg111,
  z46 := Try.sizeOf111,
  v46 := Try.zeroValue111,
  t51 := Try.underlying136,
  a51 := Try.isAgg136,
  z51 := Try.sizeOf136,
  v51 := Try.zeroValue136,
  t53 := Try.underlying42,
  a53 := Try.isAgg42,
  z53 := Try.sizeOf42,
  v53 := Try.zeroValue42,
  t131 := Try.underlying101,
  a131 := Try.isAgg101,
  z131 := Try.sizeOf101,
  v131 := Try.zeroValue101,
  t182 := Try.underlying129,
  a182 := Try.isAgg129,
  z182 := Try.sizeOf129,
  v182 := Try.zeroValue129,
  t183 := Try.underlying130,
  a183 := Try.isAgg130,
  z183 := Try.sizeOf130,
  v183 := Try.zeroValue130,
  t218 := Try.underlying151,
  a218 := Try.isAgg151,
  z218 := Try.sizeOf151,
  v218 := Try.zeroValue151,
  t222 := Try.underlying155,
  a222 := Try.isAgg155,
  z222 := Try.sizeOf155,
  v222 := Try.zeroValue155,
  t228 := Try.underlying159,
  a228 := Try.isAgg159,
  z228 := Try.sizeOf159,
  v228 := Try.zeroValue159,
  t229 := Try.underlying160,
  a229 := Try.isAgg160,
  z229 := Try.sizeOf160,
  v229 := Try.zeroValue160 }
theorem k_slices_Sort_I : K_slices_Sort_I Try.prog sF := by
  unfold K_slices_Sort_I
  rw [show sF "slices.Sort.I" = 52 by kernel_rfl]
  intro l hl
  have hb : (Try.f52.body.isSome) = true := by kernel_rfl
  obtain ⟨body, hb⟩ := Option.isSome_iff_exists.1 hb
  exact sort_FC (callFunc_enter Try.func52 (by kernel_rfl) hb) (fun blk off cap zs w h1 h2 h3 => Go.Proofs.Any.slices_Sort_int SortL blk off cap zs w h1 h2 h3) (fun p cap w => Go.Proofs.Any.slices_Sort_int_none SortL p cap w) l hl
theorem k_slices_Compact_I : K_slices_Compact_I Try.prog sF := by
  unfold K_slices_Compact_I
  rw [show sF "slices.Compact.I" = 53 by kernel_rfl]
  intro l hl
  refine FC.of' (rs := [.t 2]) (H := wMd h_slices_Compact_I sMd) (lc := c_slices_Compact_I sF) (n := 1) Try.func53 Try.mx ?a ?b ?c ?d ?e ?f
  case f =>
    have hw := w_slices_Compact_I (P := Try.prog) (F := sF) l hl
    assumption
  case a => kernel_rfl
  case b => kernel_rfl
  case c => kernel_rfl
  case d => rfl
  case e => first | rfl | (simp only [List.all_cons, List.all_nil, Bool.and_true]; first | rfl | assumption | exact caps_ok hcs)
theorem k_complement_Repair : K_complement_Repair Try.prog sF := by
  unfold K_complement_Repair
  rw [show sF "complement.Repair" = 16 by kernel_rfl]
  intro x hs
  refine FC.of' (rs := [.c 8 true 2, .t 9]) (H := wMd h_complement_Repair sMd) (lc := c_complement_Repair sF) (n := 4) Try.func16 Try.mx ?a ?b ?c ?d ?e ?f
  case f =>
    have hw := w_complement_Repair (P := Try.prog) (F := sF) k_complement_gluing_given k_slices_Clone_I k_complement_gluing_identified k_complement_gluing_dangling k_slices_Sort_I k_slices_Compact_I x hs
    assumption
  case a => kernel_rfl
  case b => kernel_rfl
  case c => kernel_rfl
  case d => rfl
  case e => first | rfl | (simp only [List.all_cons, List.all_nil, Bool.and_true]; first | rfl | assumption | exact caps_ok hcs)
theorem k_r05_SameInts : K_r05_SameInts Try.prog sF := by
  unfold K_r05_SameInts
  rw [show sF "r05.SameInts" = 51 by kernel_rfl]
  intro a b hl
  refine FC.of' (rs := [.t 4]) (H := wMd h_r05_SameInts sMd) (lc := c_r05_SameInts sF) (n := 2) Try.func51 Try.mx ?a ?b ?c ?d ?e ?f
  case f =>
    have hw := w_r05_SameInts (P := Try.prog) (F := sF) a b hl
    assumption
  case a => kernel_rfl
  case b => kernel_rfl
  case c => kernel_rfl
  case d => rfl
  case e => first | rfl | (simp only [List.all_cons, List.all_nil, Bool.and_true]; first | rfl | assumption | exact caps_ok hcs)
theorem k_r07_Same : K_r07_Same Try.prog sF := by
  unfold K_r07_Same
  rw [show sF "r07.Same" = 15 by kernel_rfl]
  intro a b h1 h2
  refine FC.of' (rs := [.t 4]) (H := wMd h_r07_Same sMd) (lc := c_r07_Same sF) (n := 2) Try.func15 Try.mx ?a ?b ?c ?d ?e ?f
  case f =>
    have hw := w_r07_Same (P := Try.prog) (F := sF) k_r05_SameInts a b h1 h2
    assumption
  case a => kernel_rfl
  case b => kernel_rfl
  case c => kernel_rfl
  case d => rfl
  case e => first | rfl | (simp only [List.all_cons, List.all_nil, Bool.and_true]; first | rfl | assumption | exact caps_ok hcs)
theorem k_slices_Equal_I : K_slices_Equal_I Try.prog sF := by
  unfold K_slices_Equal_I
  rw [show sF "slices.Equal.I" = 27 by kernel_rfl]
  intro a b hl
  refine FC.of' (rs := [.t 4]) (H := wMd h_slices_Equal_I sMd) (lc := c_slices_Equal_I sF) (n := 2) Try.func27 Try.mx ?a ?b ?c ?d ?e ?f
  case f =>
    have hw := w_slices_Equal_I (P := Try.prog) (F := sF) a b hl
    assumption
  case a => kernel_rfl
  case b => kernel_rfl
  case c => kernel_rfl
  case d => rfl
  case e => first | rfl | (simp only [List.all_cons, List.all_nil, Bool.and_true]; first | rfl | assumption | exact caps_ok hcs)
theorem k_l12_awake : K_l12_awake Try.prog sF := by
  unfold K_l12_awake
  rw [show sF "l12.awake" = 10 by kernel_rfl]
  refine FC.of' (rs := [.t 0]) (H := wMd h_l12_awake sMd) (lc := c_l12_awake sF) (n := 0) Try.func10 Try.mx ?a ?b ?c ?d ?e ?f
  case f =>
    have hw := w_l12_awake (P := Try.prog) (F := sF) k_complement_Of k_complement_Dangling k_complement_Repair k_r07_Same k_slices_Equal_I
    assumption
  case a => kernel_rfl
  case b => kernel_rfl
  case c => kernel_rfl
  case d => rfl
  case e => first | rfl | (simp only [List.all_cons, List.all_nil, Bool.and_true]; first | rfl | assumption | exact caps_ok hcs)
theorem k_r05_Made : K_r05_Made Try.prog sF := by
  unfold K_r05_Made
  rw [show sF "r05.Made" = 55 by kernel_rfl]
  intro x hx h1 h2
  refine FC.of' (rs := [.c 2 true 2]) (H := wMd h_r05_Made sMd) (lc := c_r05_Made sF) (n := 1) Try.func55 Try.mx ?a ?b ?c ?d ?e ?f
  case f =>
    have hw := w_r05_Made (P := Try.prog) (F := sF) x hx h1 h2
    assumption
  case a => kernel_rfl
  case b => kernel_rfl
  case c => kernel_rfl
  case d => rfl
  case e => first | rfl | (simp only [List.all_cons, List.all_nil, Bool.and_true]; first | rfl | assumption | exact caps_ok hcs)
theorem k_r05_Copied : K_r05_Copied Try.prog sF := by
  unfold K_r05_Copied
  rw [show sF "r05.Copied" = 78 by kernel_rfl]
  intro g h0 h1
  refine FC.of' (rs := [.c 2 true 2]) (H := wMd h_r05_Copied sMd) (lc := c_r05_Copied sF) (n := 1) Try.func78 Try.mx ?a ?b ?c ?d ?e ?f
  case f =>
    have hw := w_r05_Copied (P := Try.prog) (F := sF) g h0 h1
    assumption
  case a => kernel_rfl
  case b => kernel_rfl
  case c => kernel_rfl
  case d => rfl
  case e => first | rfl | (simp only [List.all_cons, List.all_nil, Bool.and_true]; first | rfl | assumption | exact caps_ok hcs)
theorem k_r02_Finest : K_r02_Finest Try.prog sF := by
  unfold K_r02_Finest
  rw [show sF "r02.Finest" = 109 by kernel_rfl]
  intro n h2
  refine FC.of' (rs := [.t 2]) (H := wMd h_r02_Finest sMd) (lc := c_r02_Finest sF) (n := 1) Try.func109 Try.mx ?a ?b ?c ?d ?e ?f
  case f =>
    have hw := w_r02_Finest (P := Try.prog) (F := sF) n h2
    assumption
  case a => kernel_rfl
  case b => kernel_rfl
  case c => kernel_rfl
  case d => rfl
  case e => first | rfl | (simp only [List.all_cons, List.all_nil, Bool.and_true]; first | rfl | assumption | exact caps_ok hcs)
theorem k_r06_Of : K_r06_Of Try.prog sF := by
  unfold K_r06_Of
  rw [show sF "r06.Of" = 79 by kernel_rfl]
  intro g h1 h2
  refine FC.of' (rs := [.c 2 true 2]) (H := wMd h_r06_Of sMd) (lc := c_r06_Of sF) (n := 1) Try.func79 Try.mx ?a ?b ?c ?d ?e ?f
  case f =>
    have hw := w_r06_Of (P := Try.prog) (F := sF) k_r02_Finest g h1 h2
    assumption
  case a => kernel_rfl
  case b => kernel_rfl
  case c => kernel_rfl
  case d => rfl
  case e => first | rfl | (simp only [List.all_cons, List.all_nil, Bool.and_true]; first | rfl | assumption | exact caps_ok hcs)
theorem k_r06_numbers : K_r06_numbers Try.prog sF := by
  unfold K_r06_numbers
  rw [show sF "r06.numbers" = 110 by kernel_rfl]
  intro l hl hb
  refine FC.of' (rs := [.t 2]) (H := wMd h_r06_numbers sMd) (lc := c_r06_numbers sF) (n := 1) Try.func110 Try.mx ?a ?b ?c ?d ?e ?f
  case f =>
    have hw := w_r06_numbers (P := Try.prog) (F := sF) l hl hb
    assumption
  case a => kernel_rfl
  case b => kernel_rfl
  case c => kernel_rfl
  case d => rfl
  case e => first | rfl | (simp only [List.all_cons, List.all_nil, Bool.and_true]; first | rfl | assumption | exact caps_ok hcs)
theorem k_r02_Merge : K_r02_Merge Try.prog sF := by
  unfold K_r02_Merge
  rw [show sF "r02.Merge" = 111 by kernel_rfl]
  intro p a b hl ha hb
  refine FC.of' (rs := [.t 6]) (H := wMd h_r02_Merge sMd) (lc := c_r02_Merge sF) (n := 3) Try.func111 Try.mx ?a ?b ?c ?d ?e ?f
  case f =>
    have hw := w_r02_Merge (P := Try.prog) (F := sF) p a b hl ha hb
    assumption
  case a => kernel_rfl
  case b => kernel_rfl
  case c => kernel_rfl
  case d => rfl
  case e => first | rfl | (simp only [List.all_cons, List.all_nil, Bool.and_true]; first | rfl | assumption | exact caps_ok hcs)
theorem k_r02_Valid : K_r02_Valid Try.prog sF := by
  unfold K_r02_Valid
  rw [show sF "r02.Valid" = 139 by kernel_rfl]
  intro p hp
  refine FC.of' (rs := [.t 2]) (H := wMd h_r02_Valid sMd) (lc := c_r02_Valid sF) (n := 1) Try.func139 Try.mx ?a ?b ?c ?d ?e ?f
  case f =>
    have hw := w_r02_Valid (P := Try.prog) (F := sF) p hp
    assumption
  case a => kernel_rfl
  case b => kernel_rfl
  case c => kernel_rfl
  case d => rfl
  case e => first | rfl | (simp only [List.all_cons, List.all_nil, Bool.and_true]; first | rfl | assumption | exact caps_ok hcs)
theorem k_r02_one : K_r02_one Try.prog sF := by
  unfold K_r02_one
  rw [show sF "r02.one" = 132 by kernel_rfl]
  intro p hp
  refine FC.of' (rs := [.t 2]) (H := wMd h_r02_one sMd) (lc := c_r02_one sF) (n := 1) Try.func132 Try.mx ?a ?b ?c ?d ?e ?f
  case f =>
    have hw := w_r02_one (P := Try.prog) (F := sF) k_r02_Valid p hp
    assumption
  case a => kernel_rfl
  case b => kernel_rfl
  case c => kernel_rfl
  case d => rfl
  case e => first | rfl | (simp only [List.all_cons, List.all_nil, Bool.and_true]; first | rfl | assumption | exact caps_ok hcs)
theorem k_r02_Quotient : K_r02_Quotient Try.prog sF := by
  unfold K_r02_Quotient
  rw [show sF "r02.Quotient" = 112 by kernel_rfl]
  intro p hp
  refine FC.of' (rs := [.t 2, .t 3, .t 4]) (H := wMd h_r02_Quotient sMd) (lc := c_r02_Quotient sF) (n := 1) Try.func112 Try.mx ?a ?b ?c ?d ?e ?f
  case f =>
    have hw := w_r02_Quotient (P := Try.prog) (F := sF) k_r02_one p hp
    assumption
  case a => kernel_rfl
  case b => kernel_rfl
  case c => kernel_rfl
  case d => rfl
  case e => first | rfl | (simp only [List.all_cons, List.all_nil, Bool.and_true]; first | rfl | assumption | exact caps_ok hcs)
theorem k_r06_Image : K_r06_Image Try.prog sF := by
  unfold K_r06_Image
  rw [show sF "r06.Image" = 80 by kernel_rfl]
  intro g l hv hl hb
  refine FC.of' (rs := [.c 4 true 2, .c 5 true 2]) (H := wMd h_r06_Image sMd) (lc := c_r06_Image sF) (n := 2) Try.func80 Try.mx ?a ?b ?c ?d ?e ?f
  case f =>
    have hw := w_r06_Image (P := Try.prog) (F := sF) k_r06_numbers k_r02_Finest k_r02_Merge k_r02_Quotient g l hv hl hb
    assumption
  case a => kernel_rfl
  case b => kernel_rfl
  case c => kernel_rfl
  case d => rfl
  case e => first | rfl | (simp only [List.all_cons, List.all_nil, Bool.and_true]; first | rfl | assumption | exact caps_ok hcs)
theorem k_r10_Grown : K_r10_Grown Try.prog sF := by
  unfold K_r10_Grown
  rw [show sF "r10.Grown" = 56 by kernel_rfl]
  intro a c hv hl hb
  refine FC.of' (rs := [.c 4 true 2, .c 5 true 2]) (H := wMd h_r10_Grown sMd) (lc := c_r10_Grown sF) (n := 2) Try.func56 Try.mx ?a ?b ?c ?d ?e ?f
  case f =>
    have hw := w_r10_Grown (P := Try.prog) (F := sF) k_r05_Copied k_r06_Of k_r06_Image a c hv hl hb
    assumption
  case a => kernel_rfl
  case b => kernel_rfl
  case c => kernel_rfl
  case d => rfl
  case e => first | rfl | (simp only [List.all_cons, List.all_nil, Bool.and_true]; first | rfl | assumption | exact caps_ok hcs)
theorem k_r07_marked : K_r07_marked Try.prog sF := by
  unfold K_r07_marked
  rw [show sF "r07.marked" = 83 by kernel_rfl]
  intro b hb
  refine FC.of' (rs := [.t 2]) (H := wMd h_r07_marked sMd) (lc := c_r07_marked sF) (n := 1) Try.func83 Try.mx ?a ?b ?c ?d ?e ?f
  case f =>
    have hw := w_r07_marked (P := Try.prog) (F := sF) b hb
    assumption
  case a => kernel_rfl
  case b => kernel_rfl
  case c => kernel_rfl
  case d => rfl
  case e => first | rfl | (simp only [List.all_cons, List.all_nil, Bool.and_true]; first | rfl | assumption | exact caps_ok hcs)
theorem k_r07_Least : K_r07_Least Try.prog sF := by
  unfold K_r07_Least
  rw [show sF "r07.Least" = 60 by kernel_rfl]
  intro g bn be hv h1 h2
  refine FC.of' (rs := [.c 6 true 2]) (H := wMd h_r07_Least sMd) (lc := c_r07_Least sF) (n := 3) Try.func60 Try.mx ?a ?b ?c ?d ?e ?f
  case f =>
    have hw := w_r07_Least (P := Try.prog) (F := sF) k_r07_marked g bn be hv h1 h2
    assumption
  case a => kernel_rfl
  case b => kernel_rfl
  case c => kernel_rfl
  case d => rfl
  case e => first | rfl | (simp only [List.all_cons, List.all_nil, Bool.and_true]; first | rfl | assumption | exact caps_ok hcs)
theorem k_r07_Made : K_r07_Made Try.prog sF := by
  unfold K_r07_Made
  rw [show sF "r07.Made" = 30 by kernel_rfl]
  intro g s hv
  refine FC.of' (rs := [.c 4 true 2]) (H := wMd h_r07_Made sMd) (lc := c_r07_Made sF) (n := 2) Try.func30 Try.mx ?a ?b ?c ?d ?e ?f
  case f =>
    have hw := w_r07_Made (P := Try.prog) (F := sF) k_r07_Least g s hv
    assumption
  case a => kernel_rfl
  case b => kernel_rfl
  case c => kernel_rfl
  case d => rfl
  case e => first | rfl | (simp only [List.all_cons, List.all_nil, Bool.and_true]; first | rfl | assumption | exact caps_ok hcs)
theorem k_l12_made : K_l12_made Try.prog sF := by
  unfold K_l12_made
  rw [show sF "l12.made" = 18 by kernel_rfl]
  intro d c s hd d1 d2 c1 c2
  refine FC.of' (rs := [.c 6 true 8]) (H := wMd h_l12_made sMd) (lc := c_l12_made sF) (n := 3) Try.func18 Try.mx ?a ?b ?c ?d ?e ?f
  case f =>
    have hw := w_l12_made (P := Try.prog) (F := sF) k_r05_Made k_r10_Grown k_r07_Made d c s hd d1 d2 c1 c2
    assumption
  case a => kernel_rfl
  case b => kernel_rfl
  case c => kernel_rfl
  case d => rfl
  case e => first | rfl | (simp only [List.all_cons, List.all_nil, Bool.and_true]; first | rfl | assumption | exact caps_ok hcs)
theorem k_subgraph_Extract : K_subgraph_Extract Try.prog sF := by
  unfold K_subgraph_Extract
  rw [show sF "subgraph.Extract" = 36 by kernel_rfl]
  intro g p h1
  refine FC.of' (rs := [.c 4 true 2, .c 5 true 2, .t 6]) (H := wMd h_subgraph_Extract sMd) (lc := c_subgraph_Extract sF) (n := 2) Try.func36 Try.mx ?a ?b ?c ?d ?e ?f
  case f =>
    have hw := w_subgraph_Extract (P := Try.prog) (F := sF) k_subgraph_Valid k_slices_BinarySearch_I k_slices_Clone_I g p h1
    assumption
  case a => kernel_rfl
  case b => kernel_rfl
  case c => kernel_rfl
  case d => rfl
  case e => first | rfl | (simp only [List.all_cons, List.all_nil, Bool.and_true]; first | rfl | assumption | exact caps_ok hcs)
theorem k_pushout_span : K_pushout_span Try.prog sF := by
  unfold K_pushout_span
  rw [show sF "pushout.span" = 88 by kernel_rfl]
  intro s
  refine FC.of' (rs := [.t 2]) (H := wMd h_pushout_span sMd) (lc := c_pushout_span sF) (n := 1) Try.func88 Try.mx ?a ?b ?c ?d ?e ?f
  case f =>
    have hw := w_pushout_span (P := Try.prog) (F := sF) k_morphism_Valid s
    assumption
  case a => kernel_rfl
  case b => kernel_rfl
  case c => kernel_rfl
  case d => rfl
  case e => first | rfl | (simp only [List.all_cons, List.all_nil, Bool.and_true]; first | rfl | assumption | exact caps_ok hcs)
theorem k_slices_Grow_I : K_slices_Grow_I Try.prog sF := by
  unfold K_slices_Grow_I
  rw [show sF "slices.Grow.I" = 82 by kernel_rfl]
  intro n hn
  refine FC.of' (rs := [.t 4]) (H := wMd h_slices_Grow_I sMd) (lc := c_slices_Grow_I sF) (n := 2) Try.func82 Try.mx ?a ?b ?c ?d ?e ?f
  case f =>
    have hw := w_slices_Grow_I (P := Try.prog) (F := sF) n hn
    assumption
  case a => kernel_rfl
  case b => kernel_rfl
  case c => kernel_rfl
  case d => rfl
  case e => first | rfl | (simp only [List.all_cons, List.all_nil, Bool.and_true]; first | rfl | assumption | exact caps_ok hcs)
theorem k_slices_Concat_I : K_slices_Concat_I Try.prog sF := by
  unfold K_slices_Concat_I
  rw [show sF "slices.Concat.I" = 59 by kernel_rfl]
  intro a b ha hb
  refine FC.of' (rs := [.t 2]) (H := wMd h_slices_Concat_I sMd) (lc := c_slices_Concat_I sF) (n := 1) Try.func59 Try.mx ?a ?b ?c ?d ?e ?f
  case f =>
    have hw := w_slices_Concat_I (P := Try.prog) (F := sF) k_slices_Grow_I a b ha hb
    assumption
  case a => kernel_rfl
  case b => kernel_rfl
  case c => kernel_rfl
  case d => rfl
  case e => first | rfl | (simp only [List.all_cons, List.all_nil, Bool.and_true]; first | rfl | assumption | exact caps_ok hcs)
theorem k_slices_Clone_E : K_slices_Clone_E Try.prog sF := by
  unfold K_slices_Clone_E
  rw [show sF "slices.Clone.E" = 122 by kernel_rfl]
  intro l hl
  refine FC.of' (rs := [.t 2]) (H := wMd h_slices_Clone_E sMd) (lc := c_slices_Clone_E sF) (n := 1) Try.func122 Try.mx ?a ?b ?c ?d ?e ?f
  case f =>
    have hw := w_slices_Clone_E (P := Try.prog) (F := sF) l hl
    assumption
  case a => kernel_rfl
  case b => kernel_rfl
  case c => kernel_rfl
  case d => rfl
  case e => first | rfl | (simp only [List.all_cons, List.all_nil, Bool.and_true]; first | rfl | assumption | exact caps_ok hcs)
theorem k_graph_numbers : K_graph_numbers Try.prog sF := by
  unfold K_graph_numbers
  rw [show sF "graph.numbers" = 123 by kernel_rfl]
  intro f n h0 h1 h2
  refine FC.of' (rs := [.t 4]) (H := wMd h_graph_numbers sMd) (lc := c_graph_numbers sF) (n := 2) Try.func123 Try.mx ?a ?b ?c ?d ?e ?f
  case f =>
    have hw := w_graph_numbers (P := Try.prog) (F := sF) f n h0 h1 h2
    assumption
  case a => kernel_rfl
  case b => kernel_rfl
  case c => kernel_rfl
  case d => rfl
  case e => first | rfl | (simp only [List.all_cons, List.all_nil, Bool.and_true]; first | rfl | assumption | exact caps_ok hcs)
theorem k_graph_Union : K_graph_Union Try.prog sF := by
  unfold K_graph_Union
  rw [show sF "graph.Union" = 92 by kernel_rfl]
  intro a b
  refine FC.of' (rs := [.c 4 true 2, .c 5 true 2, .c 6 true 2, .t 7]) (H := wMd h_graph_Union sMd) (lc := c_graph_Union sF) (n := 2) Try.func92 Try.mx ?a ?b ?c ?d ?e ?f
  case f =>
    have hw := w_graph_Union (P := Try.prog) (F := sF) k_graph_Valid k_slices_Concat_I k_slices_Clone_E k_graph_numbers a b
    assumption
  case a => kernel_rfl
  case b => kernel_rfl
  case c => kernel_rfl
  case d => rfl
  case e => first | rfl | (simp only [List.all_cons, List.all_nil, Bool.and_true]; first | rfl | assumption | exact caps_ok hcs)
theorem k_pushout_pairs : K_pushout_pairs Try.prog sF := by
  unfold K_pushout_pairs
  rw [show sF "pushout.pairs" = 94 by kernel_rfl]
  intro f g l r hf hg h1 h2
  refine FC.of' (rs := [.t 8]) (H := wMd h_pushout_pairs sMd) (lc := c_pushout_pairs sF) (n := 4) Try.func94 Try.mx ?a ?b ?c ?d ?e ?f
  case f =>
    have hw := w_pushout_pairs (P := Try.prog) (F := sF) f g l r hf hg h1 h2
    assumption
  case a => kernel_rfl
  case b => kernel_rfl
  case c => kernel_rfl
  case d => rfl
  case e => first | rfl | (simp only [List.all_cons, List.all_nil, Bool.and_true]; first | rfl | assumption | exact caps_ok hcs)
theorem k_partition_finest : K_partition_finest Try.prog sF := by
  unfold K_partition_finest
  rw [show sF "partition.finest" = 134 by kernel_rfl]
  intro n hn
  refine FC.of' (rs := [.t 2]) (H := wMd h_partition_finest sMd) (lc := c_partition_finest sF) (n := 1) Try.func134 Try.mx ?a ?b ?c ?d ?e ?f
  case f =>
    have hw := w_partition_finest (P := Try.prog) (F := sF) n hn
    assumption
  case a => kernel_rfl
  case b => kernel_rfl
  case c => kernel_rfl
  case d => rfl
  case e => first | rfl | (simp only [List.all_cons, List.all_nil, Bool.and_true]; first | rfl | assumption | exact caps_ok hcs)
theorem k_partition_root : K_partition_root Try.prog sF := by
  unfold K_partition_root
  rw [show sF "partition.root" = 140 by kernel_rfl]
  intro p r i h hl hi
  refine FC.of' (rs := [.t 4]) (H := wMd h_partition_root sMd) (lc := c_partition_root sF) (n := 2) Try.func140 Try.mx ?a ?b ?c ?d ?e ?f
  case f =>
    have hw := w_partition_root (P := Try.prog) (F := sF) p r i h hl hi
    assumption
  case a => kernel_rfl
  case b => kernel_rfl
  case c => kernel_rfl
  case d => rfl
  case e => first | rfl | (simp only [List.all_cons, List.all_nil, Bool.and_true]; first | rfl | assumption | exact caps_ok hcs)
theorem k_partition_unite : K_partition_unite Try.prog sF := by
  unfold K_partition_unite
  rw [show sF "partition.unite" = 135 by kernel_rfl]
  intro p r a b h hl ha hb
  refine FC.ofO (rs := []) (H := wMd h_partition_unite sMd) (lc := c_partition_unite sF) (n := 3) (outs := [0]) Try.func135 Try.mx ?a ?b ?c ?d ?e ?f
  case f =>
    have hw := w_partition_unite (P := Try.prog) (F := sF) k_partition_root p r a b h hl ha hb
    assumption
  case a => kernel_rfl
  case b => kernel_rfl
  case c => kernel_rfl
  case d => rfl
  case e => first | rfl | (simp only [List.all_cons, List.all_nil, Bool.and_true]; first | rfl | assumption | exact caps_ok hcs)
theorem k_partition_flat : K_partition_flat Try.prog sF := by
  unfold K_partition_flat
  rw [show sF "partition.flat" = 136 by kernel_rfl]
  intro p r h hl
  refine FC.of' (rs := [.t 2]) (H := wMd h_partition_flat sMd) (lc := c_partition_flat sF) (n := 1) Try.func136 Try.mx ?a ?b ?c ?d ?e ?f
  case f =>
    have hw := w_partition_flat (P := Try.prog) (F := sF) k_partition_root p r h hl
    assumption
  case a => kernel_rfl
  case b => kernel_rfl
  case c => kernel_rfl
  case d => rfl
  case e => first | rfl | (simp only [List.all_cons, List.all_nil, Bool.and_true]; first | rfl | assumption | exact caps_ok hcs)
theorem k_partition_Generate : K_partition_Generate Try.prog sF := by
  unfold K_partition_Generate
  rw [show sF "partition.Generate" = 124 by kernel_rfl]
  intro n l hn hl hp
  refine FC.of' (rs := [.t 4, .t 5]) (H := wMd h_partition_Generate sMd) (lc := c_partition_Generate sF) (n := 2) Try.func124 Try.mx ?a ?b ?c ?d ?e ?f
  case f =>
    have hw := w_partition_Generate (P := Try.prog) (F := sF) k_partition_finest k_partition_unite k_partition_flat n l hn hl hp
    assumption
  case a => kernel_rfl
  case b => kernel_rfl
  case c => kernel_rfl
  case d => rfl
  case e => first | rfl | (simp only [List.all_cons, List.all_nil, Bool.and_true]; first | rfl | assumption | exact caps_ok hcs)
theorem k_partition_right : K_partition_right Try.prog sF := by
  unfold K_partition_right
  rw [show sF "partition.right" = 141 by kernel_rfl]
  intro p hp hl
  refine FC.of' (rs := [.t 2]) (H := wMd h_partition_right sMd) (lc := c_partition_right sF) (n := 1) Try.func141 Try.mx ?a ?b ?c ?d ?e ?f
  case f =>
    have hw := w_partition_right (P := Try.prog) (F := sF) p hp hl
    assumption
  case a => kernel_rfl
  case b => kernel_rfl
  case c => kernel_rfl
  case d => rfl
  case e => first | rfl | (simp only [List.all_cons, List.all_nil, Bool.and_true]; first | rfl | assumption | exact caps_ok hcs)
theorem k_partition_one : K_partition_one Try.prog sF := by
  unfold K_partition_one
  rw [show sF "partition.one" = 137 by kernel_rfl]
  intro p hp hl
  refine FC.of' (rs := [.t 2]) (H := wMd h_partition_one sMd) (lc := c_partition_one sF) (n := 1) Try.func137 Try.mx ?a ?b ?c ?d ?e ?f
  case f =>
    have hw := w_partition_one (P := Try.prog) (F := sF) k_partition_right p hp hl
    assumption
  case a => kernel_rfl
  case b => kernel_rfl
  case c => kernel_rfl
  case d => rfl
  case e => first | rfl | (simp only [List.all_cons, List.all_nil, Bool.and_true]; first | rfl | assumption | exact caps_ok hcs)
theorem k_partition_Quotient : K_partition_Quotient Try.prog sF := by
  unfold K_partition_Quotient
  rw [show sF "partition.Quotient" = 125 by kernel_rfl]
  intro p hp hl
  refine FC.of' (rs := [.t 2, .t 3, .t 4]) (H := wMd h_partition_Quotient sMd) (lc := c_partition_Quotient sF) (n := 1) Try.func125 Try.mx ?a ?b ?c ?d ?e ?f
  case f =>
    have hw := w_partition_Quotient (P := Try.prog) (F := sF) k_partition_one p hp hl
    assumption
  case a => kernel_rfl
  case b => kernel_rfl
  case c => kernel_rfl
  case d => rfl
  case e => first | rfl | (simp only [List.all_cons, List.all_nil, Bool.and_true]; first | rfl | assumption | exact caps_ok hcs)
theorem k_pushout_quotient : K_pushout_quotient Try.prog sF := by
  unfold K_pushout_quotient
  rw [show sF "pushout.quotient" = 93 by kernel_rfl]
  intro g ns es hv l1 l2 p1 p2
  refine FC.of' (rs := [.c 6 true 2, .c 7 true 2, .t 8]) (H := wMd h_pushout_quotient sMd) (lc := c_pushout_quotient sF) (n := 3) Try.func93 Try.mx ?a ?b ?c ?d ?e ?f
  case f =>
    have hw := w_pushout_quotient (P := Try.prog) (F := sF) k_partition_Generate k_partition_Quotient g ns es hv l1 l2 p1 p2
    assumption
  case a => kernel_rfl
  case b => kernel_rfl
  case c => kernel_rfl
  case d => rfl
  case e => first | rfl | (simp only [List.all_cons, List.all_nil, Bool.and_true]; first | rfl | assumption | exact caps_ok hcs)
theorem k_pushout_follow : K_pushout_follow Try.prog sF := by
  unfold K_pushout_follow
  rw [show sF "pushout.follow" = 121 by kernel_rfl]
  intro l b hl hb
  refine FC.of' (rs := [.t 4]) (H := wMd h_pushout_follow sMd) (lc := c_pushout_follow sF) (n := 2) Try.func121 Try.mx ?a ?b ?c ?d ?e ?f
  case f =>
    have hw := w_pushout_follow (P := Try.prog) (F := sF) l b hl hb
    assumption
  case a => kernel_rfl
  case b => kernel_rfl
  case c => kernel_rfl
  case d => rfl
  case e => first | rfl | (simp only [List.all_cons, List.all_nil, Bool.and_true]; first | rfl | assumption | exact caps_ok hcs)
theorem k_pushout_then : K_pushout_then Try.prog sF := by
  unfold K_pushout_then
  rw [show sF "pushout.then" = 90 by kernel_rfl]
  intro m n h1 h2 h3 h4
  refine FC.of' (rs := [.c 4 true 2]) (H := wMd h_pushout_then sMd) (lc := c_pushout_then sF) (n := 2) Try.func90 Try.mx ?a ?b ?c ?d ?e ?f
  case f =>
    have hw := w_pushout_then (P := Try.prog) (F := sF) k_pushout_follow m n h1 h2 h3 h4
    assumption
  case a => kernel_rfl
  case b => kernel_rfl
  case c => kernel_rfl
  case d => rfl
  case e => first | rfl | (simp only [List.all_cons, List.all_nil, Bool.and_true]; first | rfl | assumption | exact caps_ok hcs)
theorem k_pushout_glue : K_pushout_glue Try.prog sF := by
  unfold K_pushout_glue
  rw [show sF "pushout.glue" = 66 by kernel_rfl]
  intro s he
  refine FC.of' (rs := [.c 2 true 2, .c 3 true 2, .c 4 true 2, .t 5]) (H := wMd h_pushout_glue sMd) (lc := c_pushout_glue sF) (n := 1) Try.func66 Try.mx ?a ?b ?c ?d ?e ?f
  case f =>
    have hw := w_pushout_glue (P := Try.prog) (F := sF) k_graph_Union k_pushout_pairs k_pushout_quotient k_pushout_then s he
    assumption
  case a => kernel_rfl
  case b => kernel_rfl
  case c => kernel_rfl
  case d => rfl
  case e => first | rfl | (simp only [List.all_cons, List.all_nil, Bool.and_true]; first | rfl | assumption | exact caps_ok hcs)
theorem k_morphism_Same : K_morphism_Same Try.prog sF := by
  unfold K_morphism_Same
  rw [show sF "morphism.Same" = 89 by kernel_rfl]
  intro a b h1 h2
  refine FC.of' (rs := [.t 4]) (H := wMd h_morphism_Same sMd) (lc := c_morphism_Same sF) (n := 2) Try.func89 Try.mx ?a ?b ?c ?d ?e ?f
  case f =>
    have hw := w_morphism_Same (P := Try.prog) (F := sF) k_slices_Equal_I a b h1 h2
    assumption
  case a => kernel_rfl
  case b => kernel_rfl
  case c => kernel_rfl
  case d => rfl
  case e => first | rfl | (simp only [List.all_cons, List.all_nil, Bool.and_true]; first | rfl | assumption | exact caps_ok hcs)
theorem k_pushout_filled : K_pushout_filled Try.prog sF := by
  unfold K_pushout_filled
  rw [show sF "pushout.filled" = 91 by kernel_rfl]
  intro n p h q k hn h1 h2
  refine FC.of' (rs := [.t 6]) (H := wMd h_pushout_filled sMd) (lc := c_pushout_filled sF) (n := 3) Try.func91 Try.mx ?a ?b ?c ?d ?e ?f
  case f =>
    have hw := w_pushout_filled (P := Try.prog) (F := sF) n p h q k hn h1 h2
    assumption
  case a => kernel_rfl
  case b => kernel_rfl
  case c => kernel_rfl
  case d => rfl
  case e => first | rfl | (simp only [List.all_cons, List.all_nil, Bool.and_true]; first | rfl | assumption | exact caps_ok hcs)
theorem k_pushout_Mediate : K_pushout_Mediate Try.prog sF := by
  unfold K_pushout_Mediate
  rw [show sF "pushout.Mediate" = 65 by kernel_rfl]
  intro s x h k
  refine FC.of' (rs := [.c 8 true 2, .t 9]) (H := wMd h_pushout_Mediate sMd) (lc := c_pushout_Mediate sF) (n := 4) Try.func65 Try.mx ?a ?b ?c ?d ?e ?f
  case f =>
    have hw := w_pushout_Mediate (P := Try.prog) (F := sF) k_pushout_span k_morphism_Valid k_pushout_glue k_pushout_then k_morphism_Same k_pushout_filled s x h k
    assumption
  case a => kernel_rfl
  case b => kernel_rfl
  case c => kernel_rfl
  case d => rfl
  case e => first | rfl | (simp only [List.all_cons, List.all_nil, Bool.and_true]; first | rfl | assumption | exact caps_ok hcs)
theorem k_morphism_images : K_morphism_images Try.prog sF := by
  unfold K_morphism_images
  rw [show sF "morphism.images" = 95 by kernel_rfl]
  intro l hl
  refine FC.of' (rs := [.t 2]) (H := wMd h_morphism_images sMd) (lc := c_morphism_images sF) (n := 1) Try.func95 Try.mx ?a ?b ?c ?d ?e ?f
  case f =>
    have hw := w_morphism_images (P := Try.prog) (F := sF) k_slices_Clone_I k_slices_Sort_I k_slices_Compact_I l hl
    assumption
  case a => kernel_rfl
  case b => kernel_rfl
  case c => kernel_rfl
  case d => rfl
  case e => first | rfl | (simp only [List.all_cons, List.all_nil, Bool.and_true]; first | rfl | assumption | exact caps_ok hcs)
theorem k_morphism_Injective : K_morphism_Injective Try.prog sF := by
  unfold K_morphism_Injective
  rw [show sF "morphism.Injective" = 67 by kernel_rfl]
  intro a b m
  refine FC.of' (rs := [.t 6]) (H := wMd h_morphism_Injective sMd) (lc := c_morphism_Injective sF) (n := 3) Try.func67 Try.mx ?a ?b ?c ?d ?e ?f
  case f =>
    have hw := w_morphism_Injective (P := Try.prog) (F := sF) k_morphism_Valid k_morphism_images a b m
    assumption
  case a => kernel_rfl
  case b => kernel_rfl
  case c => kernel_rfl
  case d => rfl
  case e => first | rfl | (simp only [List.all_cons, List.all_nil, Bool.and_true]; first | rfl | assumption | exact caps_ok hcs)
theorem k_morphism_Surjective : K_morphism_Surjective Try.prog sF := by
  unfold K_morphism_Surjective
  rw [show sF "morphism.Surjective" = 68 by kernel_rfl]
  intro a b m
  refine FC.of' (rs := [.t 6]) (H := wMd h_morphism_Surjective sMd) (lc := c_morphism_Surjective sF) (n := 3) Try.func68 Try.mx ?a ?b ?c ?d ?e ?f
  case f =>
    have hw := w_morphism_Surjective (P := Try.prog) (F := sF) k_morphism_Valid k_morphism_images a b m
    assumption
  case a => kernel_rfl
  case b => kernel_rfl
  case c => kernel_rfl
  case d => rfl
  case e => first | rfl | (simp only [List.all_cons, List.all_nil, Bool.and_true]; first | rfl | assumption | exact caps_ok hcs)
theorem k_pushout_Check : K_pushout_Check Try.prog sF := by
  unfold K_pushout_Check
  rw [show sF "pushout.Check" = 38 by kernel_rfl]
  intro s x h k
  refine FC.of' (rs := [.t 8]) (H := wMd h_pushout_Check sMd) (lc := c_pushout_Check sF) (n := 4) Try.func38 Try.mx ?a ?b ?c ?d ?e ?f
  case f =>
    have hw := w_pushout_Check (P := Try.prog) (F := sF) k_pushout_Mediate k_pushout_glue k_morphism_Injective k_morphism_Surjective s x h k
    assumption
  case a => kernel_rfl
  case b => kernel_rfl
  case c => kernel_rfl
  case d => rfl
  case e => first | rfl | (simp only [List.all_cons, List.all_nil, Bool.and_true]; first | rfl | assumption | exact caps_ok hcs)
theorem k_l12_ComplementPushout : K_l12_ComplementPushout Try.prog sF := by
  unfold K_l12_ComplementPushout
  rw [show sF "l12.ComplementPushout" = 9 by kernel_rfl]
  intro d c s hd d1 d2 c1 c2
  refine FC.of' (rs := [.t 6]) (H := wMd h_l12_ComplementPushout sMd) (lc := c_l12_ComplementPushout sF) (n := 3) Try.func9 Try.mx ?a ?b ?c ?d ?e ?f
  case f =>
    have hw := w_l12_ComplementPushout (P := Try.prog) (F := sF) k_l12_awake k_l12_made k_complement_Of k_subgraph_Extract k_slices_Index_I k_pushout_Check d c s hd d1 d2 c1 c2
    assumption
  case a => kernel_rfl
  case b => kernel_rfl
  case c => kernel_rfl
  case d => rfl
  case e => first | rfl | (simp only [List.all_cons, List.all_nil, Bool.and_true]; first | rfl | assumption | exact caps_ok hcs)
end Go.Proofs.Ytoeomfoohdheoaa
