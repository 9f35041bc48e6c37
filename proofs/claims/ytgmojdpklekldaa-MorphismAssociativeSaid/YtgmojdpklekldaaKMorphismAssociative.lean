/- The functions of this seat, their contracts. Printed by seat.py. -/
import Derived.Shelf.Sort.Plain
import Derived.Shelf.Slices.In.SortNone
import Derived.Test.YtgmojdpklekldaaRows
import Derived.Test.YtgmojdpklekldaaSnL
import Derived.KernelRfl
namespace Go.Proofs.Ytgmojdpklekldaa
open Go Go.Am
attribute [local irreducible] W
set_option linter.unusedVariables false
set_option linter.unusedSimpArgs false
def sF : String → Nat := lkS [("l06.MorphismAssociative", 8), ("l06.awake", 10), ("morphism.Valid", 12), ("morphism.Injective", 15), ("morphism.Surjective", 17), ("morphism.All", 20), ("morphism.Identity", 25), ("r06.Same", 27), ("morphism.Same", 28), ("morphism.Compose", 29), ("l06.chain", 31), ("r06.Image", 33), ("slices.Clone.uint8", 34), ("graph.Valid", 38), ("slices.Clone.I", 39), ("morphism.images", 40), ("morphism.search.addNodes", 45), ("morphism.numbers", 47), ("r02.SameInts", 48), ("slices.Equal.I", 49), ("morphism.through", 50), ("r05.Made", 52), ("r06.numbers", 53), ("r02.Finest", 54), ("r02.Merge", 55), ("r02.Quotient", 56), ("slices.ContainsFunc.I", 59), ("graph.Valid.1", 60), ("graph.within", 61), ("slices.ContainsFunc.E", 62), ("graph.Valid.2", 63), ("graph.fits", 64), ("slices.Sort.I", 65), ("slices.Compact.I", 66), ("morphism.search.addEdges", 67), ("morphism.search.possible", 68), ("r02.one", 72), ("slices.IndexFunc.I", 73), ("slices.IndexFunc.E", 74), ("morphism.search.options", 77), ("r02.Valid", 78)]
def sMd : Nat → List Md := lkM [(45, [.mp]), (65, [.mu]), (66, [.ow]), (67, [.mp])]
theorem Try.mx : Try.prog.follows .mixedOrders = true := by kernel_rfl
theorem k_slices_IndexFunc_I : K_slices_IndexFunc_I Try.prog sF := by
  unfold K_slices_IndexFunc_I
  rw [show sF "slices.IndexFunc.I" = 73 by kernel_rfl]
  intro l hl g cs hcs p hg
  refine FC.of' (rs := [.t 4]) (H := wMd h_slices_IndexFunc_I sMd) (lc := c_slices_IndexFunc_I sF) (n := 2) Try.func73 Try.mx ?a ?b ?c ?d ?e ?f
  case f =>
    have hw := w_slices_IndexFunc_I (P := Try.prog) (F := sF) l hl g cs hcs p hg
    assumption
  case a => kernel_rfl
  case b => kernel_rfl
  case c => kernel_rfl
  case d => rfl
  case e => first | rfl | (simp only [List.all_cons, List.all_nil, Bool.and_true]; first | rfl | assumption | exact caps_ok hcs)
theorem k_slices_ContainsFunc_I : K_slices_ContainsFunc_I Try.prog sF := by
  unfold K_slices_ContainsFunc_I
  rw [show sF "slices.ContainsFunc.I" = 59 by kernel_rfl]
  intro l hl g cs hcs p hg
  refine FC.of' (rs := [.t 4]) (H := wMd h_slices_ContainsFunc_I sMd) (lc := c_slices_ContainsFunc_I sF) (n := 2) Try.func59 Try.mx ?a ?b ?c ?d ?e ?f
  case f =>
    have hw := w_slices_ContainsFunc_I (P := Try.prog) (F := sF) k_slices_IndexFunc_I l hl g cs hcs p hg
    assumption
  case a => kernel_rfl
  case b => kernel_rfl
  case c => kernel_rfl
  case d => rfl
  case e => first | rfl | (simp only [List.all_cons, List.all_nil, Bool.and_true]; first | rfl | assumption | exact caps_ok hcs)
theorem k_slices_IndexFunc_E : K_slices_IndexFunc_E Try.prog sF := by
  unfold K_slices_IndexFunc_E
  rw [show sF "slices.IndexFunc.E" = 74 by kernel_rfl]
  intro l hl g cs hcs p hg
  refine FC.of' (rs := [.t 4]) (H := wMd h_slices_IndexFunc_E sMd) (lc := c_slices_IndexFunc_E sF) (n := 2) Try.func74 Try.mx ?a ?b ?c ?d ?e ?f
  case f =>
    have hw := w_slices_IndexFunc_E (P := Try.prog) (F := sF) l hl g cs hcs p hg
    assumption
  case a => kernel_rfl
  case b => kernel_rfl
  case c => kernel_rfl
  case d => rfl
  case e => first | rfl | (simp only [List.all_cons, List.all_nil, Bool.and_true]; first | rfl | assumption | exact caps_ok hcs)
theorem k_slices_ContainsFunc_E : K_slices_ContainsFunc_E Try.prog sF := by
  unfold K_slices_ContainsFunc_E
  rw [show sF "slices.ContainsFunc.E" = 62 by kernel_rfl]
  intro l hl g cs hcs p hg
  refine FC.of' (rs := [.t 4]) (H := wMd h_slices_ContainsFunc_E sMd) (lc := c_slices_ContainsFunc_E sF) (n := 2) Try.func62 Try.mx ?a ?b ?c ?d ?e ?f
  case f =>
    have hw := w_slices_ContainsFunc_E (P := Try.prog) (F := sF) k_slices_IndexFunc_E l hl g cs hcs p hg
    assumption
  case a => kernel_rfl
  case b => kernel_rfl
  case c => kernel_rfl
  case d => rfl
  case e => first | rfl | (simp only [List.all_cons, List.all_nil, Bool.and_true]; first | rfl | assumption | exact caps_ok hcs)
theorem k_graph_within : K_graph_within Try.prog sF := by
  unfold K_graph_within
  rw [show sF "graph.within" = 61 by kernel_rfl]
  intro n m
  refine FC.of' (rs := [.t 4]) (H := wMd h_graph_within sMd) (lc := c_graph_within sF) (n := 2) Try.func61 Try.mx ?a ?b ?c ?d ?e ?f
  case f =>
    have hw := w_graph_within (P := Try.prog) (F := sF) n m
    assumption
  case a => kernel_rfl
  case b => kernel_rfl
  case c => kernel_rfl
  case d => rfl
  case e => first | rfl | (simp only [List.all_cons, List.all_nil, Bool.and_true]; first | rfl | assumption | exact caps_ok hcs)
theorem k_graph_Valid_1 : K_graph_Valid_1 Try.prog sF := by
  unfold K_graph_Valid_1
  rw [show sF "graph.Valid.1" = 60 by kernel_rfl]
  intro x
  refine FC.of' (rs := [.t 2]) (H := wMd h_graph_Valid_1 sMd) (lc := c_graph_Valid_1 sF) (n := 1) Try.func60 Try.mx ?a ?b ?c ?d ?e ?f
  case f =>
    have hw := w_graph_Valid_1 (P := Try.prog) (F := sF) k_graph_within x
    assumption
  case a => kernel_rfl
  case b => kernel_rfl
  case c => kernel_rfl
  case d => rfl
  case e => first | rfl | (simp only [List.all_cons, List.all_nil, Bool.and_true]; first | rfl | assumption | exact caps_ok hcs)
theorem k_graph_fits : K_graph_fits Try.prog sF := by
  unfold K_graph_fits
  rw [show sF "graph.fits" = 64 by kernel_rfl]
  intro x n hn
  refine FC.of' (rs := [.t 4]) (H := wMd h_graph_fits sMd) (lc := c_graph_fits sF) (n := 2) Try.func64 Try.mx ?a ?b ?c ?d ?e ?f
  case f =>
    have hw := w_graph_fits (P := Try.prog) (F := sF) k_graph_within x n hn
    assumption
  case a => kernel_rfl
  case b => kernel_rfl
  case c => kernel_rfl
  case d => rfl
  case e => first | rfl | (simp only [List.all_cons, List.all_nil, Bool.and_true]; first | rfl | assumption | exact caps_ok hcs)
theorem k_graph_Valid_2 : K_graph_Valid_2 Try.prog sF := by
  unfold K_graph_Valid_2
  rw [show sF "graph.Valid.2" = 63 by kernel_rfl]
  intro x ns es hn
  refine FC.of' (rs := [.t 3]) (H := wMd h_graph_Valid_2 sMd) (lc := c_graph_Valid_2 sF) (n := 2) Try.func63 Try.mx ?a ?b ?c ?d ?e ?f
  case f =>
    have hw := w_graph_Valid_2 (P := Try.prog) (F := sF) k_graph_fits x ns es hn
    assumption
  case a => kernel_rfl
  case b => kernel_rfl
  case c => kernel_rfl
  case d => rfl
  case e => first | rfl | (simp only [List.all_cons, List.all_nil, Bool.and_true]; first | rfl | assumption | exact caps_ok hcs)
theorem k_graph_Valid : K_graph_Valid Try.prog sF := by
  unfold K_graph_Valid
  rw [show sF "graph.Valid" = 38 by kernel_rfl]
  intro g
  refine FC.of' (rs := [.t 2]) (H := wMd h_graph_Valid sMd) (lc := c_graph_Valid sF) (n := 1) Try.func38 Try.mx ?a ?b ?c ?d ?e ?f
  case f =>
    have hw := w_graph_Valid (P := Try.prog) (F := sF) k_slices_ContainsFunc_I k_slices_ContainsFunc_E k_graph_Valid_1 k_graph_Valid_2 g
    assumption
  case a => kernel_rfl
  case b => kernel_rfl
  case c => kernel_rfl
  case d => rfl
  case e => first | rfl | (simp only [List.all_cons, List.all_nil, Bool.and_true]; first | rfl | assumption | exact caps_ok hcs)
theorem k_slices_Clone_I : K_slices_Clone_I Try.prog sF := by
  unfold K_slices_Clone_I
  rw [show sF "slices.Clone.I" = 39 by kernel_rfl]
  intro l hl
  refine FC.of' (rs := [.t 2]) (H := wMd h_slices_Clone_I sMd) (lc := c_slices_Clone_I sF) (n := 1) Try.func39 Try.mx ?a ?b ?c ?d ?e ?f
  case f =>
    have hw := w_slices_Clone_I (P := Try.prog) (F := sF) l hl
    assumption
  case a => kernel_rfl
  case b => kernel_rfl
  case c => kernel_rfl
  case d => rfl
  case e => first | rfl | (simp only [List.all_cons, List.all_nil, Bool.and_true]; first | rfl | assumption | exact caps_ok hcs)
theorem k_morphism_search_options : K_morphism_search_options Try.prog sF := by
  unfold K_morphism_search_options
  rw [show sF "morphism.search.options" = 77 by kernel_rfl]
  intro a b ns es out e h1 h2 h3 h4 h5
  refine FC.of' (rs := [.t 4]) (H := wMd h_morphism_search_options sMd) (lc := c_morphism_search_options sF) (n := 2) Try.func77 Try.mx ?a ?b ?c ?d ?e ?f
  case f =>
    have hw := w_morphism_search_options (P := Try.prog) (F := sF) a b ns es out e h1 h2 h3 h4 h5
    assumption
  case a => kernel_rfl
  case b => kernel_rfl
  case c => kernel_rfl
  case d => rfl
  case e => first | rfl | (simp only [List.all_cons, List.all_nil, Bool.and_true]; first | rfl | assumption | exact caps_ok hcs)
theorem k_morphism_search_addEdges : K_morphism_search_addEdges Try.prog sF := by
  unfold K_morphism_search_addEdges
  intro n
  induction n using Nat.strongRecOn with
  | ind n ih =>
  unfold KA_morphism_search_addEdges
  rw [show sF "morphism.search.addEdges" = 67 by kernel_rfl]
  intro a b ns es out va vb h1 h2 h3
  refine FC.ofO (rs := []) (H := wMd h_morphism_search_addEdges sMd) (lc := c_morphism_search_addEdges sF) (n := 1) (outs := [0]) Try.func67 Try.mx ?a ?b ?c ?d ?e ?f
  case f =>
    have hw := w_morphism_search_addEdges (P := Try.prog) (F := sF) k_slices_Clone_I k_morphism_search_options n ih a b ns es out va vb h1 h2 h3
    assumption
  case a => kernel_rfl
  case b => kernel_rfl
  case c => kernel_rfl
  case d => rfl
  case e => first | rfl | (simp only [List.all_cons, List.all_nil, Bool.and_true]; first | rfl | assumption | exact caps_ok hcs)
theorem k_morphism_search_possible : K_morphism_search_possible Try.prog sF := by
  unfold K_morphism_search_possible
  rw [show sF "morphism.search.possible" = 68 by kernel_rfl]
  intro a b ns out va vb h1 h2
  refine FC.of' (rs := [.t 2]) (H := wMd h_morphism_search_possible sMd) (lc := c_morphism_search_possible sF) (n := 1) Try.func68 Try.mx ?a ?b ?c ?d ?e ?f
  case f =>
    have hw := w_morphism_search_possible (P := Try.prog) (F := sF) k_morphism_search_options a b ns out va vb h1 h2
    assumption
  case a => kernel_rfl
  case b => kernel_rfl
  case c => kernel_rfl
  case d => rfl
  case e => first | rfl | (simp only [List.all_cons, List.all_nil, Bool.and_true]; first | rfl | assumption | exact caps_ok hcs)
theorem k_morphism_search_addNodes : K_morphism_search_addNodes Try.prog sF := by
  unfold K_morphism_search_addNodes
  intro n
  induction n using Nat.strongRecOn with
  | ind n ih =>
  unfold KA_morphism_search_addNodes
  rw [show sF "morphism.search.addNodes" = 45 by kernel_rfl]
  intro a b ns out va vb h1 h2
  refine FC.ofO (rs := []) (H := wMd h_morphism_search_addNodes sMd) (lc := c_morphism_search_addNodes sF) (n := 1) (outs := [0]) Try.func45 Try.mx ?a ?b ?c ?d ?e ?f
  case f =>
    have hw := w_morphism_search_addNodes (P := Try.prog) (F := sF) k_morphism_search_addEdges k_morphism_search_possible n ih a b ns out va vb h1 h2
    assumption
  case a => kernel_rfl
  case b => kernel_rfl
  case c => kernel_rfl
  case d => rfl
  case e => first | rfl | (simp only [List.all_cons, List.all_nil, Bool.and_true]; first | rfl | assumption | exact caps_ok hcs)
theorem k_morphism_All : K_morphism_All Try.prog sF := by
  unfold K_morphism_All
  rw [show sF "morphism.All" = 20 by kernel_rfl]
  intro a b
  refine FC.of' (rs := [.t 4, .t 5]) (H := wMd h_morphism_All sMd) (lc := c_morphism_All sF) (n := 2) Try.func20 Try.mx ?a ?b ?c ?d ?e ?f
  case f =>
    have hw := w_morphism_All (P := Try.prog) (F := sF) k_graph_Valid k_morphism_search_addNodes a b
    assumption
  case a => kernel_rfl
  case b => kernel_rfl
  case c => kernel_rfl
  case d => rfl
  case e => first | rfl | (simp only [List.all_cons, List.all_nil, Bool.and_true]; first | rfl | assumption | exact caps_ok hcs)
theorem k_slices_Equal_I : K_slices_Equal_I Try.prog sF := by
  unfold K_slices_Equal_I
  rw [show sF "slices.Equal.I" = 49 by kernel_rfl]
  intro a b hl
  refine FC.of' (rs := [.t 4]) (H := wMd h_slices_Equal_I sMd) (lc := c_slices_Equal_I sF) (n := 2) Try.func49 Try.mx ?a ?b ?c ?d ?e ?f
  case f =>
    have hw := w_slices_Equal_I (P := Try.prog) (F := sF) a b hl
    assumption
  case a => kernel_rfl
  case b => kernel_rfl
  case c => kernel_rfl
  case d => rfl
  case e => first | rfl | (simp only [List.all_cons, List.all_nil, Bool.and_true]; first | rfl | assumption | exact caps_ok hcs)
theorem k_morphism_Same : K_morphism_Same Try.prog sF := by
  unfold K_morphism_Same
  rw [show sF "morphism.Same" = 28 by kernel_rfl]
  intro a b h1 h2
  refine FC.of' (rs := [.t 4]) (H := wMd h_morphism_Same sMd) (lc := c_morphism_Same sF) (n := 2) Try.func28 Try.mx ?a ?b ?c ?d ?e ?f
  case f =>
    have hw := w_morphism_Same (P := Try.prog) (F := sF) k_slices_Equal_I a b h1 h2
    assumption
  case a => kernel_rfl
  case b => kernel_rfl
  case c => kernel_rfl
  case d => rfl
  case e => first | rfl | (simp only [List.all_cons, List.all_nil, Bool.and_true]; first | rfl | assumption | exact caps_ok hcs)
theorem k_morphism_Valid : K_morphism_Valid Try.prog sF := by
  unfold K_morphism_Valid
  rw [show sF "morphism.Valid" = 12 by kernel_rfl]
  intro a b m
  refine FC.of' (rs := [.t 6]) (H := wMd h_morphism_Valid sMd) (lc := c_morphism_Valid sF) (n := 3) Try.func12 Try.mx ?a ?b ?c ?d ?e ?f
  case f =>
    have hw := w_morphism_Valid (P := Try.prog) (F := sF) k_graph_Valid a b m
    assumption
  case a => kernel_rfl
  case b => kernel_rfl
  case c => kernel_rfl
  case d => rfl
  case e => first | rfl | (simp only [List.all_cons, List.all_nil, Bool.and_true]; first | rfl | assumption | exact caps_ok hcs)
def SortL_ren : Go.Shelf.Ren := ⟨fun | 189 => 65 | 125 => 76 | 257 => 75 | 128 => 88 | 129 => 89 | 294 => 79 | 295 => 80 | 296 => 81 | 297 => 82 | 298 => 83 | 299 => 84 | 216 => 85 | 300 => 86 | 301 => 87 | 328 => 90 | 329 => 91 | 330 => 92 | 331 => 93 | 332 => 94 | 215 => 95 | 343 => 96 | n => n, fun | 28 => 22 | 3 => 3 | 46 => 100 | 0 => 0 | 51 => 110 | 53 => 112 | 4 => 4 | 183 => 103 | 182 => 102 | 131 => 107 | 5 => 5 | 9 => 9 | 218 => 113 | 222 => 117 | 228 => 119 | 229 => 120 | n => n, fun | n => n⟩
theorem SortL : Go.Proofs.Lays.n189 Try.prog SortL_ren := {
  mixed := by kernel_rfl,
  f125 := Try.func76.trans (congrArg some (by kernel_rfl)),
  f128 := Try.func88.trans (congrArg some (by kernel_rfl)),
  f129 := Try.func89.trans (congrArg some (by kernel_rfl)),
  f189 := Try.func65.trans (congrArg some (by kernel_rfl)),
  f215 := Try.func95.trans (congrArg some (by kernel_rfl)),
  f216 := Try.func85.trans (congrArg some (by kernel_rfl)),
  f257 := Try.func75.trans (congrArg some (by kernel_rfl)),
  f294 := Try.func79.trans (congrArg some (by kernel_rfl)),
  f295 := Try.func80.trans (congrArg some (by kernel_rfl)),
  f296 := Try.func81.trans (congrArg some (by kernel_rfl)),
  f297 := Try.func82.trans (congrArg some (by kernel_rfl)),
  f298 := Try.func83.trans (congrArg some (by kernel_rfl)),
  f299 := Try.func84.trans (congrArg some (by kernel_rfl)),
  f300 := Try.func86.trans (congrArg some (by kernel_rfl)),
  f301 := Try.func87.trans (congrArg some (by kernel_rfl)),
  f328 := Try.func90.trans (congrArg some (by kernel_rfl)),
  f329 := Try.func91.trans (congrArg some (by kernel_rfl)),
  f330 := Try.func92.trans (congrArg some (by kernel_rfl)),
  f331 := Try.func93.trans (congrArg some (by kernel_rfl)),
  f332 := Try.func94.trans (congrArg some (by kernel_rfl)),
  f343 := Try.func96.trans (congrArg some (by kernel_rfl)),
  t0 := Try.underlying0,
  a0 := Try.isAgg0,
  z0 := Try.sizeOf0,
  v0 := Try.zeroValue0,
  t3 := Try.underlying3,
  a3 := Try.isAgg3,
  z3 := Try.sizeOf3,
  v3 := Try.zeroValue3,
  t4 := Try.underlying4,
  a4 := Try.isAgg4,
  z4 := Try.sizeOf4,
  v4 := Try.zeroValue4,
  t5 := Try.underlying5,
  a5 := Try.isAgg5,
  z5 := Try.sizeOf5,
  v5 := Try.zeroValue5,
  t9 := Try.underlying9,
  a9 := Try.isAgg9,
  z9 := Try.sizeOf9,
  v9 := Try.zeroValue9,
  t28 := Try.underlying22,
  a28 := Try.isAgg22,
  z28 := Try.sizeOf22,
  v28 := Try.zeroValue22,
  t46 := Try.underlying100,
  a46 := Try.isAgg100,
  z46 := Try.sizeOf100,
  v46 := Try.zeroValue100,
  t51 := Try.underlying110,
  a51 := Try.isAgg110,
  z51 := Try.sizeOf110,
  v51 := Try.zeroValue110,
  t53 := Try.underlying112,
  a53 := Try.isAgg112,
  z53 := Try.sizeOf112,
  v53 := Try.zeroValue112,
  t131 := Try.underlying107,
  a131 := Try.isAgg107,
  z131 := Try.sizeOf107,
  v131 := Try.zeroValue107,
  t182 := Try.underlying102,
  a182 := Try.isAgg102,
  z182 := Try.sizeOf102,
  v182 := Try.zeroValue102,
  t183 := Try.underlying103,
  a183 := Try.isAgg103,
  z183 := Try.sizeOf103,
  v183 := Try.zeroValue103,
  t218 := Try.underlying113,
  a218 := Try.isAgg113,
  z218 := Try.sizeOf113,
  v218 := Try.zeroValue113,
  t222 := Try.underlying117,
  a222 := Try.isAgg117,
  z222 := Try.sizeOf117,
  v222 := Try.zeroValue117,
  t228 := Try.underlying119,
  a228 := Try.isAgg119,
  z228 := Try.sizeOf119,
  v228 := Try.zeroValue119,
  t229 := Try.underlying120,
  a229 := Try.isAgg120,
  z229 := Try.sizeOf120,
  v229 := Try.zeroValue120 }
theorem k_slices_Sort_I : K_slices_Sort_I Try.prog sF := by
  unfold K_slices_Sort_I
  rw [show sF "slices.Sort.I" = 65 by kernel_rfl]
  intro l hl
  have hb : (Try.f65.body.isSome) = true := by kernel_rfl
  obtain ⟨body, hb⟩ := Option.isSome_iff_exists.1 hb
  exact sort_FC (callFunc_enter Try.func65 (by kernel_rfl) hb) (fun blk off cap zs w h1 h2 h3 => Go.Proofs.Any.slices_Sort_int SortL blk off cap zs w h1 h2 h3) (fun p cap w => Go.Proofs.Any.slices_Sort_int_none SortL p cap w) l hl
theorem k_slices_Compact_I : K_slices_Compact_I Try.prog sF := by
  unfold K_slices_Compact_I
  rw [show sF "slices.Compact.I" = 66 by kernel_rfl]
  intro l hl
  refine FC.of' (rs := [.t 2]) (H := wMd h_slices_Compact_I sMd) (lc := c_slices_Compact_I sF) (n := 1) Try.func66 Try.mx ?a ?b ?c ?d ?e ?f
  case f =>
    have hw := w_slices_Compact_I (P := Try.prog) (F := sF) l hl
    assumption
  case a => kernel_rfl
  case b => kernel_rfl
  case c => kernel_rfl
  case d => rfl
  case e => first | rfl | (simp only [List.all_cons, List.all_nil, Bool.and_true]; first | rfl | assumption | exact caps_ok hcs)
theorem k_morphism_images : K_morphism_images Try.prog sF := by
  unfold K_morphism_images
  rw [show sF "morphism.images" = 40 by kernel_rfl]
  intro l hl
  refine FC.of' (rs := [.t 2]) (H := wMd h_morphism_images sMd) (lc := c_morphism_images sF) (n := 1) Try.func40 Try.mx ?a ?b ?c ?d ?e ?f
  case f =>
    have hw := w_morphism_images (P := Try.prog) (F := sF) k_slices_Clone_I k_slices_Sort_I k_slices_Compact_I l hl
    assumption
  case a => kernel_rfl
  case b => kernel_rfl
  case c => kernel_rfl
  case d => rfl
  case e => first | rfl | (simp only [List.all_cons, List.all_nil, Bool.and_true]; first | rfl | assumption | exact caps_ok hcs)
theorem k_morphism_Surjective : K_morphism_Surjective Try.prog sF := by
  unfold K_morphism_Surjective
  rw [show sF "morphism.Surjective" = 17 by kernel_rfl]
  intro a b m
  refine FC.of' (rs := [.t 6]) (H := wMd h_morphism_Surjective sMd) (lc := c_morphism_Surjective sF) (n := 3) Try.func17 Try.mx ?a ?b ?c ?d ?e ?f
  case f =>
    have hw := w_morphism_Surjective (P := Try.prog) (F := sF) k_morphism_Valid k_morphism_images a b m
    assumption
  case a => kernel_rfl
  case b => kernel_rfl
  case c => kernel_rfl
  case d => rfl
  case e => first | rfl | (simp only [List.all_cons, List.all_nil, Bool.and_true]; first | rfl | assumption | exact caps_ok hcs)
theorem k_morphism_Injective : K_morphism_Injective Try.prog sF := by
  unfold K_morphism_Injective
  rw [show sF "morphism.Injective" = 15 by kernel_rfl]
  intro a b m
  refine FC.of' (rs := [.t 6]) (H := wMd h_morphism_Injective sMd) (lc := c_morphism_Injective sF) (n := 3) Try.func15 Try.mx ?a ?b ?c ?d ?e ?f
  case f =>
    have hw := w_morphism_Injective (P := Try.prog) (F := sF) k_morphism_Valid k_morphism_images a b m
    assumption
  case a => kernel_rfl
  case b => kernel_rfl
  case c => kernel_rfl
  case d => rfl
  case e => first | rfl | (simp only [List.all_cons, List.all_nil, Bool.and_true]; first | rfl | assumption | exact caps_ok hcs)
theorem k_l06_awake : K_l06_awake Try.prog sF := by
  unfold K_l06_awake
  rw [show sF "l06.awake" = 10 by kernel_rfl]
  refine FC.of' (rs := [.t 0]) (H := wMd h_l06_awake sMd) (lc := c_l06_awake sF) (n := 0) Try.func10 Try.mx ?a ?b ?c ?d ?e ?f
  case f =>
    have hw := w_l06_awake (P := Try.prog) (F := sF) k_morphism_All k_morphism_Same k_morphism_Surjective k_morphism_Injective
    assumption
  case a => kernel_rfl
  case b => kernel_rfl
  case c => kernel_rfl
  case d => rfl
  case e => first | rfl | (simp only [List.all_cons, List.all_nil, Bool.and_true]; first | rfl | assumption | exact caps_ok hcs)
theorem k_r05_Made : K_r05_Made Try.prog sF := by
  unfold K_r05_Made
  rw [show sF "r05.Made" = 52 by kernel_rfl]
  intro x hx h1 h2
  refine FC.of' (rs := [.c 2 true 2]) (H := wMd h_r05_Made sMd) (lc := c_r05_Made sF) (n := 1) Try.func52 Try.mx ?a ?b ?c ?d ?e ?f
  case f =>
    have hw := w_r05_Made (P := Try.prog) (F := sF) x hx h1 h2
    assumption
  case a => kernel_rfl
  case b => kernel_rfl
  case c => kernel_rfl
  case d => rfl
  case e => first | rfl | (simp only [List.all_cons, List.all_nil, Bool.and_true]; first | rfl | assumption | exact caps_ok hcs)
theorem k_r06_numbers : K_r06_numbers Try.prog sF := by
  unfold K_r06_numbers
  rw [show sF "r06.numbers" = 53 by kernel_rfl]
  intro l hl hb
  refine FC.of' (rs := [.t 2]) (H := wMd h_r06_numbers sMd) (lc := c_r06_numbers sF) (n := 1) Try.func53 Try.mx ?a ?b ?c ?d ?e ?f
  case f =>
    have hw := w_r06_numbers (P := Try.prog) (F := sF) l hl hb
    assumption
  case a => kernel_rfl
  case b => kernel_rfl
  case c => kernel_rfl
  case d => rfl
  case e => first | rfl | (simp only [List.all_cons, List.all_nil, Bool.and_true]; first | rfl | assumption | exact caps_ok hcs)
theorem k_r02_Finest : K_r02_Finest Try.prog sF := by
  unfold K_r02_Finest
  rw [show sF "r02.Finest" = 54 by kernel_rfl]
  intro n h2
  refine FC.of' (rs := [.t 2]) (H := wMd h_r02_Finest sMd) (lc := c_r02_Finest sF) (n := 1) Try.func54 Try.mx ?a ?b ?c ?d ?e ?f
  case f =>
    have hw := w_r02_Finest (P := Try.prog) (F := sF) n h2
    assumption
  case a => kernel_rfl
  case b => kernel_rfl
  case c => kernel_rfl
  case d => rfl
  case e => first | rfl | (simp only [List.all_cons, List.all_nil, Bool.and_true]; first | rfl | assumption | exact caps_ok hcs)
theorem k_r02_Merge : K_r02_Merge Try.prog sF := by
  unfold K_r02_Merge
  rw [show sF "r02.Merge" = 55 by kernel_rfl]
  intro p a b hl ha hb
  refine FC.of' (rs := [.t 6]) (H := wMd h_r02_Merge sMd) (lc := c_r02_Merge sF) (n := 3) Try.func55 Try.mx ?a ?b ?c ?d ?e ?f
  case f =>
    have hw := w_r02_Merge (P := Try.prog) (F := sF) p a b hl ha hb
    assumption
  case a => kernel_rfl
  case b => kernel_rfl
  case c => kernel_rfl
  case d => rfl
  case e => first | rfl | (simp only [List.all_cons, List.all_nil, Bool.and_true]; first | rfl | assumption | exact caps_ok hcs)
theorem k_r02_Valid : K_r02_Valid Try.prog sF := by
  unfold K_r02_Valid
  rw [show sF "r02.Valid" = 78 by kernel_rfl]
  intro p hp
  refine FC.of' (rs := [.t 2]) (H := wMd h_r02_Valid sMd) (lc := c_r02_Valid sF) (n := 1) Try.func78 Try.mx ?a ?b ?c ?d ?e ?f
  case f =>
    have hw := w_r02_Valid (P := Try.prog) (F := sF) p hp
    assumption
  case a => kernel_rfl
  case b => kernel_rfl
  case c => kernel_rfl
  case d => rfl
  case e => first | rfl | (simp only [List.all_cons, List.all_nil, Bool.and_true]; first | rfl | assumption | exact caps_ok hcs)
theorem k_r02_one : K_r02_one Try.prog sF := by
  unfold K_r02_one
  rw [show sF "r02.one" = 72 by kernel_rfl]
  intro p hp
  refine FC.of' (rs := [.t 2]) (H := wMd h_r02_one sMd) (lc := c_r02_one sF) (n := 1) Try.func72 Try.mx ?a ?b ?c ?d ?e ?f
  case f =>
    have hw := w_r02_one (P := Try.prog) (F := sF) k_r02_Valid p hp
    assumption
  case a => kernel_rfl
  case b => kernel_rfl
  case c => kernel_rfl
  case d => rfl
  case e => first | rfl | (simp only [List.all_cons, List.all_nil, Bool.and_true]; first | rfl | assumption | exact caps_ok hcs)
theorem k_r02_Quotient : K_r02_Quotient Try.prog sF := by
  unfold K_r02_Quotient
  rw [show sF "r02.Quotient" = 56 by kernel_rfl]
  intro p hp
  refine FC.of' (rs := [.t 2, .t 3, .t 4]) (H := wMd h_r02_Quotient sMd) (lc := c_r02_Quotient sF) (n := 1) Try.func56 Try.mx ?a ?b ?c ?d ?e ?f
  case f =>
    have hw := w_r02_Quotient (P := Try.prog) (F := sF) k_r02_one p hp
    assumption
  case a => kernel_rfl
  case b => kernel_rfl
  case c => kernel_rfl
  case d => rfl
  case e => first | rfl | (simp only [List.all_cons, List.all_nil, Bool.and_true]; first | rfl | assumption | exact caps_ok hcs)
theorem k_r06_Image : K_r06_Image Try.prog sF := by
  unfold K_r06_Image
  rw [show sF "r06.Image" = 33 by kernel_rfl]
  intro g l hv hl hb
  refine FC.of' (rs := [.c 4 true 2, .c 5 true 2]) (H := wMd h_r06_Image sMd) (lc := c_r06_Image sF) (n := 2) Try.func33 Try.mx ?a ?b ?c ?d ?e ?f
  case f =>
    have hw := w_r06_Image (P := Try.prog) (F := sF) k_r06_numbers k_r02_Finest k_r02_Merge k_r02_Quotient g l hv hl hb
    assumption
  case a => kernel_rfl
  case b => kernel_rfl
  case c => kernel_rfl
  case d => rfl
  case e => first | rfl | (simp only [List.all_cons, List.all_nil, Bool.and_true]; first | rfl | assumption | exact caps_ok hcs)
theorem k_l06_chain : K_l06_chain Try.prog sF := by
  unfold K_l06_chain
  rw [show sF "l06.chain" = 31 by kernel_rfl]
  intro x l k hx x1 x2 l1 l2 k1 k2
  refine FC.of' (rs := [.c 6 true 2, .c 7 true 4, .c 8 true 4]) (H := wMd h_l06_chain sMd) (lc := c_l06_chain sF) (n := 3) Try.func31 Try.mx ?a ?b ?c ?d ?e ?f
  case f =>
    have hw := w_l06_chain (P := Try.prog) (F := sF) k_r05_Made k_r06_Image x l k hx x1 x2 l1 l2 k1 k2
    assumption
  case a => kernel_rfl
  case b => kernel_rfl
  case c => kernel_rfl
  case d => rfl
  case e => first | rfl | (simp only [List.all_cons, List.all_nil, Bool.and_true]; first | rfl | assumption | exact caps_ok hcs)
theorem k_slices_Clone_uint8 : K_slices_Clone_uint8 Try.prog sF := by
  unfold K_slices_Clone_uint8
  rw [show sF "slices.Clone.uint8" = 34 by kernel_rfl]
  intro l hl
  refine FC.of' (rs := [.t 2]) (H := wMd h_slices_Clone_uint8 sMd) (lc := c_slices_Clone_uint8 sF) (n := 1) Try.func34 Try.mx ?a ?b ?c ?d ?e ?f
  case f =>
    have hw := w_slices_Clone_uint8 (P := Try.prog) (F := sF) l hl
    assumption
  case a => kernel_rfl
  case b => kernel_rfl
  case c => kernel_rfl
  case d => rfl
  case e => first | rfl | (simp only [List.all_cons, List.all_nil, Bool.and_true]; first | rfl | assumption | exact caps_ok hcs)
theorem k_morphism_through : K_morphism_through Try.prog sF := by
  unfold K_morphism_through
  rw [show sF "morphism.through" = 50 by kernel_rfl]
  intro l b hl hb
  refine FC.of' (rs := [.t 4]) (H := wMd h_morphism_through sMd) (lc := c_morphism_through sF) (n := 2) Try.func50 Try.mx ?a ?b ?c ?d ?e ?f
  case f =>
    have hw := w_morphism_through (P := Try.prog) (F := sF) l b hl hb
    assumption
  case a => kernel_rfl
  case b => kernel_rfl
  case c => kernel_rfl
  case d => rfl
  case e => first | rfl | (simp only [List.all_cons, List.all_nil, Bool.and_true]; first | rfl | assumption | exact caps_ok hcs)
theorem k_morphism_Compose : K_morphism_Compose Try.prog sF := by
  unfold K_morphism_Compose
  rw [show sF "morphism.Compose" = 29 by kernel_rfl]
  intro a b c m n
  refine FC.of' (rs := [.c 10 true 2, .t 11]) (H := wMd h_morphism_Compose sMd) (lc := c_morphism_Compose sF) (n := 5) Try.func29 Try.mx ?a ?b ?c ?d ?e ?f
  case f =>
    have hw := w_morphism_Compose (P := Try.prog) (F := sF) k_morphism_Valid k_morphism_through a b c m n
    assumption
  case a => kernel_rfl
  case b => kernel_rfl
  case c => kernel_rfl
  case d => rfl
  case e => first | rfl | (simp only [List.all_cons, List.all_nil, Bool.and_true]; first | rfl | assumption | exact caps_ok hcs)
theorem k_morphism_numbers : K_morphism_numbers Try.prog sF := by
  unfold K_morphism_numbers
  rw [show sF "morphism.numbers" = 47 by kernel_rfl]
  intro n hn
  refine FC.of' (rs := [.t 2]) (H := wMd h_morphism_numbers sMd) (lc := c_morphism_numbers sF) (n := 1) Try.func47 Try.mx ?a ?b ?c ?d ?e ?f
  case f =>
    have hw := w_morphism_numbers (P := Try.prog) (F := sF) n hn
    assumption
  case a => kernel_rfl
  case b => kernel_rfl
  case c => kernel_rfl
  case d => rfl
  case e => first | rfl | (simp only [List.all_cons, List.all_nil, Bool.and_true]; first | rfl | assumption | exact caps_ok hcs)
theorem k_morphism_Identity : K_morphism_Identity Try.prog sF := by
  unfold K_morphism_Identity
  rw [show sF "morphism.Identity" = 25 by kernel_rfl]
  intro g
  refine FC.of' (rs := [.c 2 true 2, .t 3]) (H := wMd h_morphism_Identity sMd) (lc := c_morphism_Identity sF) (n := 1) Try.func25 Try.mx ?a ?b ?c ?d ?e ?f
  case f =>
    have hw := w_morphism_Identity (P := Try.prog) (F := sF) k_graph_Valid k_morphism_numbers g
    assumption
  case a => kernel_rfl
  case b => kernel_rfl
  case c => kernel_rfl
  case d => rfl
  case e => first | rfl | (simp only [List.all_cons, List.all_nil, Bool.and_true]; first | rfl | assumption | exact caps_ok hcs)
theorem k_r02_SameInts : K_r02_SameInts Try.prog sF := by
  unfold K_r02_SameInts
  rw [show sF "r02.SameInts" = 48 by kernel_rfl]
  intro a b hl
  refine FC.of' (rs := [.t 4]) (H := wMd h_r02_SameInts sMd) (lc := c_r02_SameInts sF) (n := 2) Try.func48 Try.mx ?a ?b ?c ?d ?e ?f
  case f =>
    have hw := w_r02_SameInts (P := Try.prog) (F := sF) a b hl
    assumption
  case a => kernel_rfl
  case b => kernel_rfl
  case c => kernel_rfl
  case d => rfl
  case e => first | rfl | (simp only [List.all_cons, List.all_nil, Bool.and_true]; first | rfl | assumption | exact caps_ok hcs)
theorem k_r06_Same : K_r06_Same Try.prog sF := by
  unfold K_r06_Same
  rw [show sF "r06.Same" = 27 by kernel_rfl]
  intro a b h1 h2
  refine FC.of' (rs := [.t 4]) (H := wMd h_r06_Same sMd) (lc := c_r06_Same sF) (n := 2) Try.func27 Try.mx ?a ?b ?c ?d ?e ?f
  case f =>
    have hw := w_r06_Same (P := Try.prog) (F := sF) k_r02_SameInts a b h1 h2
    assumption
  case a => kernel_rfl
  case b => kernel_rfl
  case c => kernel_rfl
  case d => rfl
  case e => first | rfl | (simp only [List.all_cons, List.all_nil, Bool.and_true]; first | rfl | assumption | exact caps_ok hcs)
theorem k_l06_MorphismAssociative : K_l06_MorphismAssociative Try.prog sF := by
  unfold K_l06_MorphismAssociative
  rw [show sF "l06.MorphismAssociative" = 8 by kernel_rfl]
  intro x l k hx x1 x2 l2 l1 k2 k1
  refine FC.of' (rs := [.t 6]) (H := wMd h_l06_MorphismAssociative sMd) (lc := c_l06_MorphismAssociative sF) (n := 3) Try.func8 Try.mx ?a ?b ?c ?d ?e ?f
  case f =>
    have hw := w_l06_MorphismAssociative (P := Try.prog) (F := sF) k_l06_awake k_l06_chain k_slices_Clone_uint8 k_r06_Image k_morphism_Compose k_morphism_Identity k_r06_Same x l k hx x1 x2 l2 l1 k2 k1
    assumption
  case a => kernel_rfl
  case b => kernel_rfl
  case c => kernel_rfl
  case d => rfl
  case e => first | rfl | (simp only [List.all_cons, List.all_nil, Bool.and_true]; first | rfl | assumption | exact caps_ok hcs)
end Go.Proofs.Ytgmojdpklekldaa
