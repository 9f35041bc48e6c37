/- The functions of this seat, their contracts. Printed by seat.py. -/
import Derived.Shelf.Sort.Plain
import Derived.Shelf.Slices.In.SortNone
import Derived.Test.YtgmojdpklekldaaRows
import Derived.Test.YtgmojdpklekldaaSlE
import Derived.KernelRfl
namespace Go.Proofs.Ytgmojdpklekldaa
open Go Go.Am
attribute [local irreducible] W
set_option linter.unusedVariables false
set_option linter.unusedSimpArgs false
def sF : String → Nat := lkS [("l06.MorphismAll", 4), ("l06.awake", 10), ("l06.few", 11), ("morphism.Valid", 12), ("morphism.Injective", 15), ("morphism.Surjective", 17), ("r05.Valid", 19), ("morphism.All", 20), ("r06.All", 21), ("r06.SameAll", 22), ("r05.Few", 23), ("r06.Few", 24), ("r06.Same", 27), ("morphism.Same", 28), ("graph.Valid", 38), ("slices.Clone.I", 39), ("morphism.images", 40), ("r05.kind", 43), ("r05.right", 44), ("morphism.search.addNodes", 45), ("r06.nodes", 46), ("r02.SameInts", 48), ("slices.Equal.I", 49), ("slices.ContainsFunc.I", 59), ("graph.Valid.1", 60), ("graph.within", 61), ("slices.ContainsFunc.E", 62), ("graph.Valid.2", 63), ("graph.fits", 64), ("slices.Sort.I", 65), ("slices.Compact.I", 66), ("morphism.search.addEdges", 67), ("morphism.search.possible", 68), ("r06.edges", 69), ("r06.fits", 70), ("slices.IndexFunc.I", 73), ("slices.IndexFunc.E", 74), ("morphism.search.options", 77)]
def sMd : Nat → List Md := lkM [(45, [.mp]), (46, [.rd, .rd, .rd, .ow]), (65, [.mu]), (66, [.ow]), (67, [.mp]), (69, [.rd, .rd, .rd, .rd, .ow])]
theorem Try.mx : Try.prog.follows .mixedOrders = true := by kernel_rfl
theorem k_slices_IndexFunc_I : K_slices_IndexFunc_I Try.prog sF := by
  unfold K_slices_IndexFunc_I
  rw [show sF "slices.IndexFunc.I" = 73 by kernel_rfl]
  intro l hl g cs hcs p hg
  refine FC.of' (rs := [.t 4]) (H := wMd h_slices_IndexFunc_I sMd) (lc := c_slices_IndexFunc_I sF) (n := 2) Try.func73 Try.mx ?a ?b ?c ?d ?e ?f
  case f =>
    have hw := w_slices_IndexFunc_I (P := Try.prog) (F := sF) l hl g cs hcs p hg
    assumption
  case a => kernel_rfl
  case b => kernel_rfl
  case c => kernel_rfl
  case d => rfl
  case e => first | rfl | (simp only [List.all_cons, List.all_nil, Bool.and_true]; first | rfl | assumption | exact caps_ok hcs)
theorem k_slices_ContainsFunc_I : K_slices_ContainsFunc_I Try.prog sF := by
  unfold K_slices_ContainsFunc_I
  rw [show sF "slices.ContainsFunc.I" = 59 by kernel_rfl]
  intro l hl g cs hcs p hg
  refine FC.of' (rs := [.t 4]) (H := wMd h_slices_ContainsFunc_I sMd) (lc := c_slices_ContainsFunc_I sF) (n := 2) Try.func59 Try.mx ?a ?b ?c ?d ?e ?f
  case f =>
    have hw := w_slices_ContainsFunc_I (P := Try.prog) (F := sF) k_slices_IndexFunc_I l hl g cs hcs p hg
    assumption
  case a => kernel_rfl
  case b => kernel_rfl
  case c => kernel_rfl
  case d => rfl
  case e => first | rfl | (simp only [List.all_cons, List.all_nil, Bool.and_true]; first | rfl | assumption | exact caps_ok hcs)
theorem k_slices_IndexFunc_E : K_slices_IndexFunc_E Try.prog sF := by
  unfold K_slices_IndexFunc_E
  rw [show sF "slices.IndexFunc.E" = 74 by kernel_rfl]
  intro l hl g cs hcs p hg
  refine FC.of' (rs := [.t 4]) (H := wMd h_slices_IndexFunc_E sMd) (lc := c_slices_IndexFunc_E sF) (n := 2) Try.func74 Try.mx ?a ?b ?c ?d ?e ?f
  case f =>
    have hw := w_slices_IndexFunc_E (P := Try.prog) (F := sF) l hl g cs hcs p hg
    assumption
  case a => kernel_rfl
  case b => kernel_rfl
  case c => kernel_rfl
  case d => rfl
  case e => first | rfl | (simp only [List.all_cons, List.all_nil, Bool.and_true]; first | rfl | assumption | exact caps_ok hcs)
theorem k_slices_ContainsFunc_E : K_slices_ContainsFunc_E Try.prog sF := by
  unfold K_slices_ContainsFunc_E
  rw [show sF "slices.ContainsFunc.E" = 62 by kernel_rfl]
  intro l hl g cs hcs p hg
  refine FC.of' (rs := [.t 4]) (H := wMd h_slices_ContainsFunc_E sMd) (lc := c_slices_ContainsFunc_E sF) (n := 2) Try.func62 Try.mx ?a ?b ?c ?d ?e ?f
  case f =>
    have hw := w_slices_ContainsFunc_E (P := Try.prog) (F := sF) k_slices_IndexFunc_E l hl g cs hcs p hg
    assumption
  case a => kernel_rfl
  case b => kernel_rfl
  case c => kernel_rfl
  case d => rfl
  case e => first | rfl | (simp only [List.all_cons, List.all_nil, Bool.and_true]; first | rfl | assumption | exact caps_ok hcs)
theorem k_graph_within : K_graph_within Try.prog sF := by
  unfold K_graph_within
  rw [show sF "graph.within" = 61 by kernel_rfl]
  intro n m
  refine FC.of' (rs := [.t 4]) (H := wMd h_graph_within sMd) (lc := c_graph_within sF) (n := 2) Try.func61 Try.mx ?a ?b ?c ?d ?e ?f
  case f =>
    have hw := w_graph_within (P := Try.prog) (F := sF) n m
    assumption
  case a => kernel_rfl
  case b => kernel_rfl
  case c => kernel_rfl
  case d => rfl
  case e => first | rfl | (simp only [List.all_cons, List.all_nil, Bool.and_true]; first | rfl | assumption | exact caps_ok hcs)
theorem k_graph_Valid_1 : K_graph_Valid_1 Try.prog sF := by
  unfold K_graph_Valid_1
  rw [show sF "graph.Valid.1" = 60 by kernel_rfl]
  intro x
  refine FC.of' (rs := [.t 2]) (H := wMd h_graph_Valid_1 sMd) (lc := c_graph_Valid_1 sF) (n := 1) Try.func60 Try.mx ?a ?b ?c ?d ?e ?f
  case f =>
    have hw := w_graph_Valid_1 (P := Try.prog) (F := sF) k_graph_within x
    assumption
  case a => kernel_rfl
  case b => kernel_rfl
  case c => kernel_rfl
  case d => rfl
  case e => first | rfl | (simp only [List.all_cons, List.all_nil, Bool.and_true]; first | rfl | assumption | exact caps_ok hcs)
theorem k_graph_fits : K_graph_fits Try.prog sF := by
  unfold K_graph_fits
  rw [show sF "graph.fits" = 64 by kernel_rfl]
  intro x n hn
  refine FC.of' (rs := [.t 4]) (H := wMd h_graph_fits sMd) (lc := c_graph_fits sF) (n := 2) Try.func64 Try.mx ?a ?b ?c ?d ?e ?f
  case f =>
    have hw := w_graph_fits (P := Try.prog) (F := sF) k_graph_within x n hn
    assumption
  case a => kernel_rfl
  case b => kernel_rfl
  case c => kernel_rfl
  case d => rfl
  case e => first | rfl | (simp only [List.all_cons, List.all_nil, Bool.and_true]; first | rfl | assumption | exact caps_ok hcs)
theorem k_graph_Valid_2 : K_graph_Valid_2 Try.prog sF := by
  unfold K_graph_Valid_2
  rw [show sF "graph.Valid.2" = 63 by kernel_rfl]
  intro x ns es hn
  refine FC.of' (rs := [.t 3]) (H := wMd h_graph_Valid_2 sMd) (lc := c_graph_Valid_2 sF) (n := 2) Try.func63 Try.mx ?a ?b ?c ?d ?e ?f
  case f =>
    have hw := w_graph_Valid_2 (P := Try.prog) (F := sF) k_graph_fits x ns es hn
    assumption
  case a => kernel_rfl
  case b => kernel_rfl
  case c => kernel_rfl
  case d => rfl
  case e => first | rfl | (simp only [List.all_cons, List.all_nil, Bool.and_true]; first | rfl | assumption | exact caps_ok hcs)
theorem k_graph_Valid : K_graph_Valid Try.prog sF := by
  unfold K_graph_Valid
  rw [show sF "graph.Valid" = 38 by kernel_rfl]
  intro g
  refine FC.of' (rs := [.t 2]) (H := wMd h_graph_Valid sMd) (lc := c_graph_Valid sF) (n := 1) Try.func38 Try.mx ?a ?b ?c ?d ?e ?f
  case f =>
    have hw := w_graph_Valid (P := Try.prog) (F := sF) k_slices_ContainsFunc_I k_slices_ContainsFunc_E k_graph_Valid_1 k_graph_Valid_2 g
    assumption
  case a => kernel_rfl
  case b => kernel_rfl
  case c => kernel_rfl
  case d => rfl
  case e => first | rfl | (simp only [List.all_cons, List.all_nil, Bool.and_true]; first | rfl | assumption | exact caps_ok hcs)
theorem k_slices_Clone_I : K_slices_Clone_I Try.prog sF := by
  unfold K_slices_Clone_I
  rw [show sF "slices.Clone.I" = 39 by kernel_rfl]
  intro l hl
  refine FC.of' (rs := [.t 2]) (H := wMd h_slices_Clone_I sMd) (lc := c_slices_Clone_I sF) (n := 1) Try.func39 Try.mx ?a ?b ?c ?d ?e ?f
  case f =>
    have hw := w_slices_Clone_I (P := Try.prog) (F := sF) l hl
    assumption
  case a => kernel_rfl
  case b => kernel_rfl
  case c => kernel_rfl
  case d => rfl
  case e => first | rfl | (simp only [List.all_cons, List.all_nil, Bool.and_true]; first | rfl | assumption | exact caps_ok hcs)
theorem k_morphism_search_options : K_morphism_search_options Try.prog sF := by
  unfold K_morphism_search_options
  rw [show sF "morphism.search.options" = 77 by kernel_rfl]
  intro a b ns es out e h1 h2 h3 h4 h5
  refine FC.of' (rs := [.t 4]) (H := wMd h_morphism_search_options sMd) (lc := c_morphism_search_options sF) (n := 2) Try.func77 Try.mx ?a ?b ?c ?d ?e ?f
  case f =>
    have hw := w_morphism_search_options (P := Try.prog) (F := sF) a b ns es out e h1 h2 h3 h4 h5
    assumption
  case a => kernel_rfl
  case b => kernel_rfl
  case c => kernel_rfl
  case d => rfl
  case e => first | rfl | (simp only [List.all_cons, List.all_nil, Bool.and_true]; first | rfl | assumption | exact caps_ok hcs)
theorem k_morphism_search_addEdges : K_morphism_search_addEdges Try.prog sF := by
  unfold K_morphism_search_addEdges
  intro n
  induction n using Nat.strongRecOn with
  | ind n ih =>
  unfold KA_morphism_search_addEdges
  rw [show sF "morphism.search.addEdges" = 67 by kernel_rfl]
  intro a b ns es out va vb h1 h2 h3
  refine FC.ofO (rs := []) (H := wMd h_morphism_search_addEdges sMd) (lc := c_morphism_search_addEdges sF) (n := 1) (outs := [0]) Try.func67 Try.mx ?a ?b ?c ?d ?e ?f
  case f =>
    have hw := w_morphism_search_addEdges (P := Try.prog) (F := sF) k_slices_Clone_I k_morphism_search_options n ih a b ns es out va vb h1 h2 h3
    assumption
  case a => kernel_rfl
  case b => kernel_rfl
  case c => kernel_rfl
  case d => rfl
  case e => first | rfl | (simp only [List.all_cons, List.all_nil, Bool.and_true]; first | rfl | assumption | exact caps_ok hcs)
theorem k_morphism_search_possible : K_morphism_search_possible Try.prog sF := by
  unfold K_morphism_search_possible
  rw [show sF "morphism.search.possible" = 68 by kernel_rfl]
  intro a b ns out va vb h1 h2
  refine FC.of' (rs := [.t 2]) (H := wMd h_morphism_search_possible sMd) (lc := c_morphism_search_possible sF) (n := 1) Try.func68 Try.mx ?a ?b ?c ?d ?e ?f
  case f =>
    have hw := w_morphism_search_possible (P := Try.prog) (F := sF) k_morphism_search_options a b ns out va vb h1 h2
    assumption
  case a => kernel_rfl
  case b => kernel_rfl
  case c => kernel_rfl
  case d => rfl
  case e => first | rfl | (simp only [List.all_cons, List.all_nil, Bool.and_true]; first | rfl | assumption | exact caps_ok hcs)
theorem k_morphism_search_addNodes : K_morphism_search_addNodes Try.prog sF := by
  unfold K_morphism_search_addNodes
  intro n
  induction n using Nat.strongRecOn with
  | ind n ih =>
  unfold KA_morphism_search_addNodes
  rw [show sF "morphism.search.addNodes" = 45 by kernel_rfl]
  intro a b ns out va vb h1 h2
  refine FC.ofO (rs := []) (H := wMd h_morphism_search_addNodes sMd) (lc := c_morphism_search_addNodes sF) (n := 1) (outs := [0]) Try.func45 Try.mx ?a ?b ?c ?d ?e ?f
  case f =>
    have hw := w_morphism_search_addNodes (P := Try.prog) (F := sF) k_morphism_search_addEdges k_morphism_search_possible n ih a b ns out va vb h1 h2
    assumption
  case a => kernel_rfl
  case b => kernel_rfl
  case c => kernel_rfl
  case d => rfl
  case e => first | rfl | (simp only [List.all_cons, List.all_nil, Bool.and_true]; first | rfl | assumption | exact caps_ok hcs)
theorem k_morphism_All : K_morphism_All Try.prog sF := by
  unfold K_morphism_All
  rw [show sF "morphism.All" = 20 by kernel_rfl]
  intro a b
  refine FC.of' (rs := [.t 4, .t 5]) (H := wMd h_morphism_All sMd) (lc := c_morphism_All sF) (n := 2) Try.func20 Try.mx ?a ?b ?c ?d ?e ?f
  case f =>
    have hw := w_morphism_All (P := Try.prog) (F := sF) k_graph_Valid k_morphism_search_addNodes a b
    assumption
  case a => kernel_rfl
  case b => kernel_rfl
  case c => kernel_rfl
  case d => rfl
  case e => first | rfl | (simp only [List.all_cons, List.all_nil, Bool.and_true]; first | rfl | assumption | exact caps_ok hcs)
theorem k_slices_Equal_I : K_slices_Equal_I Try.prog sF := by
  unfold K_slices_Equal_I
  rw [show sF "slices.Equal.I" = 49 by kernel_rfl]
  intro a b hl
  refine FC.of' (rs := [.t 4]) (H := wMd h_slices_Equal_I sMd) (lc := c_slices_Equal_I sF) (n := 2) Try.func49 Try.mx ?a ?b ?c ?d ?e ?f
  case f =>
    have hw := w_slices_Equal_I (P := Try.prog) (F := sF) a b hl
    assumption
  case a => kernel_rfl
  case b => kernel_rfl
  case c => kernel_rfl
  case d => rfl
  case e => first | rfl | (simp only [List.all_cons, List.all_nil, Bool.and_true]; first | rfl | assumption | exact caps_ok hcs)
theorem k_morphism_Same : K_morphism_Same Try.prog sF := by
  unfold K_morphism_Same
  rw [show sF "morphism.Same" = 28 by kernel_rfl]
  intro a b h1 h2
  refine FC.of' (rs := [.t 4]) (H := wMd h_morphism_Same sMd) (lc := c_morphism_Same sF) (n := 2) Try.func28 Try.mx ?a ?b ?c ?d ?e ?f
  case f =>
    have hw := w_morphism_Same (P := Try.prog) (F := sF) k_slices_Equal_I a b h1 h2
    assumption
  case a => kernel_rfl
  case b => kernel_rfl
  case c => kernel_rfl
  case d => rfl
  case e => first | rfl | (simp only [List.all_cons, List.all_nil, Bool.and_true]; first | rfl | assumption | exact caps_ok hcs)
theorem k_morphism_Valid : K_morphism_Valid Try.prog sF := by
  unfold K_morphism_Valid
  rw [show sF "morphism.Valid" = 12 by kernel_rfl]
  intro a b m
  refine FC.of' (rs := [.t 6]) (H := wMd h_morphism_Valid sMd) (lc := c_morphism_Valid sF) (n := 3) Try.func12 Try.mx ?a ?b ?c ?d ?e ?f
  case f =>
    have hw := w_morphism_Valid (P := Try.prog) (F := sF) k_graph_Valid a b m
    assumption
  case a => kernel_rfl
  case b => kernel_rfl
  case c => kernel_rfl
  case d => rfl
  case e => first | rfl | (simp only [List.all_cons, List.all_nil, Bool.and_true]; first | rfl | assumption | exact caps_ok hcs)
def SortL_ren : Go.Shelf.Ren := ⟨fun | 189 => 65 | 125 => 76 | 257 => 75 | 128 => 88 | 129 => 89 | 294 => 79 | 295 => 80 | 296 => 81 | 297 => 82 | 298 => 83 | 299 => 84 | 216 => 85 | 300 => 86 | 301 => 87 | 328 => 90 | 329 => 91 | 330 => 92 | 331 => 93 | 332 => 94 | 215 => 95 | 343 => 96 | n => n, fun | 28 => 22 | 3 => 3 | 46 => 100 | 0 => 0 | 51 => 110 | 53 => 112 | 4 => 4 | 183 => 103 | 182 => 102 | 131 => 107 | 5 => 5 | 9 => 9 | 218 => 113 | 222 => 117 | 228 => 119 | 229 => 120 | n => n, fun | n => n⟩
theorem SortL : Go.Proofs.Lays.n189 Try.prog SortL_ren := {
  mixed := by kernel_rfl,
  f125 := Try.func76.trans (congrArg some (by kernel_rfl)),
  f128 := Try.func88.trans (congrArg some (by kernel_rfl)),
  f129 := Try.func89.trans (congrArg some (by kernel_rfl)),
  f189 := Try.func65.trans (congrArg some (by kernel_rfl)),
  f215 := Try.func95.trans (congrArg some (by kernel_rfl)),
  f216 := Try.func85.trans (congrArg some (by kernel_rfl)),
  f257 := Try.func75.trans (congrArg some (by kernel_rfl)),
  f294 := Try.func79.trans (congrArg some (by kernel_rfl)),
  f295 := Try.func80.trans (congrArg some (by kernel_rfl)),
  f296 := Try.func81.trans (congrArg some (by kernel_rfl)),
  f297 := Try.func82.trans (congrArg some (by kernel_rfl)),
  f298 := Try.func83.trans (congrArg some (by kernel_rfl)),
  f299 := Try.func84.trans (congrArg some (by kernel_rfl)),
  f300 := Try.func86.trans (congrArg some (by kernel_rfl)),
  f301 := Try.func87.trans (congrArg some (by kernel_rfl)),
  f328 := Try.func90.trans (congrArg some (by kernel_rfl)),
  f329 := Try.func91.trans (congrArg some (by kernel_rfl)),
  f330 := Try.func92.trans (congrArg some (by kernel_rfl)),
  f331 := Try.func93.trans (congrArg some (by kernel_rfl)),
  f332 := Try.func94.trans (congrArg some (by kernel_rfl)),
  f343 := Try.func96.trans (congrArg some (by kernel_rfl)),
  t0 := Try.underlying0,
  a0 := Try.isAgg0,
  z0 := Try.sizeOf0,
  v0 := Try.zeroValue0,
  t3 := Try.underlying3,
  a3 := Try.isAgg3,
  z3 := Try.sizeOf3,
  v3 := Try.zeroValue3,
  t4 := Try.underlying4,
  a4 := Try.isAgg4,
  z4 := Try.sizeOf4,
  v4 := Try.zeroValue4,
  t5 := Try.underlying5,
  a5 := Try.isAgg5,
  z5 := Try.sizeOf5,
  v5 := Try.zeroValue5,
  t9 := Try.underlying9,
  a9 := Try.isAgg9,
  z9 := Try.sizeOf9,
  v9 := Try.zeroValue9,
  t28 := Try.underlying22,
  a28 := Try.isAgg22,
  z28 := Try.sizeOf22,
  v28 := Try.zeroValue22,
  t46 := Try.underlying100,
  a46 := Try.isAgg100,
  z46 := Try.sizeOf100,
  v46 := Try.zeroValue100,
  t51 := Try.underlying110,
  a51 := Try.isAgg110,
  z51 := Try.sizeOf110,
  v51 := Try.zeroValue110,
  t53 := Try.underlying112,
  a53 := Try.isAgg112,
  z53 := Try.sizeOf112,
  v53 := Try.zeroValue112,
  t131 := Try.underlying107,
  a131 := Try.isAgg107,
  z131 := Try.sizeOf107,
  v131 := Try.zeroValue107,
  t182 := Try.underlying102,
  a182 := Try.isAgg102,
  z182 := Try.sizeOf102,
  v182 := Try.zeroValue102,
  t183 := Try.underlying103,
  a183 := Try.isAgg103,
  z183 := Try.sizeOf103,
  v183 := Try.zeroValue103,
  t218 := Try.underlying113,
  a218 := Try.isAgg113,
  z218 := Try.sizeOf113,
  v218 := Try.zeroValue113,
  t222 := Try.underlying117,
  a222 := Try.isAgg117,
  z222 := Try.sizeOf117,
  v222 := Try.zeroValue117,
  t228 := Try.underlying119,
  a228 := Try.isAgg119,
  z228 := Try.sizeOf119,
  v228 := Try.zeroValue119,
  t229 := Try.underlying120,
  a229 := Try.isAgg120,
  z229 := Try.sizeOf120,
  v229 := Try.zeroValue120 }
theorem k_slices_Sort_I : K_slices_Sort_I Try.prog sF := by
  unfold K_slices_Sort_I
  rw [show sF "slices.Sort.I" = 65 by kernel_rfl]
  intro l hl
  have hb : (Try.f65.body.isSome) = true := by kernel_rfl
  obtain ⟨body, hb⟩ := Option.isSome_iff_exists.1 hb
  exact sort_FC (callFunc_enter Try.func65 (by kernel_rfl) hb) (fun blk off cap zs w h1 h2 h3 => Go.Proofs.Any.slices_Sort_int SortL blk off cap zs w h1 h2 h3) (fun p cap w => Go.Proofs.Any.slices_Sort_int_none SortL p cap w) l hl
theorem k_slices_Compact_I : K_slices_Compact_I Try.prog sF := by
  unfold K_slices_Compact_I
  rw [show sF "slices.Compact.I" = 66 by kernel_rfl]
  intro l hl
  refine FC.of' (rs := [.t 2]) (H := wMd h_slices_Compact_I sMd) (lc := c_slices_Compact_I sF) (n := 1) Try.func66 Try.mx ?a ?b ?c ?d ?e ?f
  case f =>
    have hw := w_slices_Compact_I (P := Try.prog) (F := sF) l hl
    assumption
  case a => kernel_rfl
  case b => kernel_rfl
  case c => kernel_rfl
  case d => rfl
  case e => first | rfl | (simp only [List.all_cons, List.all_nil, Bool.and_true]; first | rfl | assumption | exact caps_ok hcs)
theorem k_morphism_images : K_morphism_images Try.prog sF := by
  unfold K_morphism_images
  rw [show sF "morphism.images" = 40 by kernel_rfl]
  intro l hl
  refine FC.of' (rs := [.t 2]) (H := wMd h_morphism_images sMd) (lc := c_morphism_images sF) (n := 1) Try.func40 Try.mx ?a ?b ?c ?d ?e ?f
  case f =>
    have hw := w_morphism_images (P := Try.prog) (F := sF) k_slices_Clone_I k_slices_Sort_I k_slices_Compact_I l hl
    assumption
  case a => kernel_rfl
  case b => kernel_rfl
  case c => kernel_rfl
  case d => rfl
  case e => first | rfl | (simp only [List.all_cons, List.all_nil, Bool.and_true]; first | rfl | assumption | exact caps_ok hcs)
theorem k_morphism_Surjective : K_morphism_Surjective Try.prog sF := by
  unfold K_morphism_Surjective
  rw [show sF "morphism.Surjective" = 17 by kernel_rfl]
  intro a b m
  refine FC.of' (rs := [.t 6]) (H := wMd h_morphism_Surjective sMd) (lc := c_morphism_Surjective sF) (n := 3) Try.func17 Try.mx ?a ?b ?c ?d ?e ?f
  case f =>
    have hw := w_morphism_Surjective (P := Try.prog) (F := sF) k_morphism_Valid k_morphism_images a b m
    assumption
  case a => kernel_rfl
  case b => kernel_rfl
  case c => kernel_rfl
  case d => rfl
  case e => first | rfl | (simp only [List.all_cons, List.all_nil, Bool.and_true]; first | rfl | assumption | exact caps_ok hcs)
theorem k_morphism_Injective : K_morphism_Injective Try.prog sF := by
  unfold K_morphism_Injective
  rw [show sF "morphism.Injective" = 15 by kernel_rfl]
  intro a b m
  refine FC.of' (rs := [.t 6]) (H := wMd h_morphism_Injective sMd) (lc := c_morphism_Injective sF) (n := 3) Try.func15 Try.mx ?a ?b ?c ?d ?e ?f
  case f =>
    have hw := w_morphism_Injective (P := Try.prog) (F := sF) k_morphism_Valid k_morphism_images a b m
    assumption
  case a => kernel_rfl
  case b => kernel_rfl
  case c => kernel_rfl
  case d => rfl
  case e => first | rfl | (simp only [List.all_cons, List.all_nil, Bool.and_true]; first | rfl | assumption | exact caps_ok hcs)
theorem k_l06_awake : K_l06_awake Try.prog sF := by
  unfold K_l06_awake
  rw [show sF "l06.awake" = 10 by kernel_rfl]
  refine FC.of' (rs := [.t 0]) (H := wMd h_l06_awake sMd) (lc := c_l06_awake sF) (n := 0) Try.func10 Try.mx ?a ?b ?c ?d ?e ?f
  case f =>
    have hw := w_l06_awake (P := Try.prog) (F := sF) k_morphism_All k_morphism_Same k_morphism_Surjective k_morphism_Injective
    assumption
  case a => kernel_rfl
  case b => kernel_rfl
  case c => kernel_rfl
  case d => rfl
  case e => first | rfl | (simp only [List.all_cons, List.all_nil, Bool.and_true]; first | rfl | assumption | exact caps_ok hcs)
theorem k_r05_Few : K_r05_Few Try.prog sF := by
  unfold K_r05_Few
  rw [show sF "r05.Few" = 23 by kernel_rfl]
  intro g
  refine FC.of' (rs := [.t 2]) (H := wMd h_r05_Few sMd) (lc := c_r05_Few sF) (n := 1) Try.func23 Try.mx ?a ?b ?c ?d ?e ?f
  case f =>
    have hw := w_r05_Few (P := Try.prog) (F := sF) g
    assumption
  case a => kernel_rfl
  case b => kernel_rfl
  case c => kernel_rfl
  case d => rfl
  case e => first | rfl | (simp only [List.all_cons, List.all_nil, Bool.and_true]; first | rfl | assumption | exact caps_ok hcs)
theorem k_r06_Few : K_r06_Few Try.prog sF := by
  unfold K_r06_Few
  rw [show sF "r06.Few" = 24 by kernel_rfl]
  intro m n h1 h2
  refine FC.of' (rs := [.t 4]) (H := wMd h_r06_Few sMd) (lc := c_r06_Few sF) (n := 2) Try.func24 Try.mx ?a ?b ?c ?d ?e ?f
  case f =>
    have hw := w_r06_Few (P := Try.prog) (F := sF) m n h1 h2
    assumption
  case a => kernel_rfl
  case b => kernel_rfl
  case c => kernel_rfl
  case d => rfl
  case e => first | rfl | (simp only [List.all_cons, List.all_nil, Bool.and_true]; first | rfl | assumption | exact caps_ok hcs)
theorem k_l06_few : K_l06_few Try.prog sF := by
  unfold K_l06_few
  rw [show sF "l06.few" = 11 by kernel_rfl]
  intro a l hl hsm
  refine FC.of' (rs := [.t 4]) (H := wMd h_l06_few sMd) (lc := c_l06_few sF) (n := 2) Try.func11 Try.mx ?a ?b ?c ?d ?e ?f
  case f =>
    have hw := w_l06_few (P := Try.prog) (F := sF) k_r05_Few k_r06_Few a l hl hsm
    assumption
  case a => kernel_rfl
  case b => kernel_rfl
  case c => kernel_rfl
  case d => rfl
  case e => first | rfl | (simp only [List.all_cons, List.all_nil, Bool.and_true]; first | rfl | assumption | exact caps_ok hcs)
theorem k_r05_kind : K_r05_kind Try.prog sF := by
  unfold K_r05_kind
  rw [show sF "r05.kind" = 43 by kernel_rfl]
  intro n
  refine FC.of' (rs := [.t 2]) (H := wMd h_r05_kind sMd) (lc := c_r05_kind sF) (n := 1) Try.func43 Try.mx ?a ?b ?c ?d ?e ?f
  case f =>
    have hw := w_r05_kind (P := Try.prog) (F := sF) n
    assumption
  case a => kernel_rfl
  case b => kernel_rfl
  case c => kernel_rfl
  case d => rfl
  case e => first | rfl | (simp only [List.all_cons, List.all_nil, Bool.and_true]; first | rfl | assumption | exact caps_ok hcs)
theorem k_r05_right : K_r05_right Try.prog sF := by
  unfold K_r05_right
  rw [show sF "r05.right" = 44 by kernel_rfl]
  intro x n
  refine FC.of' (rs := [.t 4]) (H := wMd h_r05_right sMd) (lc := c_r05_right sF) (n := 2) Try.func44 Try.mx ?a ?b ?c ?d ?e ?f
  case f =>
    have hw := w_r05_right (P := Try.prog) (F := sF) k_r05_kind x n
    assumption
  case a => kernel_rfl
  case b => kernel_rfl
  case c => kernel_rfl
  case d => rfl
  case e => first | rfl | (simp only [List.all_cons, List.all_nil, Bool.and_true]; first | rfl | assumption | exact caps_ok hcs)
theorem k_r05_Valid : K_r05_Valid Try.prog sF := by
  unfold K_r05_Valid
  rw [show sF "r05.Valid" = 19 by kernel_rfl]
  intro g
  refine FC.of' (rs := [.t 2]) (H := wMd h_r05_Valid sMd) (lc := c_r05_Valid sF) (n := 1) Try.func19 Try.mx ?a ?b ?c ?d ?e ?f
  case f =>
    have hw := w_r05_Valid (P := Try.prog) (F := sF) k_r05_kind k_r05_right g
    assumption
  case a => kernel_rfl
  case b => kernel_rfl
  case c => kernel_rfl
  case d => rfl
  case e => first | rfl | (simp only [List.all_cons, List.all_nil, Bool.and_true]; first | rfl | assumption | exact caps_ok hcs)
theorem k_r06_edges : K_r06_edges Try.prog sF := by
  unfold K_r06_edges
  intro n
  induction n using Nat.strongRecOn with
  | ind n ih =>
  unfold KA_r06_edges
  rw [show sF "r06.edges" = 69 by kernel_rfl]
  intro a b ns es out va vb h1 h2 h3
  refine FC.of' (rs := [.t 10]) (H := wMd h_r06_edges sMd) (lc := c_r06_edges sF) (n := 5) Try.func69 Try.mx ?a ?b ?c ?d ?e ?f
  case f =>
    have hw := w_r06_edges (P := Try.prog) (F := sF) n ih a b ns es out va vb h1 h2 h3
    assumption
  case a => kernel_rfl
  case b => kernel_rfl
  case c => kernel_rfl
  case d => rfl
  case e => first | rfl | (simp only [List.all_cons, List.all_nil, Bool.and_true]; first | rfl | assumption | exact caps_ok hcs)
theorem k_r06_fits : K_r06_fits Try.prog sF := by
  unfold K_r06_fits
  rw [show sF "r06.fits" = 70 by kernel_rfl]
  intro a b ns va vb h1 h2
  refine FC.of' (rs := [.t 6]) (H := wMd h_r06_fits sMd) (lc := c_r06_fits sF) (n := 3) Try.func70 Try.mx ?a ?b ?c ?d ?e ?f
  case f =>
    have hw := w_r06_fits (P := Try.prog) (F := sF) a b ns va vb h1 h2
    assumption
  case a => kernel_rfl
  case b => kernel_rfl
  case c => kernel_rfl
  case d => rfl
  case e => first | rfl | (simp only [List.all_cons, List.all_nil, Bool.and_true]; first | rfl | assumption | exact caps_ok hcs)
theorem k_r06_nodes : K_r06_nodes Try.prog sF := by
  unfold K_r06_nodes
  intro n
  induction n using Nat.strongRecOn with
  | ind n ih =>
  unfold KA_r06_nodes
  rw [show sF "r06.nodes" = 46 by kernel_rfl]
  intro a b ns out va vb h1 h2
  refine FC.of' (rs := [.t 8]) (H := wMd h_r06_nodes sMd) (lc := c_r06_nodes sF) (n := 4) Try.func46 Try.mx ?a ?b ?c ?d ?e ?f
  case f =>
    have hw := w_r06_nodes (P := Try.prog) (F := sF) k_r06_edges k_r06_fits n ih a b ns out va vb h1 h2
    assumption
  case a => kernel_rfl
  case b => kernel_rfl
  case c => kernel_rfl
  case d => rfl
  case e => first | rfl | (simp only [List.all_cons, List.all_nil, Bool.and_true]; first | rfl | assumption | exact caps_ok hcs)
theorem k_r06_All : K_r06_All Try.prog sF := by
  unfold K_r06_All
  rw [show sF "r06.All" = 21 by kernel_rfl]
  intro a b
  refine FC.of' (rs := [.t 4, .t 5]) (H := wMd h_r06_All sMd) (lc := c_r06_All sF) (n := 2) Try.func21 Try.mx ?a ?b ?c ?d ?e ?f
  case f =>
    have hw := w_r06_All (P := Try.prog) (F := sF) k_r05_Valid k_r06_nodes a b
    assumption
  case a => kernel_rfl
  case b => kernel_rfl
  case c => kernel_rfl
  case d => rfl
  case e => first | rfl | (simp only [List.all_cons, List.all_nil, Bool.and_true]; first | rfl | assumption | exact caps_ok hcs)
theorem k_r02_SameInts : K_r02_SameInts Try.prog sF := by
  unfold K_r02_SameInts
  rw [show sF "r02.SameInts" = 48 by kernel_rfl]
  intro a b hl
  refine FC.of' (rs := [.t 4]) (H := wMd h_r02_SameInts sMd) (lc := c_r02_SameInts sF) (n := 2) Try.func48 Try.mx ?a ?b ?c ?d ?e ?f
  case f =>
    have hw := w_r02_SameInts (P := Try.prog) (F := sF) a b hl
    assumption
  case a => kernel_rfl
  case b => kernel_rfl
  case c => kernel_rfl
  case d => rfl
  case e => first | rfl | (simp only [List.all_cons, List.all_nil, Bool.and_true]; first | rfl | assumption | exact caps_ok hcs)
theorem k_r06_Same : K_r06_Same Try.prog sF := by
  unfold K_r06_Same
  rw [show sF "r06.Same" = 27 by kernel_rfl]
  intro a b h1 h2
  refine FC.of' (rs := [.t 4]) (H := wMd h_r06_Same sMd) (lc := c_r06_Same sF) (n := 2) Try.func27 Try.mx ?a ?b ?c ?d ?e ?f
  case f =>
    have hw := w_r06_Same (P := Try.prog) (F := sF) k_r02_SameInts a b h1 h2
    assumption
  case a => kernel_rfl
  case b => kernel_rfl
  case c => kernel_rfl
  case d => rfl
  case e => first | rfl | (simp only [List.all_cons, List.all_nil, Bool.and_true]; first | rfl | assumption | exact caps_ok hcs)
theorem k_r06_SameAll : K_r06_SameAll Try.prog sF := by
  unfold K_r06_SameAll
  rw [show sF "r06.SameAll" = 22 by kernel_rfl]
  intro l m hl hsm
  refine FC.of' (rs := [.t 4]) (H := wMd h_r06_SameAll sMd) (lc := c_r06_SameAll sF) (n := 2) Try.func22 Try.mx ?a ?b ?c ?d ?e ?f
  case f =>
    have hw := w_r06_SameAll (P := Try.prog) (F := sF) k_r06_Same l m hl hsm
    assumption
  case a => kernel_rfl
  case b => kernel_rfl
  case c => kernel_rfl
  case d => rfl
  case e => first | rfl | (simp only [List.all_cons, List.all_nil, Bool.and_true]; first | rfl | assumption | exact caps_ok hcs)
theorem k_l06_MorphismAll : K_l06_MorphismAll Try.prog sF := by
  unfold K_l06_MorphismAll
  rw [show sF "l06.MorphismAll" = 4 by kernel_rfl]
  intro a b
  refine FC.of' (rs := [.t 4]) (H := wMd h_l06_MorphismAll sMd) (lc := c_l06_MorphismAll sF) (n := 2) Try.func4 Try.mx ?a ?b ?c ?d ?e ?f
  case f =>
    have hw := w_l06_MorphismAll (P := Try.prog) (F := sF) k_l06_awake k_l06_few k_r05_Valid k_morphism_All k_r06_All k_r06_SameAll k_morphism_Valid a b
    assumption
  case a => kernel_rfl
  case b => kernel_rfl
  case c => kernel_rfl
  case d => rfl
  case e => first | rfl | (simp only [List.all_cons, List.all_nil, Bool.and_true]; first | rfl | assumption | exact caps_ok hcs)
end Go.Proofs.Ytgmojdpklekldaa
