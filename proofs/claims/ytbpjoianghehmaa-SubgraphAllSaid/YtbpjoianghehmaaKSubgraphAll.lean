/- The functions of this seat, their contracts. Printed by seat.py. -/
import Derived.Shelf.SlSortCmp.Whole1
import Derived.Shelf.Sort.Plain
import Derived.Shelf.Slices.In.SortNone
import Derived.Test.YtbpjoianghehmaaRows
import Derived.KernelRfl
import Derived.Test.YtbpjoianghehmaaSpPa
import Derived.Test.YtbpjoianghehmaaSpPb
import Derived.Test.YtbpjoianghehmaaSpPc
import Derived.Test.YtbpjoianghehmaaSpXa
import Derived.Test.YtbpjoianghehmaaSpZa
namespace Go.Proofs.Ytbpjoianghehmaa
open Go Go.Am
attribute [local irreducible] W
set_option linter.unusedVariables false
set_option linter.unusedSimpArgs false
def sF : String → Nat := lkS [("l07.SubgraphAll", 5), ("l07.awake", 11), ("l07.small", 12), ("subgraph.Close", 13), ("r05.Copied", 14), ("slices.Clone.I", 15), ("r07.Same", 17), ("r05.Valid", 20), ("subgraph.Boundary", 21), ("subgraph.All", 24), ("r07.All", 25), ("r05.SameParts", 26), ("subgraph.Valid", 27), ("r07.Compare", 28), ("slices.Equal.I", 36), ("r07.Few", 43), ("l07.line", 49), ("r05.Few", 50), ("slices.ContainsFunc.apiPart", 51), ("l07.small.1", 52), ("graph.Valid", 53), ("subgraph.Close.1", 54), ("subgraph.Close.1.1", 55), ("slices.ContainsFunc.I", 56), ("subgraph.sorted", 57), ("r05.SameInts", 59), ("r05.kind", 61), ("r05.right", 62), ("subgraph.has", 63), ("subgraph.common", 64), ("subgraph.subsets", 67), ("subgraph.part", 68), ("r07.bits", 69), ("r07.Right", 70), ("r07.compare", 71), ("slices.BinarySearch.I", 72), ("r07.has", 74), ("slices.IndexFunc.apiPart", 85), ("graph.Valid.1", 86), ("graph.within", 87), ("slices.ContainsFunc.E", 88), ("graph.Valid.2", 89), ("graph.fits", 90), ("slices.IndexFunc.I", 91), ("slices.Sort.I", 92), ("slices.Compact.I", 93), ("slices.DeleteFunc.I", 94), ("subgraph.common.1", 95), ("slices.SortFunc.int3", 97), ("subgraph.subsets.1", 98), ("cmp.Or.I", 99), ("cmp.Compare.I", 100), ("slices.Compare.I", 101), ("subgraph.list", 102), ("r07.ascending", 103), ("cmp.Less.I", 104), ("slices.isNaN.I", 105), ("slices.IndexFunc.E", 108), ("cmp.isNaN.I", 112)]
def sMd : Nat → List Md := lkM [(57, [.ow]), (92, [.mu]), (93, [.ow]), (94, [.ow, .rd]), (97, [.mu, .rd])]
theorem Try.mx : Try.prog.follows .mixedOrders = true := by kernel_rfl
theorem k_l07_line : K_l07_line Try.prog sF := by
  unfold K_l07_line
  rw [show sF "l07.line" = 49 by kernel_rfl]
  refine FC.of' (rs := [.c 0 true 2]) (H := wMd h_l07_line sMd) (lc := c_l07_line sF) (n := 0) Try.func49 Try.mx ?a ?b ?c ?d ?e ?f
  case f =>
    have hw := w_l07_line (P := Try.prog) (F := sF) 
    assumption
  case a => kernel_rfl
  case b => kernel_rfl
  case c => kernel_rfl
  case d => rfl
  case e => first | rfl | (simp only [List.all_cons, List.all_nil, Bool.and_true]; first | rfl | assumption | exact caps_ok hcs)
theorem k_slices_IndexFunc_I : K_slices_IndexFunc_I Try.prog sF := by
  unfold K_slices_IndexFunc_I
  rw [show sF "slices.IndexFunc.I" = 91 by kernel_rfl]
  intro l hl g cs hcs p hg
  refine FC.of' (rs := [.t 4]) (H := wMd h_slices_IndexFunc_I sMd) (lc := c_slices_IndexFunc_I sF) (n := 2) Try.func91 Try.mx ?a ?b ?c ?d ?e ?f
  case f =>
    have hw := w_slices_IndexFunc_I (P := Try.prog) (F := sF) l hl g cs hcs p hg
    assumption
  case a => kernel_rfl
  case b => kernel_rfl
  case c => kernel_rfl
  case d => rfl
  case e => first | rfl | (simp only [List.all_cons, List.all_nil, Bool.and_true]; first | rfl | assumption | exact caps_ok hcs)
theorem k_slices_ContainsFunc_I : K_slices_ContainsFunc_I Try.prog sF := by
  unfold K_slices_ContainsFunc_I
  rw [show sF "slices.ContainsFunc.I" = 56 by kernel_rfl]
  intro l hl g cs hcs p hg
  refine FC.of' (rs := [.t 4]) (H := wMd h_slices_ContainsFunc_I sMd) (lc := c_slices_ContainsFunc_I sF) (n := 2) Try.func56 Try.mx ?a ?b ?c ?d ?e ?f
  case f =>
    have hw := w_slices_ContainsFunc_I (P := Try.prog) (F := sF) k_slices_IndexFunc_I l hl g cs hcs p hg
    assumption
  case a => kernel_rfl
  case b => kernel_rfl
  case c => kernel_rfl
  case d => rfl
  case e => first | rfl | (simp only [List.all_cons, List.all_nil, Bool.and_true]; first | rfl | assumption | exact caps_ok hcs)
theorem k_slices_IndexFunc_E : K_slices_IndexFunc_E Try.prog sF := by
  unfold K_slices_IndexFunc_E
  rw [show sF "slices.IndexFunc.E" = 108 by kernel_rfl]
  intro l hl g cs hcs p hg
  refine FC.of' (rs := [.t 4]) (H := wMd h_slices_IndexFunc_E sMd) (lc := c_slices_IndexFunc_E sF) (n := 2) Try.func108 Try.mx ?a ?b ?c ?d ?e ?f
  case f =>
    have hw := w_slices_IndexFunc_E (P := Try.prog) (F := sF) l hl g cs hcs p hg
    assumption
  case a => kernel_rfl
  case b => kernel_rfl
  case c => kernel_rfl
  case d => rfl
  case e => first | rfl | (simp only [List.all_cons, List.all_nil, Bool.and_true]; first | rfl | assumption | exact caps_ok hcs)
theorem k_slices_ContainsFunc_E : K_slices_ContainsFunc_E Try.prog sF := by
  unfold K_slices_ContainsFunc_E
  rw [show sF "slices.ContainsFunc.E" = 88 by kernel_rfl]
  intro l hl g cs hcs p hg
  refine FC.of' (rs := [.t 4]) (H := wMd h_slices_ContainsFunc_E sMd) (lc := c_slices_ContainsFunc_E sF) (n := 2) Try.func88 Try.mx ?a ?b ?c ?d ?e ?f
  case f =>
    have hw := w_slices_ContainsFunc_E (P := Try.prog) (F := sF) k_slices_IndexFunc_E l hl g cs hcs p hg
    assumption
  case a => kernel_rfl
  case b => kernel_rfl
  case c => kernel_rfl
  case d => rfl
  case e => first | rfl | (simp only [List.all_cons, List.all_nil, Bool.and_true]; first | rfl | assumption | exact caps_ok hcs)
theorem k_graph_within : K_graph_within Try.prog sF := by
  unfold K_graph_within
  rw [show sF "graph.within" = 87 by kernel_rfl]
  intro n m
  refine FC.of' (rs := [.t 4]) (H := wMd h_graph_within sMd) (lc := c_graph_within sF) (n := 2) Try.func87 Try.mx ?a ?b ?c ?d ?e ?f
  case f =>
    have hw := w_graph_within (P := Try.prog) (F := sF) n m
    assumption
  case a => kernel_rfl
  case b => kernel_rfl
  case c => kernel_rfl
  case d => rfl
  case e => first | rfl | (simp only [List.all_cons, List.all_nil, Bool.and_true]; first | rfl | assumption | exact caps_ok hcs)
theorem k_graph_Valid_1 : K_graph_Valid_1 Try.prog sF := by
  unfold K_graph_Valid_1
  rw [show sF "graph.Valid.1" = 86 by kernel_rfl]
  intro x
  refine FC.of' (rs := [.t 2]) (H := wMd h_graph_Valid_1 sMd) (lc := c_graph_Valid_1 sF) (n := 1) Try.func86 Try.mx ?a ?b ?c ?d ?e ?f
  case f =>
    have hw := w_graph_Valid_1 (P := Try.prog) (F := sF) k_graph_within x
    assumption
  case a => kernel_rfl
  case b => kernel_rfl
  case c => kernel_rfl
  case d => rfl
  case e => first | rfl | (simp only [List.all_cons, List.all_nil, Bool.and_true]; first | rfl | assumption | exact caps_ok hcs)
theorem k_graph_fits : K_graph_fits Try.prog sF := by
  unfold K_graph_fits
  rw [show sF "graph.fits" = 90 by kernel_rfl]
  intro x n hn
  refine FC.of' (rs := [.t 4]) (H := wMd h_graph_fits sMd) (lc := c_graph_fits sF) (n := 2) Try.func90 Try.mx ?a ?b ?c ?d ?e ?f
  case f =>
    have hw := w_graph_fits (P := Try.prog) (F := sF) k_graph_within x n hn
    assumption
  case a => kernel_rfl
  case b => kernel_rfl
  case c => kernel_rfl
  case d => rfl
  case e => first | rfl | (simp only [List.all_cons, List.all_nil, Bool.and_true]; first | rfl | assumption | exact caps_ok hcs)
theorem k_graph_Valid_2 : K_graph_Valid_2 Try.prog sF := by
  unfold K_graph_Valid_2
  rw [show sF "graph.Valid.2" = 89 by kernel_rfl]
  intro x ns es hn
  refine FC.of' (rs := [.t 3]) (H := wMd h_graph_Valid_2 sMd) (lc := c_graph_Valid_2 sF) (n := 2) Try.func89 Try.mx ?a ?b ?c ?d ?e ?f
  case f =>
    have hw := w_graph_Valid_2 (P := Try.prog) (F := sF) k_graph_fits x ns es hn
    assumption
  case a => kernel_rfl
  case b => kernel_rfl
  case c => kernel_rfl
  case d => rfl
  case e => first | rfl | (simp only [List.all_cons, List.all_nil, Bool.and_true]; first | rfl | assumption | exact caps_ok hcs)
theorem k_graph_Valid : K_graph_Valid Try.prog sF := by
  unfold K_graph_Valid
  rw [show sF "graph.Valid" = 53 by kernel_rfl]
  intro g
  refine FC.of' (rs := [.t 2]) (H := wMd h_graph_Valid sMd) (lc := c_graph_Valid sF) (n := 1) Try.func53 Try.mx ?a ?b ?c ?d ?e ?f
  case f =>
    have hw := w_graph_Valid (P := Try.prog) (F := sF) k_slices_ContainsFunc_I k_slices_ContainsFunc_E k_graph_Valid_1 k_graph_Valid_2 g
    assumption
  case a => kernel_rfl
  case b => kernel_rfl
  case c => kernel_rfl
  case d => rfl
  case e => first | rfl | (simp only [List.all_cons, List.all_nil, Bool.and_true]; first | rfl | assumption | exact caps_ok hcs)
theorem k_subgraph_Close_1 : K_subgraph_Close_1 Try.prog sF := by
  unfold K_subgraph_Close_1
  rw [show sF "subgraph.Close.1" = 54 by kernel_rfl]
  intro n
  refine FC.ofC (rs := [.t 2]) (H := wMd h_subgraph_Close_1 sMd) (lc := c_subgraph_Close_1 sF) (n := 1) Try.func54 Try.mx ?a ?b ?c ?d ?e ?f
  case f =>
    have hw := w_subgraph_Close_1 (P := Try.prog) (F := sF) n
    assumption
  case a => kernel_rfl
  case b => kernel_rfl
  case c => kernel_rfl
  case d => rfl
  case e => first | rfl | (simp only [List.all_cons, List.all_nil, Bool.and_true]; first | rfl | assumption | exact caps_ok hcs)
theorem k_subgraph_Close_1_1 : K_subgraph_Close_1_1 Try.prog sF := by
  unfold K_subgraph_Close_1_1
  rw [show sF "subgraph.Close.1.1" = 55 by kernel_rfl]
  intro x n
  refine FC.of' (rs := [.t 3]) (H := wMd h_subgraph_Close_1_1 sMd) (lc := c_subgraph_Close_1_1 sF) (n := 2) Try.func55 Try.mx ?a ?b ?c ?d ?e ?f
  case f =>
    have hw := w_subgraph_Close_1_1 (P := Try.prog) (F := sF) x n
    assumption
  case a => kernel_rfl
  case b => kernel_rfl
  case c => kernel_rfl
  case d => rfl
  case e => first | rfl | (simp only [List.all_cons, List.all_nil, Bool.and_true]; first | rfl | assumption | exact caps_ok hcs)
theorem k_slices_Clone_I : K_slices_Clone_I Try.prog sF := by
  unfold K_slices_Clone_I
  rw [show sF "slices.Clone.I" = 15 by kernel_rfl]
  intro l hl
  refine FC.of' (rs := [.t 2]) (H := wMd h_slices_Clone_I sMd) (lc := c_slices_Clone_I sF) (n := 1) Try.func15 Try.mx ?a ?b ?c ?d ?e ?f
  case f =>
    have hw := w_slices_Clone_I (P := Try.prog) (F := sF) l hl
    assumption
  case a => kernel_rfl
  case b => kernel_rfl
  case c => kernel_rfl
  case d => rfl
  case e => first | rfl | (simp only [List.all_cons, List.all_nil, Bool.and_true]; first | rfl | assumption | exact caps_ok hcs)
def SortL_ren : Go.Shelf.Ren := ⟨fun | 189 => 92 | 125 => 110 | 257 => 109 | 128 => 121 | 129 => 122 | 294 => 113 | 295 => 114 | 296 => 115 | 297 => 116 | 298 => 117 | 299 => 118 | 216 => 104 | 300 => 119 | 301 => 120 | 328 => 131 | 329 => 132 | 330 => 133 | 331 => 134 | 332 => 135 | 215 => 112 | 343 => 139 | n => n, fun | 28 => 22 | 3 => 3 | 46 => 111 | 0 => 0 | 51 => 125 | 53 => 28 | 4 => 4 | 183 => 119 | 182 => 118 | 131 => 90 | 5 => 5 | 9 => 9 | 218 => 132 | 222 => 136 | 228 => 140 | 229 => 141 | n => n, fun | n => n⟩
theorem SortL : Go.Proofs.Lays.n189 Try.prog SortL_ren := {
  mixed := by kernel_rfl,
  f125 := Try.func110.trans (congrArg some (by kernel_rfl)),
  f128 := Try.func121.trans (congrArg some (by kernel_rfl)),
  f129 := Try.func122.trans (congrArg some (by kernel_rfl)),
  f189 := Try.func92.trans (congrArg some (by kernel_rfl)),
  f215 := Try.func112.trans (congrArg some (by kernel_rfl)),
  f216 := Try.func104.trans (congrArg some (by kernel_rfl)),
  f257 := Try.func109.trans (congrArg some (by kernel_rfl)),
  f294 := Try.func113.trans (congrArg some (by kernel_rfl)),
  f295 := Try.func114.trans (congrArg some (by kernel_rfl)),
  f296 := Try.func115.trans (congrArg some (by kernel_rfl)),
  f297 := Try.func116.trans (congrArg some (by kernel_rfl)),
  f298 := Try.func117.trans (congrArg some (by kernel_rfl)),
  f299 := Try.func118.trans (congrArg some (by kernel_rfl)),
  f300 := Try.func119.trans (congrArg some (by kernel_rfl)),
  f301 := Try.func120.trans (congrArg some (by kernel_rfl)),
  f328 := Try.func131.trans (congrArg some (by kernel_rfl)),
  f329 := Try.func132.trans (congrArg some (by kernel_rfl)),
  f330 := Try.func133.trans (congrArg some (by kernel_rfl)),
  f331 := Try.func134.trans (congrArg some (by kernel_rfl)),
  f332 := Try.func135.trans (congrArg some (by kernel_rfl)),
  f343 := Try.func139.trans (congrArg some (by kernel_rfl)),
  t0 := Try.underlying0,
  a0 := Try.isAgg0,
  z0 := Try.sizeOf0,
  v0 := Try.zeroValue0,
  t3 := Try.underlying3,
  a3 := Try.isAgg3,
  z3 := Try.sizeOf3,
  v3 := Try.zeroValue3,
  t4 := Try.underlying4,
  a4 := Try.isAgg4,
  z4 := Try.sizeOf4,
  v4 := Try.zeroValue4,
  t5 := Try.underlying5,
  a5 := Try.isAgg5,
  z5 := Try.sizeOf5,
  v5 := Try.zeroValue5,
  t9 := Try.underlying9,
  a9 := Try.isAgg9,
  z9 := Try.sizeOf9,
  v9 := Try.zeroValue9,
  t28 := Try.underlying22,
  a28 := Try.isAgg22,
  z28 := Try.sizeOf22,
  v28 := Try.zeroValue22,
  t46 := Try.underlying111,
  a46 := Try.isAgg111,
  z46 := Try.sizeOf111,
  v46 := Try.zeroValue111,
  t51 := Try.underlying125,
  a51 := Try.isAgg125,
  z51 := Try.sizeOf125,
  v51 := Try.zeroValue125,
  t53 := Try.underlying28,
  a53 := Try.isAgg28,
  z53 := Try.sizeOf28,
  v53 := Try.zeroValue28,
  t131 := Try.underlying90,
  a131 := Try.isAgg90,
  z131 := Try.sizeOf90,
  v131 := Try.zeroValue90,
  t182 := Try.underlying118,
  a182 := Try.isAgg118,
  z182 := Try.sizeOf118,
  v182 := Try.zeroValue118,
  t183 := Try.underlying119,
  a183 := Try.isAgg119,
  z183 := Try.sizeOf119,
  v183 := Try.zeroValue119,
  t218 := Try.underlying132,
  a218 := Try.isAgg132,
  z218 := Try.sizeOf132,
  v218 := Try.zeroValue132,
  t222 := Try.underlying136,
  a222 := Try.isAgg136,
  z222 := Try.sizeOf136,
  v222 := Try.zeroValue136,
  t228 := Try.underlying140,
  a228 := Try.isAgg140,
  z228 := Try.sizeOf140,
  v228 := Try.zeroValue140,
  t229 := Try.underlying141,
  a229 := Try.isAgg141,
  z229 := Try.sizeOf141,
  v229 := Try.zeroValue141 }
theorem k_slices_Sort_I : K_slices_Sort_I Try.prog sF := by
  unfold K_slices_Sort_I
  rw [show sF "slices.Sort.I" = 92 by kernel_rfl]
  intro l hl
  have hb : (Try.f92.body.isSome) = true := by kernel_rfl
  obtain ⟨body, hb⟩ := Option.isSome_iff_exists.1 hb
  exact sort_FC (callFunc_enter Try.func92 (by kernel_rfl) hb) (fun blk off cap zs w h1 h2 h3 => Go.Proofs.Any.slices_Sort_int SortL blk off cap zs w h1 h2 h3) (fun p cap w => Go.Proofs.Any.slices_Sort_int_none SortL p cap w) l hl
theorem k_slices_Compact_I : K_slices_Compact_I Try.prog sF := by
  unfold K_slices_Compact_I
  rw [show sF "slices.Compact.I" = 93 by kernel_rfl]
  intro l hl
  refine FC.of' (rs := [.t 2]) (H := wMd h_slices_Compact_I sMd) (lc := c_slices_Compact_I sF) (n := 1) Try.func93 Try.mx ?a ?b ?c ?d ?e ?f
  case f =>
    have hw := w_slices_Compact_I (P := Try.prog) (F := sF) l hl
    assumption
  case a => kernel_rfl
  case b => kernel_rfl
  case c => kernel_rfl
  case d => rfl
  case e => first | rfl | (simp only [List.all_cons, List.all_nil, Bool.and_true]; first | rfl | assumption | exact caps_ok hcs)
theorem k_subgraph_sorted : K_subgraph_sorted Try.prog sF := by
  unfold K_subgraph_sorted
  rw [show sF "subgraph.sorted" = 57 by kernel_rfl]
  intro l hl
  refine FC.of' (rs := [.t 2]) (H := wMd h_subgraph_sorted sMd) (lc := c_subgraph_sorted sF) (n := 1) Try.func57 Try.mx ?a ?b ?c ?d ?e ?f
  case f =>
    have hw := w_subgraph_sorted (P := Try.prog) (F := sF) k_slices_Sort_I k_slices_Compact_I l hl
    assumption
  case a => kernel_rfl
  case b => kernel_rfl
  case c => kernel_rfl
  case d => rfl
  case e => first | rfl | (simp only [List.all_cons, List.all_nil, Bool.and_true]; first | rfl | assumption | exact caps_ok hcs)
theorem k_subgraph_Close : K_subgraph_Close Try.prog sF := by
  unfold K_subgraph_Close
  rw [show sF "subgraph.Close" = 13 by kernel_rfl]
  intro g ns es l1 l2
  refine FC.of' (rs := [.c 6 true 2, .t 7]) (H := wMd h_subgraph_Close sMd) (lc := c_subgraph_Close sF) (n := 3) Try.func13 Try.mx ?a ?b ?c ?d ?e ?f
  case f =>
    have hw := w_subgraph_Close (P := Try.prog) (F := sF) k_graph_Valid k_slices_ContainsFunc_I k_subgraph_Close_1 k_subgraph_Close_1_1 k_slices_Clone_I k_subgraph_sorted g ns es l1 l2
    assumption
  case a => kernel_rfl
  case b => kernel_rfl
  case c => kernel_rfl
  case d => rfl
  case e => first | rfl | (simp only [List.all_cons, List.all_nil, Bool.and_true]; first | rfl | assumption | exact caps_ok hcs)
theorem k_subgraph_list : K_subgraph_list Try.prog sF := by
  unfold K_subgraph_list
  rw [show sF "subgraph.list" = 102 by kernel_rfl]
  intro l n hl h0 h1
  refine FC.of' (rs := [.t 4]) (H := wMd h_subgraph_list sMd) (lc := c_subgraph_list sF) (n := 2) Try.func102 Try.mx ?a ?b ?c ?d ?e ?f
  case f =>
    have hw := w_subgraph_list (P := Try.prog) (F := sF) l n hl h0 h1
    assumption
  case a => kernel_rfl
  case b => kernel_rfl
  case c => kernel_rfl
  case d => rfl
  case e => first | rfl | (simp only [List.all_cons, List.all_nil, Bool.and_true]; first | rfl | assumption | exact caps_ok hcs)
theorem k_cmp_isNaN_I : K_cmp_isNaN_I Try.prog sF := by
  unfold K_cmp_isNaN_I
  rw [show sF "cmp.isNaN.I" = 112 by kernel_rfl]
  intro x
  refine FC.of' (rs := [.t 2]) (H := wMd h_cmp_isNaN_I sMd) (lc := c_cmp_isNaN_I sF) (n := 1) Try.func112 Try.mx ?a ?b ?c ?d ?e ?f
  case f =>
    have hw := w_cmp_isNaN_I (P := Try.prog) (F := sF) x
    assumption
  case a => kernel_rfl
  case b => kernel_rfl
  case c => kernel_rfl
  case d => rfl
  case e => first | rfl | (simp only [List.all_cons, List.all_nil, Bool.and_true]; first | rfl | assumption | exact caps_ok hcs)
theorem k_cmp_Less_I : K_cmp_Less_I Try.prog sF := by
  unfold K_cmp_Less_I
  rw [show sF "cmp.Less.I" = 104 by kernel_rfl]
  intro x y
  refine FC.of' (rs := [.t 4]) (H := wMd h_cmp_Less_I sMd) (lc := c_cmp_Less_I sF) (n := 2) Try.func104 Try.mx ?a ?b ?c ?d ?e ?f
  case f =>
    have hw := w_cmp_Less_I (P := Try.prog) (F := sF) k_cmp_isNaN_I x y
    assumption
  case a => kernel_rfl
  case b => kernel_rfl
  case c => kernel_rfl
  case d => rfl
  case e => first | rfl | (simp only [List.all_cons, List.all_nil, Bool.and_true]; first | rfl | assumption | exact caps_ok hcs)
theorem k_slices_isNaN_I : K_slices_isNaN_I Try.prog sF := by
  unfold K_slices_isNaN_I
  rw [show sF "slices.isNaN.I" = 105 by kernel_rfl]
  intro x
  refine FC.of' (rs := [.t 2]) (H := wMd h_slices_isNaN_I sMd) (lc := c_slices_isNaN_I sF) (n := 1) Try.func105 Try.mx ?a ?b ?c ?d ?e ?f
  case f =>
    have hw := w_slices_isNaN_I (P := Try.prog) (F := sF) x
    assumption
  case a => kernel_rfl
  case b => kernel_rfl
  case c => kernel_rfl
  case d => rfl
  case e => first | rfl | (simp only [List.all_cons, List.all_nil, Bool.and_true]; first | rfl | assumption | exact caps_ok hcs)
theorem k_slices_BinarySearch_I : K_slices_BinarySearch_I Try.prog sF := by
  unfold K_slices_BinarySearch_I
  rw [show sF "slices.BinarySearch.I" = 72 by kernel_rfl]
  intro l x hp hl
  refine FC.of' (rs := [.t 4, .t 5]) (H := wMd h_slices_BinarySearch_I sMd) (lc := c_slices_BinarySearch_I sF) (n := 2) Try.func72 Try.mx ?a ?b ?c ?d ?e ?f
  case f =>
    have hw := w_slices_BinarySearch_I (P := Try.prog) (F := sF) k_cmp_Less_I k_slices_isNaN_I l x hp hl
    assumption
  case a => kernel_rfl
  case b => kernel_rfl
  case c => kernel_rfl
  case d => rfl
  case e => first | rfl | (simp only [List.all_cons, List.all_nil, Bool.and_true]; first | rfl | assumption | exact caps_ok hcs)
theorem k_subgraph_has : K_subgraph_has Try.prog sF := by
  unfold K_subgraph_has
  rw [show sF "subgraph.has" = 63 by kernel_rfl]
  intro l x hp hl
  refine FC.of' (rs := [.t 4]) (H := wMd h_subgraph_has sMd) (lc := c_subgraph_has sF) (n := 2) Try.func63 Try.mx ?a ?b ?c ?d ?e ?f
  case f =>
    have hw := w_subgraph_has (P := Try.prog) (F := sF) k_slices_BinarySearch_I l x hp hl
    assumption
  case a => kernel_rfl
  case b => kernel_rfl
  case c => kernel_rfl
  case d => rfl
  case e => first | rfl | (simp only [List.all_cons, List.all_nil, Bool.and_true]; first | rfl | assumption | exact caps_ok hcs)
theorem k_subgraph_part : K_subgraph_part Try.prog sF := by
  unfold K_subgraph_part
  rw [show sF "subgraph.part" = 68 by kernel_rfl]
  intro g p hv h1 h2
  refine FC.of' (rs := [.t 4]) (H := wMd h_subgraph_part sMd) (lc := c_subgraph_part sF) (n := 2) Try.func68 Try.mx ?a ?b ?c ?d ?e ?f
  case f =>
    have hw := w_subgraph_part (P := Try.prog) (F := sF) k_subgraph_list k_subgraph_has g p hv h1 h2
    assumption
  case a => kernel_rfl
  case b => kernel_rfl
  case c => kernel_rfl
  case d => rfl
  case e => first | rfl | (simp only [List.all_cons, List.all_nil, Bool.and_true]; first | rfl | assumption | exact caps_ok hcs)
theorem k_subgraph_Valid : K_subgraph_Valid Try.prog sF := by
  unfold K_subgraph_Valid
  rw [show sF "subgraph.Valid" = 27 by kernel_rfl]
  intro g p h1 h2
  refine FC.of' (rs := [.t 4]) (H := wMd h_subgraph_Valid sMd) (lc := c_subgraph_Valid sF) (n := 2) Try.func27 Try.mx ?a ?b ?c ?d ?e ?f
  case f =>
    have hw := w_subgraph_Valid (P := Try.prog) (F := sF) k_graph_Valid k_subgraph_part g p h1 h2
    assumption
  case a => kernel_rfl
  case b => kernel_rfl
  case c => kernel_rfl
  case d => rfl
  case e => first | rfl | (simp only [List.all_cons, List.all_nil, Bool.and_true]; first | rfl | assumption | exact caps_ok hcs)
theorem k_slices_DeleteFunc_I : K_slices_DeleteFunc_I Try.prog sF := by
  unfold K_slices_DeleteFunc_I
  rw [show sF "slices.DeleteFunc.I" = 94 by kernel_rfl]
  intro l hl g cs hcs p hg
  refine FC.of' (rs := [.t 4]) (H := wMd h_slices_DeleteFunc_I sMd) (lc := c_slices_DeleteFunc_I sF) (n := 2) Try.func94 Try.mx ?a ?b ?c ?d ?e ?f
  case f =>
    have hw := w_slices_DeleteFunc_I (P := Try.prog) (F := sF) k_slices_IndexFunc_I l hl g cs hcs p hg
    assumption
  case a => kernel_rfl
  case b => kernel_rfl
  case c => kernel_rfl
  case d => rfl
  case e => first | rfl | (simp only [List.all_cons, List.all_nil, Bool.and_true]; first | rfl | assumption | exact caps_ok hcs)
theorem k_subgraph_common_1 : K_subgraph_common_1 Try.prog sF := by
  unfold K_subgraph_common_1
  rw [show sF "subgraph.common.1" = 95 by kernel_rfl]
  intro x b hp hl
  refine FC.of' (rs := [.t 3]) (H := wMd h_subgraph_common_1 sMd) (lc := c_subgraph_common_1 sF) (n := 2) Try.func95 Try.mx ?a ?b ?c ?d ?e ?f
  case f =>
    have hw := w_subgraph_common_1 (P := Try.prog) (F := sF) k_subgraph_has x b hp hl
    assumption
  case a => kernel_rfl
  case b => kernel_rfl
  case c => kernel_rfl
  case d => rfl
  case e => first | rfl | (simp only [List.all_cons, List.all_nil, Bool.and_true]; first | rfl | assumption | exact caps_ok hcs)
theorem k_subgraph_common : K_subgraph_common Try.prog sF := by
  unfold K_subgraph_common
  rw [show sF "subgraph.common" = 64 by kernel_rfl]
  intro a b la hp hb
  refine FC.of' (rs := [.t 4]) (H := wMd h_subgraph_common sMd) (lc := c_subgraph_common sF) (n := 2) Try.func64 Try.mx ?a ?b ?c ?d ?e ?f
  case f =>
    have hw := w_subgraph_common (P := Try.prog) (F := sF) k_slices_DeleteFunc_I k_slices_Clone_I k_subgraph_common_1 a b la hp hb
    assumption
  case a => kernel_rfl
  case b => kernel_rfl
  case c => kernel_rfl
  case d => rfl
  case e => first | rfl | (simp only [List.all_cons, List.all_nil, Bool.and_true]; first | rfl | assumption | exact caps_ok hcs)
theorem k_subgraph_Boundary : K_subgraph_Boundary Try.prog sF := by
  unfold K_subgraph_Boundary
  rw [show sF "subgraph.Boundary" = 21 by kernel_rfl]
  intro g p h1
  refine FC.of' (rs := [.t 4, .t 5]) (H := wMd h_subgraph_Boundary sMd) (lc := c_subgraph_Boundary sF) (n := 2) Try.func21 Try.mx ?a ?b ?c ?d ?e ?f
  case f =>
    have hw := w_subgraph_Boundary (P := Try.prog) (F := sF) k_subgraph_Valid k_subgraph_has k_subgraph_sorted k_subgraph_common g p h1
    assumption
  case a => kernel_rfl
  case b => kernel_rfl
  case c => kernel_rfl
  case d => rfl
  case e => first | rfl | (simp only [List.all_cons, List.all_nil, Bool.and_true]; first | rfl | assumption | exact caps_ok hcs)
def SortFL_ren : Go.Shelf.Ren := ⟨fun | 6 => 97 | 15 => 110 | 14 => 111 | 28 => 121 | 29 => 122 | 20 => 123 | 21 => 124 | 22 => 125 | 23 => 126 | 24 => 127 | 25 => 128 | 26 => 129 | 27 => 130 | 46 => 136 | 47 => 132 | 48 => 133 | 49 => 137 | 50 => 138 | 57 => 140 | n => n, fun | 22 => 87 | 24 => 22 | 25 => 89 | 3 => 3 | 39 => 111 | 0 => 0 | 53 => 125 | 55 => 28 | 4 => 4 | 46 => 119 | 45 => 118 | 50 => 90 | 5 => 5 | 9 => 9 | 66 => 132 | 70 => 136 | 76 => 140 | 77 => 141 | n => n, fun | n => n⟩
theorem SortFL : Go.Proofs.SlLaysF.n6 Try.prog SortFL_ren := {
  mixed := by kernel_rfl,
  f6 := ⟨ "slices.SortFunc[[][]int,[]int]", by decide, Try.func97.trans (congrArg some (by kernel_rfl))⟩,
  f14 := ⟨ "slices.pdqsortCmpFunc[[]int]", by decide, Try.func111.trans (congrArg some (by kernel_rfl))⟩,
  f15 := Try.func110.trans (congrArg some (by kernel_rfl)),
  f20 := ⟨ "slices.insertionSortCmpFunc[[]int]", by decide, Try.func123.trans (congrArg some (by kernel_rfl))⟩,
  f21 := ⟨ "slices.heapSortCmpFunc[[]int]", by decide, Try.func124.trans (congrArg some (by kernel_rfl))⟩,
  f22 := ⟨ "slices.breakPatternsCmpFunc[[]int]", by decide, Try.func125.trans (congrArg some (by kernel_rfl))⟩,
  f23 := ⟨ "slices.choosePivotCmpFunc[[]int]", by decide, Try.func126.trans (congrArg some (by kernel_rfl))⟩,
  f24 := ⟨ "slices.reverseRangeCmpFunc[[]int]", by decide, Try.func127.trans (congrArg some (by kernel_rfl))⟩,
  f25 := ⟨ "slices.partialInsertionSortCmpFunc[[]int]", by decide, Try.func128.trans (congrArg some (by kernel_rfl))⟩,
  f26 := ⟨ "slices.partitionEqualCmpFunc[[]int]", by decide, Try.func129.trans (congrArg some (by kernel_rfl))⟩,
  f27 := ⟨ "slices.partitionCmpFunc[[]int]", by decide, Try.func130.trans (congrArg some (by kernel_rfl))⟩,
  f28 := Try.func121.trans (congrArg some (by kernel_rfl)),
  f29 := Try.func122.trans (congrArg some (by kernel_rfl)),
  f46 := ⟨ "slices.siftDownCmpFunc[[]int]", by decide, Try.func136.trans (congrArg some (by kernel_rfl))⟩,
  f47 := Try.func132.trans (congrArg some (by kernel_rfl)),
  f48 := Try.func133.trans (congrArg some (by kernel_rfl)),
  f49 := ⟨ "slices.medianAdjacentCmpFunc[[]int]", by decide, Try.func137.trans (congrArg some (by kernel_rfl))⟩,
  f50 := ⟨ "slices.medianCmpFunc[[]int]", by decide, Try.func138.trans (congrArg some (by kernel_rfl))⟩,
  f57 := ⟨ "slices.order2CmpFunc[[]int]", by decide, Try.func140.trans (congrArg some (by kernel_rfl))⟩,
  t0 := Try.underlying0,
  a0 := Try.isAgg0,
  z0 := Try.sizeOf0,
  v0 := Try.zeroValue0,
  t3 := Try.underlying3,
  a3 := Try.isAgg3,
  z3 := Try.sizeOf3,
  v3 := Try.zeroValue3,
  t4 := Try.underlying4,
  a4 := Try.isAgg4,
  z4 := Try.sizeOf4,
  v4 := Try.zeroValue4,
  t5 := Try.underlying5,
  a5 := Try.isAgg5,
  z5 := Try.sizeOf5,
  v5 := Try.zeroValue5,
  t9 := Try.underlying9,
  a9 := Try.isAgg9,
  z9 := Try.sizeOf9,
  v9 := Try.zeroValue9,
  t22 := Try.underlying87,
  a22 := Try.isAgg87,
  z22 := Try.sizeOf87,
  v22 := Try.zeroValue87,
  a24 := Try.isAgg22,
  z24 := Try.sizeOf22,
  t25 := Try.underlying89,
  a25 := Try.isAgg89,
  z25 := Try.sizeOf89,
  v25 := Try.zeroValue89,
  t39 := Try.underlying111,
  a39 := Try.isAgg111,
  z39 := Try.sizeOf111,
  v39 := Try.zeroValue111,
  t45 := Try.underlying118,
  a45 := Try.isAgg118,
  z45 := Try.sizeOf118,
  v45 := Try.zeroValue118,
  t46 := Try.underlying119,
  a46 := Try.isAgg119,
  z46 := Try.sizeOf119,
  v46 := Try.zeroValue119,
  t50 := Try.underlying90,
  a50 := Try.isAgg90,
  z50 := Try.sizeOf90,
  v50 := Try.zeroValue90,
  t53 := Try.underlying125,
  a53 := Try.isAgg125,
  z53 := Try.sizeOf125,
  v53 := Try.zeroValue125,
  t55 := Try.underlying28,
  a55 := Try.isAgg28,
  z55 := Try.sizeOf28,
  v55 := Try.zeroValue28,
  t66 := Try.underlying132,
  a66 := Try.isAgg132,
  z66 := Try.sizeOf132,
  v66 := Try.zeroValue132,
  t70 := Try.underlying136,
  a70 := Try.isAgg136,
  z70 := Try.sizeOf136,
  v70 := Try.zeroValue136,
  t76 := Try.underlying140,
  a76 := Try.isAgg140,
  z76 := Try.sizeOf140,
  v76 := Try.zeroValue140,
  t77 := Try.underlying141,
  a77 := Try.isAgg141,
  z77 := Try.sizeOf141,
  v77 := Try.zeroValue141 }
theorem k_slices_SortFunc_int3 : K_slices_SortFunc_int3 Try.prog sF := by
  unfold K_slices_SortFunc_int3
  rw [show sF "slices.SortFunc.int3" = 97 by kernel_rfl]
  intro l S g c h0 hl hc hnd hS hSl hg
  have hb : (Try.f97.body.isSome) = true := by kernel_rfl
  obtain ⟨body, hb⟩ := Option.isSome_iff_exists.1 hb
  exact sortF_FC (callFunc_enter Try.func97 (by kernel_rfl) hb) (fun α _ enc h1 cf hO g cb blk off cap d w eg hcmp hH hblk hsz => Go.Proofs.Any.slices_SortFunc SortFL enc h1 cf hO g cb blk off cap d w eg hcmp hH hblk hsz) l S g c h0 hl hc hnd hS hSl hg
theorem k_cmp_Compare_I : K_cmp_Compare_I Try.prog sF := by
  unfold K_cmp_Compare_I
  rw [show sF "cmp.Compare.I" = 100 by kernel_rfl]
  intro x y
  refine FC.of' (rs := [.t 4]) (H := wMd h_cmp_Compare_I sMd) (lc := c_cmp_Compare_I sF) (n := 2) Try.func100 Try.mx ?a ?b ?c ?d ?e ?f
  case f =>
    have hw := w_cmp_Compare_I (P := Try.prog) (F := sF) k_cmp_isNaN_I x y
    assumption
  case a => kernel_rfl
  case b => kernel_rfl
  case c => kernel_rfl
  case d => rfl
  case e => first | rfl | (simp only [List.all_cons, List.all_nil, Bool.and_true]; first | rfl | assumption | exact caps_ok hcs)
theorem k_slices_Compare_I : K_slices_Compare_I Try.prog sF := by
  unfold K_slices_Compare_I
  rw [show sF "slices.Compare.I" = 101 by kernel_rfl]
  intro a b h1 h2
  refine FC.of' (rs := [.t 4]) (H := wMd h_slices_Compare_I sMd) (lc := c_slices_Compare_I sF) (n := 2) Try.func101 Try.mx ?a ?b ?c ?d ?e ?f
  case f =>
    have hw := w_slices_Compare_I (P := Try.prog) (F := sF) k_cmp_Compare_I a b h1 h2
    assumption
  case a => kernel_rfl
  case b => kernel_rfl
  case c => kernel_rfl
  case d => rfl
  case e => first | rfl | (simp only [List.all_cons, List.all_nil, Bool.and_true]; first | rfl | assumption | exact caps_ok hcs)
theorem k_cmp_Or_I : K_cmp_Or_I Try.prog sF := by
  unfold K_cmp_Or_I
  rw [show sF "cmp.Or.I" = 99 by kernel_rfl]
  intro l hl
  refine FC.of' (rs := [.t 2]) (H := wMd h_cmp_Or_I sMd) (lc := c_cmp_Or_I sF) (n := 1) Try.func99 Try.mx ?a ?b ?c ?d ?e ?f
  case f =>
    have hw := w_cmp_Or_I (P := Try.prog) (F := sF) l hl
    assumption
  case a => kernel_rfl
  case b => kernel_rfl
  case c => kernel_rfl
  case d => rfl
  case e => first | rfl | (simp only [List.all_cons, List.all_nil, Bool.and_true]; first | rfl | assumption | exact caps_ok hcs)
theorem k_subgraph_subsets_1 : K_subgraph_subsets_1 Try.prog sF := by
  unfold K_subgraph_subsets_1
  rw [show sF "subgraph.subsets.1" = 98 by kernel_rfl]
  intro a b h1 h2
  refine FC.of' (rs := [.t 4]) (H := wMd h_subgraph_subsets_1 sMd) (lc := c_subgraph_subsets_1 sF) (n := 2) Try.func98 Try.mx ?a ?b ?c ?d ?e ?f
  case f =>
    have hw := w_subgraph_subsets_1 (P := Try.prog) (F := sF) k_cmp_Compare_I k_slices_Compare_I k_cmp_Or_I a b h1 h2
    assumption
  case a => kernel_rfl
  case b => kernel_rfl
  case c => kernel_rfl
  case d => rfl
  case e => first | rfl | (simp only [List.all_cons, List.all_nil, Bool.and_true]; first | rfl | assumption | exact caps_ok hcs)
theorem k_subgraph_subsets : K_subgraph_subsets Try.prog sF := by
  unfold K_subgraph_subsets
  rw [show sF "subgraph.subsets" = 67 by kernel_rfl]
  intro n hn
  refine FC.of' (rs := [.t 2]) (H := wMd h_subgraph_subsets sMd) (lc := c_subgraph_subsets sF) (n := 1) Try.func67 Try.mx ?a ?b ?c ?d ?e ?f
  case f =>
    have hw := w_subgraph_subsets (P := Try.prog) (F := sF) k_slices_SortFunc_int3 k_subgraph_subsets_1 n hn
    assumption
  case a => kernel_rfl
  case b => kernel_rfl
  case c => kernel_rfl
  case d => rfl
  case e => first | rfl | (simp only [List.all_cons, List.all_nil, Bool.and_true]; first | rfl | assumption | exact caps_ok hcs)
theorem k_subgraph_All : K_subgraph_All Try.prog sF := by
  unfold K_subgraph_All
  rw [show sF "subgraph.All" = 24 by kernel_rfl]
  intro g
  refine FC.of' (rs := [.t 2, .t 3]) (H := wMd h_subgraph_All sMd) (lc := c_subgraph_All sF) (n := 1) Try.func24 Try.mx ?a ?b ?c ?d ?e ?f
  case f =>
    have hw := w_subgraph_All (P := Try.prog) (F := sF) k_graph_Valid k_subgraph_subsets k_slices_Clone_I k_subgraph_part g
    assumption
  case a => kernel_rfl
  case b => kernel_rfl
  case c => kernel_rfl
  case d => rfl
  case e => first | rfl | (simp only [List.all_cons, List.all_nil, Bool.and_true]; first | rfl | assumption | exact caps_ok hcs)
theorem k_r05_SameInts : K_r05_SameInts Try.prog sF := by
  unfold K_r05_SameInts
  rw [show sF "r05.SameInts" = 59 by kernel_rfl]
  intro a b hl
  refine FC.of' (rs := [.t 4]) (H := wMd h_r05_SameInts sMd) (lc := c_r05_SameInts sF) (n := 2) Try.func59 Try.mx ?a ?b ?c ?d ?e ?f
  case f =>
    have hw := w_r05_SameInts (P := Try.prog) (F := sF) a b hl
    assumption
  case a => kernel_rfl
  case b => kernel_rfl
  case c => kernel_rfl
  case d => rfl
  case e => first | rfl | (simp only [List.all_cons, List.all_nil, Bool.and_true]; first | rfl | assumption | exact caps_ok hcs)
theorem k_r07_Same : K_r07_Same Try.prog sF := by
  unfold K_r07_Same
  rw [show sF "r07.Same" = 17 by kernel_rfl]
  intro a b h1 h2
  refine FC.of' (rs := [.t 4]) (H := wMd h_r07_Same sMd) (lc := c_r07_Same sF) (n := 2) Try.func17 Try.mx ?a ?b ?c ?d ?e ?f
  case f =>
    have hw := w_r07_Same (P := Try.prog) (F := sF) k_r05_SameInts a b h1 h2
    assumption
  case a => kernel_rfl
  case b => kernel_rfl
  case c => kernel_rfl
  case d => rfl
  case e => first | rfl | (simp only [List.all_cons, List.all_nil, Bool.and_true]; first | rfl | assumption | exact caps_ok hcs)
theorem k_slices_Equal_I : K_slices_Equal_I Try.prog sF := by
  unfold K_slices_Equal_I
  rw [show sF "slices.Equal.I" = 36 by kernel_rfl]
  intro a b hl
  refine FC.of' (rs := [.t 4]) (H := wMd h_slices_Equal_I sMd) (lc := c_slices_Equal_I sF) (n := 2) Try.func36 Try.mx ?a ?b ?c ?d ?e ?f
  case f =>
    have hw := w_slices_Equal_I (P := Try.prog) (F := sF) a b hl
    assumption
  case a => kernel_rfl
  case b => kernel_rfl
  case c => kernel_rfl
  case d => rfl
  case e => first | rfl | (simp only [List.all_cons, List.all_nil, Bool.and_true]; first | rfl | assumption | exact caps_ok hcs)
theorem k_l07_awake : K_l07_awake Try.prog sF := by
  unfold K_l07_awake
  rw [show sF "l07.awake" = 11 by kernel_rfl]
  refine FC.of' (rs := [.t 0]) (H := wMd h_l07_awake sMd) (lc := c_l07_awake sF) (n := 0) Try.func11 Try.mx ?a ?b ?c ?d ?e ?f
  case f =>
    have hw := w_l07_awake (P := Try.prog) (F := sF) k_l07_line k_subgraph_Close k_subgraph_Boundary k_subgraph_All k_r07_Same k_slices_Equal_I
    assumption
  case a => kernel_rfl
  case b => kernel_rfl
  case c => kernel_rfl
  case d => rfl
  case e => first | rfl | (simp only [List.all_cons, List.all_nil, Bool.and_true]; first | rfl | assumption | exact caps_ok hcs)
theorem k_r05_Few : K_r05_Few Try.prog sF := by
  unfold K_r05_Few
  rw [show sF "r05.Few" = 50 by kernel_rfl]
  intro g
  refine FC.of' (rs := [.t 2]) (H := wMd h_r05_Few sMd) (lc := c_r05_Few sF) (n := 1) Try.func50 Try.mx ?a ?b ?c ?d ?e ?f
  case f =>
    have hw := w_r05_Few (P := Try.prog) (F := sF) g
    assumption
  case a => kernel_rfl
  case b => kernel_rfl
  case c => kernel_rfl
  case d => rfl
  case e => first | rfl | (simp only [List.all_cons, List.all_nil, Bool.and_true]; first | rfl | assumption | exact caps_ok hcs)
theorem k_slices_IndexFunc_apiPart : K_slices_IndexFunc_apiPart Try.prog sF := by
  unfold K_slices_IndexFunc_apiPart
  rw [show sF "slices.IndexFunc.apiPart" = 85 by kernel_rfl]
  intro l hl g cs hcs p hg
  refine FC.of' (rs := [.t 4]) (H := wMd h_slices_IndexFunc_apiPart sMd) (lc := c_slices_IndexFunc_apiPart sF) (n := 2) Try.func85 Try.mx ?a ?b ?c ?d ?e ?f
  case f =>
    have hw := w_slices_IndexFunc_apiPart (P := Try.prog) (F := sF) l hl g cs hcs p hg
    assumption
  case a => kernel_rfl
  case b => kernel_rfl
  case c => kernel_rfl
  case d => rfl
  case e => first | rfl | (simp only [List.all_cons, List.all_nil, Bool.and_true]; first | rfl | assumption | exact caps_ok hcs)
theorem k_slices_ContainsFunc_apiPart : K_slices_ContainsFunc_apiPart Try.prog sF := by
  unfold K_slices_ContainsFunc_apiPart
  rw [show sF "slices.ContainsFunc.apiPart" = 51 by kernel_rfl]
  intro l hl g cs hcs p hg
  refine FC.of' (rs := [.t 4]) (H := wMd h_slices_ContainsFunc_apiPart sMd) (lc := c_slices_ContainsFunc_apiPart sF) (n := 2) Try.func51 Try.mx ?a ?b ?c ?d ?e ?f
  case f =>
    have hw := w_slices_ContainsFunc_apiPart (P := Try.prog) (F := sF) k_slices_IndexFunc_apiPart l hl g cs hcs p hg
    assumption
  case a => kernel_rfl
  case b => kernel_rfl
  case c => kernel_rfl
  case d => rfl
  case e => first | rfl | (simp only [List.all_cons, List.all_nil, Bool.and_true]; first | rfl | assumption | exact caps_ok hcs)
theorem k_r07_Few : K_r07_Few Try.prog sF := by
  unfold K_r07_Few
  rw [show sF "r07.Few" = 43 by kernel_rfl]
  intro m n h1 h2
  refine FC.of' (rs := [.t 4]) (H := wMd h_r07_Few sMd) (lc := c_r07_Few sF) (n := 2) Try.func43 Try.mx ?a ?b ?c ?d ?e ?f
  case f =>
    have hw := w_r07_Few (P := Try.prog) (F := sF) m n h1 h2
    assumption
  case a => kernel_rfl
  case b => kernel_rfl
  case c => kernel_rfl
  case d => rfl
  case e => first | rfl | (simp only [List.all_cons, List.all_nil, Bool.and_true]; first | rfl | assumption | exact caps_ok hcs)
theorem k_l07_small_1 : K_l07_small_1 Try.prog sF := by
  unfold K_l07_small_1
  rw [show sF "l07.small.1" = 52 by kernel_rfl]
  intro m h
  refine FC.of' (rs := [.t 2]) (H := wMd h_l07_small_1 sMd) (lc := c_l07_small_1 sF) (n := 1) Try.func52 Try.mx ?a ?b ?c ?d ?e ?f
  case f =>
    have hw := w_l07_small_1 (P := Try.prog) (F := sF) k_r07_Few m h
    assumption
  case a => kernel_rfl
  case b => kernel_rfl
  case c => kernel_rfl
  case d => rfl
  case e => first | rfl | (simp only [List.all_cons, List.all_nil, Bool.and_true]; first | rfl | assumption | exact caps_ok hcs)
theorem k_l07_small : K_l07_small Try.prog sF := by
  unfold K_l07_small
  rw [show sF "l07.small" = 12 by kernel_rfl]
  intro g l hl hm
  refine FC.of' (rs := [.t 4]) (H := wMd h_l07_small sMd) (lc := c_l07_small sF) (n := 2) Try.func12 Try.mx ?a ?b ?c ?d ?e ?f
  case f =>
    have hw := w_l07_small (P := Try.prog) (F := sF) k_r05_Few k_slices_ContainsFunc_apiPart k_l07_small_1 g l hl hm
    assumption
  case a => kernel_rfl
  case b => kernel_rfl
  case c => kernel_rfl
  case d => rfl
  case e => first | rfl | (simp only [List.all_cons, List.all_nil, Bool.and_true]; first | rfl | assumption | exact caps_ok hcs)
theorem k_r05_Copied : K_r05_Copied Try.prog sF := by
  unfold K_r05_Copied
  rw [show sF "r05.Copied" = 14 by kernel_rfl]
  intro g h0 h1
  refine FC.of' (rs := [.c 2 true 2]) (H := wMd h_r05_Copied sMd) (lc := c_r05_Copied sF) (n := 1) Try.func14 Try.mx ?a ?b ?c ?d ?e ?f
  case f =>
    have hw := w_r05_Copied (P := Try.prog) (F := sF) g h0 h1
    assumption
  case a => kernel_rfl
  case b => kernel_rfl
  case c => kernel_rfl
  case d => rfl
  case e => first | rfl | (simp only [List.all_cons, List.all_nil, Bool.and_true]; first | rfl | assumption | exact caps_ok hcs)
theorem k_r05_kind : K_r05_kind Try.prog sF := by
  unfold K_r05_kind
  rw [show sF "r05.kind" = 61 by kernel_rfl]
  intro n
  refine FC.of' (rs := [.t 2]) (H := wMd h_r05_kind sMd) (lc := c_r05_kind sF) (n := 1) Try.func61 Try.mx ?a ?b ?c ?d ?e ?f
  case f =>
    have hw := w_r05_kind (P := Try.prog) (F := sF) n
    assumption
  case a => kernel_rfl
  case b => kernel_rfl
  case c => kernel_rfl
  case d => rfl
  case e => first | rfl | (simp only [List.all_cons, List.all_nil, Bool.and_true]; first | rfl | assumption | exact caps_ok hcs)
theorem k_r05_right : K_r05_right Try.prog sF := by
  unfold K_r05_right
  rw [show sF "r05.right" = 62 by kernel_rfl]
  intro x n
  refine FC.of' (rs := [.t 4]) (H := wMd h_r05_right sMd) (lc := c_r05_right sF) (n := 2) Try.func62 Try.mx ?a ?b ?c ?d ?e ?f
  case f =>
    have hw := w_r05_right (P := Try.prog) (F := sF) k_r05_kind x n
    assumption
  case a => kernel_rfl
  case b => kernel_rfl
  case c => kernel_rfl
  case d => rfl
  case e => first | rfl | (simp only [List.all_cons, List.all_nil, Bool.and_true]; first | rfl | assumption | exact caps_ok hcs)
theorem k_r05_Valid : K_r05_Valid Try.prog sF := by
  unfold K_r05_Valid
  rw [show sF "r05.Valid" = 20 by kernel_rfl]
  intro g
  refine FC.of' (rs := [.t 2]) (H := wMd h_r05_Valid sMd) (lc := c_r05_Valid sF) (n := 1) Try.func20 Try.mx ?a ?b ?c ?d ?e ?f
  case f =>
    have hw := w_r05_Valid (P := Try.prog) (F := sF) k_r05_kind k_r05_right g
    assumption
  case a => kernel_rfl
  case b => kernel_rfl
  case c => kernel_rfl
  case d => rfl
  case e => first | rfl | (simp only [List.all_cons, List.all_nil, Bool.and_true]; first | rfl | assumption | exact caps_ok hcs)
theorem k_r07_bits : K_r07_bits Try.prog sF := by
  unfold K_r07_bits
  rw [show sF "r07.bits" = 69 by kernel_rfl]
  intro n s hn hs
  refine FC.of' (rs := [.t 4]) (H := wMd h_r07_bits sMd) (lc := c_r07_bits sF) (n := 2) Try.func69 Try.mx ?a ?b ?c ?d ?e ?f
  case f =>
    have hw := w_r07_bits (P := Try.prog) (F := sF) n s hn hs
    assumption
  case a => kernel_rfl
  case b => kernel_rfl
  case c => kernel_rfl
  case d => rfl
  case e => first | rfl | (simp only [List.all_cons, List.all_nil, Bool.and_true]; first | rfl | assumption | exact caps_ok hcs)
theorem k_r07_ascending : K_r07_ascending Try.prog sF := by
  unfold K_r07_ascending
  rw [show sF "r07.ascending" = 103 by kernel_rfl]
  intro l n hl h0 h1
  refine FC.of' (rs := [.t 4]) (H := wMd h_r07_ascending sMd) (lc := c_r07_ascending sF) (n := 2) Try.func103 Try.mx ?a ?b ?c ?d ?e ?f
  case f =>
    have hw := w_r07_ascending (P := Try.prog) (F := sF) l n hl h0 h1
    assumption
  case a => kernel_rfl
  case b => kernel_rfl
  case c => kernel_rfl
  case d => rfl
  case e => first | rfl | (simp only [List.all_cons, List.all_nil, Bool.and_true]; first | rfl | assumption | exact caps_ok hcs)
theorem k_r07_has : K_r07_has Try.prog sF := by
  unfold K_r07_has
  rw [show sF "r07.has" = 74 by kernel_rfl]
  intro l n hl
  refine FC.of' (rs := [.t 4]) (H := wMd h_r07_has sMd) (lc := c_r07_has sF) (n := 2) Try.func74 Try.mx ?a ?b ?c ?d ?e ?f
  case f =>
    have hw := w_r07_has (P := Try.prog) (F := sF) l n hl
    assumption
  case a => kernel_rfl
  case b => kernel_rfl
  case c => kernel_rfl
  case d => rfl
  case e => first | rfl | (simp only [List.all_cons, List.all_nil, Bool.and_true]; first | rfl | assumption | exact caps_ok hcs)
theorem k_r07_Right : K_r07_Right Try.prog sF := by
  unfold K_r07_Right
  rw [show sF "r07.Right" = 70 by kernel_rfl]
  intro g p hv h1 h2
  refine FC.of' (rs := [.t 4]) (H := wMd h_r07_Right sMd) (lc := c_r07_Right sF) (n := 2) Try.func70 Try.mx ?a ?b ?c ?d ?e ?f
  case f =>
    have hw := w_r07_Right (P := Try.prog) (F := sF) k_r07_ascending k_r07_has g p hv h1 h2
    assumption
  case a => kernel_rfl
  case b => kernel_rfl
  case c => kernel_rfl
  case d => rfl
  case e => first | rfl | (simp only [List.all_cons, List.all_nil, Bool.and_true]; first | rfl | assumption | exact caps_ok hcs)
theorem k_r07_compare : K_r07_compare Try.prog sF := by
  unfold K_r07_compare
  rw [show sF "r07.compare" = 71 by kernel_rfl]
  intro a b h1 h2 h3 h4
  refine FC.of' (rs := [.t 4]) (H := wMd h_r07_compare sMd) (lc := c_r07_compare sF) (n := 2) Try.func71 Try.mx ?a ?b ?c ?d ?e ?f
  case f =>
    have hw := w_r07_compare (P := Try.prog) (F := sF) a b h1 h2 h3 h4
    assumption
  case a => kernel_rfl
  case b => kernel_rfl
  case c => kernel_rfl
  case d => rfl
  case e => first | rfl | (simp only [List.all_cons, List.all_nil, Bool.and_true]; first | rfl | assumption | exact caps_ok hcs)
theorem k_r07_Compare : K_r07_Compare Try.prog sF := by
  unfold K_r07_Compare
  rw [show sF "r07.Compare" = 28 by kernel_rfl]
  intro p q h1 h2
  refine FC.of' (rs := [.t 4]) (H := wMd h_r07_Compare sMd) (lc := c_r07_Compare sF) (n := 2) Try.func28 Try.mx ?a ?b ?c ?d ?e ?f
  case f =>
    have hw := w_r07_Compare (P := Try.prog) (F := sF) k_r07_compare p q h1 h2
    assumption
  case a => kernel_rfl
  case b => kernel_rfl
  case c => kernel_rfl
  case d => rfl
  case e => first | rfl | (simp only [List.all_cons, List.all_nil, Bool.and_true]; first | rfl | assumption | exact caps_ok hcs)
theorem k_r07_All : K_r07_All Try.prog sF := by
  unfold K_r07_All
  rw [show sF "r07.All" = 25 by kernel_rfl]
  intro g
  refine FC.of' (rs := [.t 2, .t 3]) (H := wMd h_r07_All sMd) (lc := c_r07_All sF) (n := 1) Try.func25 Try.mx ?a ?b ?c ?d ?e ?f
  case f =>
    have hw := w_r07_All (P := Try.prog) (F := sF) k_r05_Valid k_r07_bits k_r07_Right k_r07_Compare g
    assumption
  case a => kernel_rfl
  case b => kernel_rfl
  case c => kernel_rfl
  case d => rfl
  case e => first | rfl | (simp only [List.all_cons, List.all_nil, Bool.and_true]; first | rfl | assumption | exact caps_ok hcs)
theorem k_r05_SameParts : K_r05_SameParts Try.prog sF := by
  unfold K_r05_SameParts
  rw [show sF "r05.SameParts" = 26 by kernel_rfl]
  intro a b h1 h2
  refine FC.of' (rs := [.t 4]) (H := wMd h_r05_SameParts sMd) (lc := c_r05_SameParts sF) (n := 2) Try.func26 Try.mx ?a ?b ?c ?d ?e ?f
  case f =>
    have hw := w_r05_SameParts (P := Try.prog) (F := sF) k_r05_SameInts a b h1 h2
    assumption
  case a => kernel_rfl
  case b => kernel_rfl
  case c => kernel_rfl
  case d => rfl
  case e => first | rfl | (simp only [List.all_cons, List.all_nil, Bool.and_true]; first | rfl | assumption | exact caps_ok hcs)
theorem k_l07_SubgraphAll : K_l07_SubgraphAll Try.prog sF := by
  unfold K_l07_SubgraphAll
  rw [show sF "l07.SubgraphAll" = 5 by kernel_rfl]
  intro g
  refine FC.of' (rs := [.t 2]) (H := wMd h_l07_SubgraphAll sMd) (lc := c_l07_SubgraphAll sF) (n := 1) Try.func5 Try.mx ?a ?b ?c ?d ?e ?f
  case f =>
    have hw := w_l07_SubgraphAll (P := Try.prog) (F := sF) k_l07_awake k_l07_small k_r05_Copied k_subgraph_All k_r07_All k_r05_SameParts k_subgraph_Valid k_r07_Compare g
    assumption
  case a => kernel_rfl
  case b => kernel_rfl
  case c => kernel_rfl
  case d => rfl
  case e => first | rfl | (simp only [List.all_cons, List.all_nil, Bool.and_true]; first | rfl | assumption | exact caps_ok hcs)
end Go.Proofs.Ytbpjoianghehmaa
