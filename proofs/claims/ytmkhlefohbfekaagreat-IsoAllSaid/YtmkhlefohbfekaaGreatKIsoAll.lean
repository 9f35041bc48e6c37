/- The functions of this seat, their contracts. Printed by seat.py. -/
import Derived.Shelf.SlSortCmp.NoneTotal
import Derived.Shelf.Sort.Plain
import Derived.Shelf.Slices.In.SortNone
import Derived.Test.YtmkhlefohbfekaaGreatRows
import Derived.KernelRfl
import Derived.Test.YtmkhlefohbfekaaGreatSpPa
import Derived.Test.YtmkhlefohbfekaaGreatSpPb
import Derived.Test.YtmkhlefohbfekaaGreatSpPc
import Derived.Test.YtmkhlefohbfekaaGreatSpPd
import Derived.Test.YtmkhlefohbfekaaGreatSpXa
import Derived.Test.YtmkhlefohbfekaaGreatSpXb
import Derived.Test.YtmkhlefohbfekaaGreatSpZa
namespace Go.Proofs.YtmkhlefohbfekaaGreat
open Go Go.Am
attribute [local irreducible] W
set_option linter.unusedVariables false
set_option linter.unusedSimpArgs false
def sF : String → Nat := lkS [("l08.IsoAll", 6), ("l08.awake", 7), ("r08.Small", 8), ("l08.copied", 10), ("r06.Same", 12), ("iso.Reason", 13), ("r08.SameDiffer", 15), ("slices.Clone.I", 17), ("iso.All", 19), ("r08.All", 20), ("r06.SameAll", 21), ("morphism.Inverse", 22), ("morphism.Valid", 23), ("iso.Refine", 24), ("iso.Orbits", 25), ("slices.Equal.I", 26), ("r05.Few", 27), ("r05.Valid", 28), ("iso.both", 29), ("iso.shaped", 30), ("iso.of", 31), ("iso.search.nodes", 32), ("iso.free", 33), ("r05.Copied", 34), ("r08.given", 35), ("r08.all", 36), ("r02.SameInts", 37), ("iso.rounds", 38), ("iso.Reason.1", 39), ("slices.Clone.int3", 40), ("slices.SortFunc.int3", 41), ("slices.Compare.I", 42), ("iso.count", 43), ("r05.SameInts", 47), ("morphism.Injective", 49), ("morphism.Surjective", 50), ("morphism.back", 51), ("graph.Valid", 52), ("iso.join", 53), ("iso.joined.stable", 54), ("iso.Orbits.1", 55), ("partition.Generate", 56), ("r05.kind", 57), ("r05.right", 58), ("iso.search.edges", 59), ("iso.search.fits", 60), ("r08.maps", 61), ("r08.edges", 62), ("iso.joined.first", 63), ("iso.colour", 64), ("iso.joined.next", 65), ("cmp.Compare.I", 68), ("morphism.images", 73), ("slices.ContainsFunc.I", 74), ("graph.Valid.1", 75), ("graph.within", 76), ("slices.ContainsFunc.E", 77), ("graph.Valid.2", 78), ("graph.fits", 79), ("partition.finest", 80), ("partition.unite", 81), ("partition.flat", 82), ("slices.Contains.I", 83), ("iso.between", 84), ("r08.fits", 85), ("slices.CompactFunc.int3", 86), ("slices.BinarySearchFunc.int4", 87), ("slices.Concat.I", 88), ("cmp.isNaN.I", 99), ("slices.Sort.I", 101), ("slices.Compact.I", 102), ("slices.IndexFunc.I", 103), ("slices.IndexFunc.E", 104), ("partition.root", 105), ("slices.Index.I", 106), ("r08.number", 107), ("slices.Grow.I", 108)]
def sMd : Nat → List Md := lkM [(32, [.mp, .rd, .mp]), (38, [.rd, .rd, .mp]), (39, [.rd, .rd, .mp, .mp, .mp]), (41, [.mu, .rd]), (59, [.mp, .rd, .rd]), (61, [.rd, .rd, .rd, .rd, .ow]), (62, [.rd, .rd, .rd, .rd, .rd, .ow]), (81, [.mu, .rd, .rd]), (82, [.ow]), (86, [.ow, .rd]), (101, [.mu]), (102, [.ow])]
def sMd1000000 : Nat → List Md := lkM [(1000000, [.rd]), (32, [.mp, .rd, .mp]), (38, [.rd, .rd, .mp]), (39, [.rd, .rd, .mp, .mp, .mp]), (41, [.mu, .rd]), (59, [.mp, .rd, .rd]), (61, [.rd, .rd, .rd, .rd, .ow]), (62, [.rd, .rd, .rd, .rd, .rd, .ow]), (81, [.mu, .rd, .rd]), (82, [.ow]), (86, [.ow, .rd]), (101, [.mu]), (102, [.ow])]
def sMd1000001 : Nat → List Md := lkM [(1000001, [.rd]), (32, [.mp, .rd, .mp]), (38, [.rd, .rd, .mp]), (39, [.rd, .rd, .mp, .mp, .mp]), (41, [.mu, .rd]), (59, [.mp, .rd, .rd]), (61, [.rd, .rd, .rd, .rd, .ow]), (62, [.rd, .rd, .rd, .rd, .rd, .ow]), (81, [.mu, .rd, .rd]), (82, [.ow]), (86, [.ow, .rd]), (101, [.mu]), (102, [.ow])]
theorem Tryz.mx : Tryz.prog.follows .mixedOrders = true := by kernel_rfl
theorem k_slices_IndexFunc_I : K_slices_IndexFunc_I Tryz.prog sF := by
 unfold K_slices_IndexFunc_I
 rw [show sF "slices.IndexFunc.I" = 103 by kernel_rfl]
 intro l hl g cs hcs p hg
 refine FC.of' (rs := [.t 4]) (H := wMd h_slices_IndexFunc_I sMd) (lc := c_slices_IndexFunc_I sF) (n := 2) Tryz.func103 Tryz.mx ?a ?b ?c ?d ?e ?f
 case f => have hw := w_slices_IndexFunc_I (P := Tryz.prog) (F := sF) l hl g cs hcs p hg; assumption
 case a | b | c => kernel_rfl
 case d => rfl
 case e => first | rfl | (simp only [List.all_cons, List.all_nil, Bool.and_true]; first | rfl | assumption | exact caps_ok hcs)
theorem k_slices_ContainsFunc_I : K_slices_ContainsFunc_I Tryz.prog sF := by
 unfold K_slices_ContainsFunc_I
 rw [show sF "slices.ContainsFunc.I" = 74 by kernel_rfl]
 intro l hl g cs hcs p hg
 refine FC.of' (rs := [.t 4]) (H := wMd h_slices_ContainsFunc_I sMd) (lc := c_slices_ContainsFunc_I sF) (n := 2) Tryz.func74 Tryz.mx ?a ?b ?c ?d ?e ?f
 case f => have hw := w_slices_ContainsFunc_I k_slices_IndexFunc_I l hl g cs hcs p hg; assumption
 case a | b | c => kernel_rfl
 case d => rfl
 case e => first | rfl | (simp only [List.all_cons, List.all_nil, Bool.and_true]; first | rfl | assumption | exact caps_ok hcs)
theorem k_slices_IndexFunc_E : K_slices_IndexFunc_E Tryz.prog sF := by
 unfold K_slices_IndexFunc_E
 rw [show sF "slices.IndexFunc.E" = 104 by kernel_rfl]
 intro l hl g cs hcs p hg
 refine FC.of' (rs := [.t 4]) (H := wMd h_slices_IndexFunc_E sMd) (lc := c_slices_IndexFunc_E sF) (n := 2) Tryz.func104 Tryz.mx ?a ?b ?c ?d ?e ?f
 case f => have hw := w_slices_IndexFunc_E (P := Tryz.prog) (F := sF) l hl g cs hcs p hg; assumption
 case a | b | c => kernel_rfl
 case d => rfl
 case e => first | rfl | (simp only [List.all_cons, List.all_nil, Bool.and_true]; first | rfl | assumption | exact caps_ok hcs)
theorem k_slices_ContainsFunc_E : K_slices_ContainsFunc_E Tryz.prog sF := by
 unfold K_slices_ContainsFunc_E
 rw [show sF "slices.ContainsFunc.E" = 77 by kernel_rfl]
 intro l hl g cs hcs p hg
 refine FC.of' (rs := [.t 4]) (H := wMd h_slices_ContainsFunc_E sMd) (lc := c_slices_ContainsFunc_E sF) (n := 2) Tryz.func77 Tryz.mx ?a ?b ?c ?d ?e ?f
 case f => have hw := w_slices_ContainsFunc_E k_slices_IndexFunc_E l hl g cs hcs p hg; assumption
 case a | b | c => kernel_rfl
 case d => rfl
 case e => first | rfl | (simp only [List.all_cons, List.all_nil, Bool.and_true]; first | rfl | assumption | exact caps_ok hcs)
theorem k_graph_within : K_graph_within Tryz.prog sF := by
 unfold K_graph_within
 rw [show sF "graph.within" = 76 by kernel_rfl]
 intro n m
 refine FC.of' (rs := [.t 4]) (H := wMd h_graph_within sMd) (lc := c_graph_within sF) (n := 2) Tryz.func76 Tryz.mx ?a ?b ?c ?d ?e ?f
 case f => have hw := w_graph_within (P := Tryz.prog) (F := sF) n m; assumption
 case a | b | c => kernel_rfl
 case d | e => rfl
theorem k_graph_Valid_1 : K_graph_Valid_1 Tryz.prog sF := by
 unfold K_graph_Valid_1
 rw [show sF "graph.Valid.1" = 75 by kernel_rfl]
 intro x
 refine FC.of' (rs := [.t 2]) (H := wMd h_graph_Valid_1 sMd) (lc := c_graph_Valid_1 sF) (n := 1) Tryz.func75 Tryz.mx ?a ?b ?c ?d ?e ?f
 case f => have hw := w_graph_Valid_1 k_graph_within x; assumption
 case a | b | c => kernel_rfl
 case d | e => rfl
theorem k_graph_fits : K_graph_fits Tryz.prog sF := by
 unfold K_graph_fits
 rw [show sF "graph.fits" = 79 by kernel_rfl]
 intro x n hn
 refine FC.of' (rs := [.t 4]) (H := wMd h_graph_fits sMd) (lc := c_graph_fits sF) (n := 2) Tryz.func79 Tryz.mx ?a ?b ?c ?d ?e ?f
 case f => have hw := w_graph_fits k_graph_within x n hn; assumption
 case a | b | c => kernel_rfl
 case d | e => rfl
theorem k_graph_Valid_2 : K_graph_Valid_2 Tryz.prog sF := by
 unfold K_graph_Valid_2
 rw [show sF "graph.Valid.2" = 78 by kernel_rfl]
 intro x ns es hn
 refine FC.of' (rs := [.t 3]) (H := wMd h_graph_Valid_2 sMd) (lc := c_graph_Valid_2 sF) (n := 2) Tryz.func78 Tryz.mx ?a ?b ?c ?d ?e ?f
 case f => have hw := w_graph_Valid_2 k_graph_fits x ns es hn; assumption
 case a | b | c => kernel_rfl
 case d | e => rfl
theorem k_graph_Valid : K_graph_Valid Tryz.prog sF := by
 unfold K_graph_Valid
 rw [show sF "graph.Valid" = 52 by kernel_rfl]
 intro g
 refine FC.of' (rs := [.t 2]) (H := wMd h_graph_Valid sMd) (lc := c_graph_Valid sF) (n := 1) Tryz.func52 Tryz.mx ?a ?b ?c ?d ?e ?f
 case f => have hw := w_graph_Valid k_slices_ContainsFunc_I k_slices_ContainsFunc_E k_graph_Valid_1 k_graph_Valid_2 g; assumption
 case a | b | c => kernel_rfl
 case d | e => rfl
theorem k_iso_join : K_iso_join Tryz.prog sF := by
 unfold K_iso_join
 rw [show sF "iso.join" = 53 by kernel_rfl]
 intro l hl hv
 refine FC.of' (rs := [.c 2 true 2]) (H := wMd h_iso_join sMd) (lc := c_iso_join sF) (n := 1) Tryz.func53 Tryz.mx ?a ?b ?c ?d ?e ?f
 case f => have hw := w_iso_join (P := Tryz.prog) (F := sF) l hl hv; assumption
 case a | b | c => kernel_rfl
 case d | e => rfl
theorem k_iso_joined_first : K_iso_joined_first Tryz.prog sF := by
 unfold K_iso_joined_first
 rw [show sF "iso.joined.first" = 63 by kernel_rfl]
 intro g hg
 refine FC.of' (rs := [.t 2]) (H := wMd h_iso_joined_first sMd) (lc := c_iso_joined_first sF) (n := 1) Tryz.func63 Tryz.mx ?a ?b ?c ?d ?e ?f
 case f => have hw := w_iso_joined_first (P := Tryz.prog) (F := sF) g hg; assumption
 case a | b | c => kernel_rfl
 case d | e => rfl
theorem k_slices_Clone_int3 : K_slices_Clone_int3 Tryz.prog sF := by
 unfold K_slices_Clone_int3
 rw [show sF "slices.Clone.int3" = 40 by kernel_rfl]
 intro l hl
 refine FC.of' (rs := [.t 2]) (H := wMd h_slices_Clone_int3 sMd) (lc := c_slices_Clone_int3 sF) (n := 1) Tryz.func40 Tryz.mx ?a ?b ?c ?d ?e ?f
 case f => have hw := w_slices_Clone_int3 (P := Tryz.prog) (F := sF) l hl; assumption
 case a | b | c => kernel_rfl
 case d | e => rfl
def SortFL_ren : Go.Shelf.Ren := ⟨fun | 6 => 41 | 15 => 67 | 14 => 66 | 28 => 97 | 29 => 98 | 20 => 89 | 21 => 90 | 22 => 91 | 23 => 92 | 24 => 93 | 25 => 94 | 26 => 95 | 27 => 96 | 46 => 109 | 47 => 110 | 48 => 111 | 49 => 112 | 50 => 113 | 57 => 115 | n => n, fun | 22 => 65 | 24 => 22 | 25 => 68 | 3 => 3 | 39 => 96 | 0 => 0 | 53 => 124 | 55 => 126 | 4 => 4 | 46 => 118 | 45 => 117 | 50 => 112 | 5 => 5 | 9 => 9 | 66 => 133 | 70 => 137 | 76 => 140 | 77 => 69 | n => n, fun | n => n⟩
theorem SortFL : Go.Proofs.SlLaysF.n6 Tryz.prog SortFL_ren := {
 mixed := by kernel_rfl,
 f6 := ⟨ "slices.SortFunc[[][]int,[]int]", by decide, Tryz.func41.trans (congrArg some (by kernel_rfl))⟩,
 f14 := ⟨ "slices.pdqsortCmpFunc[[]int]", by decide, Tryz.func66.trans (congrArg some (by kernel_rfl))⟩,
 f15 := Tryz.func67.trans (congrArg some (by kernel_rfl)),
 f20 := ⟨ "slices.insertionSortCmpFunc[[]int]", by decide, Tryz.func89.trans (congrArg some (by kernel_rfl))⟩,
 f21 := ⟨ "slices.heapSortCmpFunc[[]int]", by decide, Tryz.func90.trans (congrArg some (by kernel_rfl))⟩,
 f22 := ⟨ "slices.breakPatternsCmpFunc[[]int]", by decide, Tryz.func91.trans (congrArg some (by kernel_rfl))⟩,
 f23 := ⟨ "slices.choosePivotCmpFunc[[]int]", by decide, Tryz.func92.trans (congrArg some (by kernel_rfl))⟩,
 f24 := ⟨ "slices.reverseRangeCmpFunc[[]int]", by decide, Tryz.func93.trans (congrArg some (by kernel_rfl))⟩,
 f25 := ⟨ "slices.partialInsertionSortCmpFunc[[]int]", by decide, Tryz.func94.trans (congrArg some (by kernel_rfl))⟩,
 f26 := ⟨ "slices.partitionEqualCmpFunc[[]int]", by decide, Tryz.func95.trans (congrArg some (by kernel_rfl))⟩,
 f27 := ⟨ "slices.partitionCmpFunc[[]int]", by decide, Tryz.func96.trans (congrArg some (by kernel_rfl))⟩,
 f28 := Tryz.func97.trans (congrArg some (by kernel_rfl)),
 f29 := Tryz.func98.trans (congrArg some (by kernel_rfl)),
 f46 := ⟨ "slices.siftDownCmpFunc[[]int]", by decide, Tryz.func109.trans (congrArg some (by kernel_rfl))⟩,
 f47 := Tryz.func110.trans (congrArg some (by kernel_rfl)),
 f48 := Tryz.func111.trans (congrArg some (by kernel_rfl)),
 f49 := ⟨ "slices.medianAdjacentCmpFunc[[]int]", by decide, Tryz.func112.trans (congrArg some (by kernel_rfl))⟩,
 f50 := ⟨ "slices.medianCmpFunc[[]int]", by decide, Tryz.func113.trans (congrArg some (by kernel_rfl))⟩,
 f57 := ⟨ "slices.order2CmpFunc[[]int]", by decide, Tryz.func115.trans (congrArg some (by kernel_rfl))⟩,
 t0 := Tryz.underlying0,
 a0 := Tryz.isAgg0,
 z0 := Tryz.sizeOf0,
 v0 := Tryz.zeroValue0,
 t3 := Tryz.underlying3,
 a3 := Tryz.isAgg3,
 z3 := Tryz.sizeOf3,
 v3 := Tryz.zeroValue3,
 t4 := Tryz.underlying4,
 a4 := Tryz.isAgg4,
 z4 := Tryz.sizeOf4,
 v4 := Tryz.zeroValue4,
 t5 := Tryz.underlying5,
 a5 := Tryz.isAgg5,
 z5 := Tryz.sizeOf5,
 v5 := Tryz.zeroValue5,
 t9 := Tryz.underlying9,
 a9 := Tryz.isAgg9,
 z9 := Tryz.sizeOf9,
 v9 := Tryz.zeroValue9,
 t22 := Tryz.underlying65,
 a22 := Tryz.isAgg65,
 z22 := Tryz.sizeOf65,
 v22 := Tryz.zeroValue65,
 a24 := Tryz.isAgg22,
 z24 := Tryz.sizeOf22,
 t25 := Tryz.underlying68,
 a25 := Tryz.isAgg68,
 z25 := Tryz.sizeOf68,
 v25 := Tryz.zeroValue68,
 t39 := Tryz.underlying96,
 a39 := Tryz.isAgg96,
 z39 := Tryz.sizeOf96,
 v39 := Tryz.zeroValue96,
 t45 := Tryz.underlying117,
 a45 := Tryz.isAgg117,
 z45 := Tryz.sizeOf117,
 v45 := Tryz.zeroValue117,
 t46 := Tryz.underlying118,
 a46 := Tryz.isAgg118,
 z46 := Tryz.sizeOf118,
 v46 := Tryz.zeroValue118,
 t50 := Tryz.underlying112,
 a50 := Tryz.isAgg112,
 z50 := Tryz.sizeOf112,
 v50 := Tryz.zeroValue112,
 t53 := Tryz.underlying124,
 a53 := Tryz.isAgg124,
 z53 := Tryz.sizeOf124,
 v53 := Tryz.zeroValue124,
 t55 := Tryz.underlying126,
 a55 := Tryz.isAgg126,
 z55 := Tryz.sizeOf126,
 v55 := Tryz.zeroValue126,
 t66 := Tryz.underlying133,
 a66 := Tryz.isAgg133,
 z66 := Tryz.sizeOf133,
 v66 := Tryz.zeroValue133,
 t70 := Tryz.underlying137,
 a70 := Tryz.isAgg137,
 z70 := Tryz.sizeOf137,
 v70 := Tryz.zeroValue137,
 t76 := Tryz.underlying140,
 a76 := Tryz.isAgg140,
 z76 := Tryz.sizeOf140,
 v76 := Tryz.zeroValue140,
 t77 := Tryz.underlying69,
 a77 := Tryz.isAgg69,
 z77 := Tryz.sizeOf69,
 v77 := Tryz.zeroValue69 }
theorem k_slices_SortFunc_int3 : K_slices_SortFunc_int3 Tryz.prog sF := by
 unfold K_slices_SortFunc_int3
 rw [show sF "slices.SortFunc.int3" = 41 by kernel_rfl]
 intro l S g c hl hc hS1 hS hg
 have hb : (Tryz.f41.body.isSome) = true := by kernel_rfl
 obtain ⟨body, hb⟩ := Option.isSome_iff_exists.1 hb
 exact sortF_FC (callFunc_enter Tryz.func41 (by kernel_rfl) hb) (fun α _ enc h1 cf hO g cb blk off cap d w eg hcmp hH hblk hsz => Go.Proofs.Any.slices_SortFunc SortFL enc h1 cf hO g cb blk off cap d w eg hcmp hH hblk hsz) (fun p cap fv w => Go.Proofs.AnyF.slices_SortFunc_none { SortFL with } p cap fv w) l S g c hl hc hS1 hS hg
theorem k_slices_CompactFunc_int3 : K_slices_CompactFunc_int3 Tryz.prog sF := by
 unfold K_slices_CompactFunc_int3
 rw [show sF "slices.CompactFunc.int3" = 86 by kernel_rfl]
 intro l g hl hg
 refine FC.of' (rs := [.t 4]) (H := wMd h_slices_CompactFunc_int3 sMd) (lc := c_slices_CompactFunc_int3 sF) (n := 2) Tryz.func86 Tryz.mx ?a ?b ?c ?d ?e ?f
 case f => have hw := w_slices_CompactFunc_int3 (P := Tryz.prog) (F := sF) l g hl hg; assumption
 case a | b | c => kernel_rfl
 case d => rfl
 case e => first | rfl | (simp only [List.all_cons, List.all_nil, Bool.and_true]; first | rfl | assumption | exact caps_ok hcs)
theorem k_slices_BinarySearchFunc_int4 : K_slices_BinarySearchFunc_int4 Tryz.prog sF := by
 unfold K_slices_BinarySearchFunc_int4
 rw [show sF "slices.BinarySearchFunc.int4" = 87 by kernel_rfl]
 intro S t g hl hs hg
 refine FC.of' (rs := [.t 6, .t 7]) (H := wMd h_slices_BinarySearchFunc_int4 sMd) (lc := c_slices_BinarySearchFunc_int4 sF) (n := 3) Tryz.func87 Tryz.mx ?a ?b ?c ?d ?e ?f
 case f => have hw := w_slices_BinarySearchFunc_int4 (P := Tryz.prog) (F := sF) S t g hl hs hg; assumption
 case a | b | c => kernel_rfl
 case d => rfl
 case e => first | rfl | (simp only [List.all_cons, List.all_nil, Bool.and_true]; first | rfl | assumption | exact caps_ok hcs)
theorem k_cmp_isNaN_I : K_cmp_isNaN_I Tryz.prog sF := by
 unfold K_cmp_isNaN_I
 rw [show sF "cmp.isNaN.I" = 99 by kernel_rfl]
 intro x
 refine FC.of' (rs := [.t 2]) (H := wMd h_cmp_isNaN_I sMd) (lc := c_cmp_isNaN_I sF) (n := 1) Tryz.func99 Tryz.mx ?a ?b ?c ?d ?e ?f
 case f => have hw := w_cmp_isNaN_I (P := Tryz.prog) (F := sF) x; assumption
 case a | b | c => kernel_rfl
 case d | e => rfl
theorem k_cmp_Compare_I : K_cmp_Compare_I Tryz.prog sF := by
 unfold K_cmp_Compare_I
 rw [show sF "cmp.Compare.I" = 68 by kernel_rfl]
 intro x y
 refine FC.of' (rs := [.t 4]) (H := wMd h_cmp_Compare_I sMd) (lc := c_cmp_Compare_I sF) (n := 2) Tryz.func68 Tryz.mx ?a ?b ?c ?d ?e ?f
 case f => have hw := w_cmp_Compare_I k_cmp_isNaN_I x y; assumption
 case a | b | c => kernel_rfl
 case d | e => rfl
theorem k_slices_Compare_I : K_slices_Compare_I Tryz.prog sF := by
 unfold K_slices_Compare_I
 rw [show sF "slices.Compare.I" = 42 by kernel_rfl]
 intro a b h1 h2
 refine FC.of' (rs := [.t 4]) (H := wMd h_slices_Compare_I sMd) (lc := c_slices_Compare_I sF) (n := 2) Tryz.func42 Tryz.mx ?a ?b ?c ?d ?e ?f
 case f => have hw := w_slices_Compare_I k_cmp_Compare_I a b h1 h2; assumption
 case a | b | c => kernel_rfl
 case d | e => rfl
theorem k_slices_Equal_I : K_slices_Equal_I Tryz.prog sF := by
 unfold K_slices_Equal_I
 rw [show sF "slices.Equal.I" = 26 by kernel_rfl]
 intro a b hl
 refine FC.of' (rs := [.t 4]) (H := wMd h_slices_Equal_I sMd) (lc := c_slices_Equal_I sF) (n := 2) Tryz.func26 Tryz.mx ?a ?b ?c ?d ?e ?f
 case f => have hw := w_slices_Equal_I (P := Tryz.prog) (F := sF) a b hl; assumption
 case a | b | c => kernel_rfl
 case d | e => rfl
theorem k_iso_colour : K_iso_colour Tryz.prog sF := by
 unfold K_iso_colour
 rw [show sF "iso.colour" = 64 by kernel_rfl]
 intro l hl hx
 refine FC.of' (rs := [.t 2, .t 3]) (H := wMd h_iso_colour sMd) (lc := c_iso_colour sF) (n := 1) Tryz.func64 Tryz.mx ?a ?b ?c ?d ?e ?f
 case f => have hw := w_iso_colour k_slices_Clone_int3 k_slices_SortFunc_int3 k_slices_CompactFunc_int3 k_slices_BinarySearchFunc_int4 k_slices_Compare_I k_slices_Equal_I l hl hx; assumption
 case a | b | c => kernel_rfl
 case d | e => rfl
theorem k_slices_Grow_I : K_slices_Grow_I Tryz.prog sF := by
 unfold K_slices_Grow_I
 rw [show sF "slices.Grow.I" = 108 by kernel_rfl]
 intro n hn
 refine FC.of' (rs := [.t 4]) (H := wMd h_slices_Grow_I sMd) (lc := c_slices_Grow_I sF) (n := 2) Tryz.func108 Tryz.mx ?a ?b ?c ?d ?e ?f
 case f => have hw := w_slices_Grow_I (P := Tryz.prog) (F := sF) n hn; assumption
 case a | b | c => kernel_rfl
 case d | e => rfl
theorem k_slices_Concat_I : K_slices_Concat_I Tryz.prog sF := by
 unfold K_slices_Concat_I
 rw [show sF "slices.Concat.I" = 88 by kernel_rfl]
 intro l hl hx
 refine FC.of' (rs := [.t 2]) (H := wMd h_slices_Concat_I sMd) (lc := c_slices_Concat_I sF) (n := 1) Tryz.func88 Tryz.mx ?a ?b ?c ?d ?e ?f
 case f => have hw := w_slices_Concat_I k_slices_Grow_I l hl hx; assumption
 case a | b | c => kernel_rfl
 case d | e => rfl
theorem k_iso_joined_next : K_iso_joined_next Tryz.prog sF := by
 unfold K_iso_joined_next
 rw [show sF "iso.joined.next" = 65 by kernel_rfl]
 intro g c hi hc
 refine FC.of' (rs := [.t 4]) (H := wMd h_iso_joined_next sMd1000000) (lc := c_iso_joined_next sF) (n := 2) Tryz.func65 Tryz.mx ?a ?b ?c ?d ?e ?f
 case f => have hw := w_iso_joined_next k_slices_SortFunc_int3 k_slices_Compare_I k_slices_Concat_I g c hi hc; assumption
 case a | b | c => kernel_rfl
 case d | e => rfl
theorem k_iso_joined_stable : K_iso_joined_stable Tryz.prog sF := by
 unfold K_iso_joined_stable
 rw [show sF "iso.joined.stable" = 54 by kernel_rfl]
 intro g hi
 refine FC.ofF (rs := [.t 2]) (H := wMd h_iso_joined_stable sMd) (lc := c_iso_joined_stable sF) (n := 1) Tryz.func54 Tryz.mx ?a ?b ?c ?d ?e ?f
 case f => have hw := w_iso_joined_stable k_iso_joined_first k_iso_colour k_iso_joined_next g hi; assumption
 case a | b | c => kernel_rfl
 case d | e => rfl
theorem k_iso_Refine : K_iso_Refine Tryz.prog sF := by
 unfold K_iso_Refine
 rw [show sF "iso.Refine" = 24 by kernel_rfl]
 intro g
 refine FC.ofF (rs := [.t 2, .t 3]) (H := wMd h_iso_Refine sMd) (lc := c_iso_Refine sF) (n := 1) Tryz.func24 Tryz.mx ?a ?b ?c ?d ?e ?f
 case f => have hw := w_iso_Refine k_graph_Valid k_iso_join k_iso_joined_stable g; assumption
 case a | b | c => kernel_rfl
 case d | e => rfl
theorem k_iso_both : K_iso_both Tryz.prog sF := by
 unfold K_iso_both
 rw [show sF "iso.both" = 29 by kernel_rfl]
 intro a b
 refine FC.of' (rs := [.t 4]) (H := wMd h_iso_both sMd) (lc := c_iso_both sF) (n := 2) Tryz.func29 Tryz.mx ?a ?b ?c ?d ?e ?f
 case f => have hw := w_iso_both k_graph_Valid a b; assumption
 case a | b | c => kernel_rfl
 case d | e => rfl
theorem k_iso_shaped : K_iso_shaped Tryz.prog sF := by
 unfold K_iso_shaped
 rw [show sF "iso.shaped" = 30 by kernel_rfl]
 intro a b
 refine FC.of' (rs := [.t 4]) (H := wMd h_iso_shaped sMd) (lc := c_iso_shaped sF) (n := 2) Tryz.func30 Tryz.mx ?a ?b ?c ?d ?e ?f
 case f => have hw := w_iso_shaped (P := Tryz.prog) (F := sF) a b; assumption
 case a | b | c => kernel_rfl
 case d | e => rfl
theorem k_iso_of : K_iso_of Tryz.prog sF := by
 unfold K_iso_of
 rw [show sF "iso.of" = 31 by kernel_rfl]
 intro a b m va vb
 refine FC.ofF (rs := [.t 6]) (H := wMd h_iso_of sMd) (lc := c_iso_of sF) (n := 3) Tryz.func31 Tryz.mx ?a ?b ?c ?d ?e ?f
 case f => have hw := w_iso_of k_iso_join k_iso_joined_stable a b m va vb; assumption
 case a | b | c => kernel_rfl
 case d | e => rfl
theorem k_slices_Clone_I : K_slices_Clone_I Tryz.prog sF := by
 unfold K_slices_Clone_I
 rw [show sF "slices.Clone.I" = 17 by kernel_rfl]
 intro l hl
 refine FC.of' (rs := [.t 2]) (H := wMd h_slices_Clone_I sMd) (lc := c_slices_Clone_I sF) (n := 1) Tryz.func17 Tryz.mx ?a ?b ?c ?d ?e ?f
 case f => have hw := w_slices_Clone_I (P := Tryz.prog) (F := sF) l hl; assumption
 case a | b | c => kernel_rfl
 case d | e => rfl
theorem k_slices_Index_I : K_slices_Index_I Tryz.prog sF := by
 unfold K_slices_Index_I
 rw [show sF "slices.Index.I" = 106 by kernel_rfl]
 intro l x hl
 refine FC.of' (rs := [.t 4]) (H := wMd h_slices_Index_I sMd) (lc := c_slices_Index_I sF) (n := 2) Tryz.func106 Tryz.mx ?a ?b ?c ?d ?e ?f
 case f => have hw := w_slices_Index_I (P := Tryz.prog) (F := sF) l x hl; assumption
 case a | b | c => kernel_rfl
 case d | e => rfl
theorem k_slices_Contains_I : K_slices_Contains_I Tryz.prog sF := by
 unfold K_slices_Contains_I
 rw [show sF "slices.Contains.I" = 83 by kernel_rfl]
 intro l x hl
 refine FC.of' (rs := [.t 4]) (H := wMd h_slices_Contains_I sMd) (lc := c_slices_Contains_I sF) (n := 2) Tryz.func83 Tryz.mx ?a ?b ?c ?d ?e ?f
 case f => have hw := w_slices_Contains_I k_slices_Index_I l x hl; assumption
 case a | b | c => kernel_rfl
 case d | e => rfl
theorem k_iso_search_edges : K_iso_search_edges Tryz.prog sF := by
 unfold K_iso_search_edges
 intro n
 induction n using Nat.strongRecOn with
 | ind n ih =>
 unfold KA_iso_search_edges
 rw [show sF "iso.search.edges" = 59 by kernel_rfl]
 intro a b c m ns es out va vb h1 h2 h3 h4 h5
 refine FC.ofO (rs := []) (H := wMd h_iso_search_edges sMd) (lc := c_iso_search_edges sF) (n := 3) (outs := [0]) Tryz.func59 Tryz.mx ?a ?b ?c ?d ?e ?f
 case f => have hw := w_iso_search_edges k_slices_Clone_I k_slices_Contains_I n ih a b c m ns es out va vb h1 h2 h3 h4 h5; assumption
 case a | b | c => kernel_rfl
 case d | e => rfl
def SortL_ren : Go.Shelf.Ren := ⟨fun | 189 => 101 | 125 => 67 | 257 => 114 | 128 => 97 | 129 => 98 | 294 => 116 | 295 => 117 | 296 => 118 | 297 => 119 | 298 => 120 | 299 => 121 | 216 => 122 | 300 => 123 | 301 => 124 | 328 => 125 | 329 => 110 | 330 => 111 | 331 => 126 | 332 => 127 | 215 => 99 | 343 => 128 | n => n, fun | 28 => 22 | 3 => 3 | 46 => 96 | 0 => 0 | 51 => 124 | 53 => 126 | 4 => 4 | 183 => 118 | 182 => 117 | 131 => 112 | 5 => 5 | 9 => 9 | 218 => 133 | 222 => 137 | 228 => 140 | 229 => 69 | n => n, fun | n => n⟩
theorem SortL : Go.Proofs.Lays.n189 Tryz.prog SortL_ren := {
 mixed := by kernel_rfl,
 f125 := Tryz.func67.trans (congrArg some (by kernel_rfl)),
 f128 := Tryz.func97.trans (congrArg some (by kernel_rfl)),
 f129 := Tryz.func98.trans (congrArg some (by kernel_rfl)),
 f189 := Tryz.func101.trans (congrArg some (by kernel_rfl)),
 f215 := Tryz.func99.trans (congrArg some (by kernel_rfl)),
 f216 := Tryz.func122.trans (congrArg some (by kernel_rfl)),
 f257 := Tryz.func114.trans (congrArg some (by kernel_rfl)),
 f294 := Tryz.func116.trans (congrArg some (by kernel_rfl)),
 f295 := Tryz.func117.trans (congrArg some (by kernel_rfl)),
 f296 := Tryz.func118.trans (congrArg some (by kernel_rfl)),
 f297 := Tryz.func119.trans (congrArg some (by kernel_rfl)),
 f298 := Tryz.func120.trans (congrArg some (by kernel_rfl)),
 f299 := Tryz.func121.trans (congrArg some (by kernel_rfl)),
 f300 := Tryz.func123.trans (congrArg some (by kernel_rfl)),
 f301 := Tryz.func124.trans (congrArg some (by kernel_rfl)),
 f328 := Tryz.func125.trans (congrArg some (by kernel_rfl)),
 f329 := Tryz.func110.trans (congrArg some (by kernel_rfl)),
 f330 := Tryz.func111.trans (congrArg some (by kernel_rfl)),
 f331 := Tryz.func126.trans (congrArg some (by kernel_rfl)),
 f332 := Tryz.func127.trans (congrArg some (by kernel_rfl)),
 f343 := Tryz.func128.trans (congrArg some (by kernel_rfl)),
 t0 := Tryz.underlying0,
 a0 := Tryz.isAgg0,
 z0 := Tryz.sizeOf0,
 v0 := Tryz.zeroValue0,
 t3 := Tryz.underlying3,
 a3 := Tryz.isAgg3,
 z3 := Tryz.sizeOf3,
 v3 := Tryz.zeroValue3,
 t4 := Tryz.underlying4,
 a4 := Tryz.isAgg4,
 z4 := Tryz.sizeOf4,
 v4 := Tryz.zeroValue4,
 t5 := Tryz.underlying5,
 a5 := Tryz.isAgg5,
 z5 := Tryz.sizeOf5,
 v5 := Tryz.zeroValue5,
 t9 := Tryz.underlying9,
 a9 := Tryz.isAgg9,
 z9 := Tryz.sizeOf9,
 v9 := Tryz.zeroValue9,
 t28 := Tryz.underlying22,
 a28 := Tryz.isAgg22,
 z28 := Tryz.sizeOf22,
 v28 := Tryz.zeroValue22,
 t46 := Tryz.underlying96,
 a46 := Tryz.isAgg96,
 z46 := Tryz.sizeOf96,
 v46 := Tryz.zeroValue96,
 t51 := Tryz.underlying124,
 a51 := Tryz.isAgg124,
 z51 := Tryz.sizeOf124,
 v51 := Tryz.zeroValue124,
 t53 := Tryz.underlying126,
 a53 := Tryz.isAgg126,
 z53 := Tryz.sizeOf126,
 v53 := Tryz.zeroValue126,
 t131 := Tryz.underlying112,
 a131 := Tryz.isAgg112,
 z131 := Tryz.sizeOf112,
 v131 := Tryz.zeroValue112,
 t182 := Tryz.underlying117,
 a182 := Tryz.isAgg117,
 z182 := Tryz.sizeOf117,
 v182 := Tryz.zeroValue117,
 t183 := Tryz.underlying118,
 a183 := Tryz.isAgg118,
 z183 := Tryz.sizeOf118,
 v183 := Tryz.zeroValue118,
 t218 := Tryz.underlying133,
 a218 := Tryz.isAgg133,
 z218 := Tryz.sizeOf133,
 v218 := Tryz.zeroValue133,
 t222 := Tryz.underlying137,
 a222 := Tryz.isAgg137,
 z222 := Tryz.sizeOf137,
 v222 := Tryz.zeroValue137,
 t228 := Tryz.underlying140,
 a228 := Tryz.isAgg140,
 z228 := Tryz.sizeOf140,
 v228 := Tryz.zeroValue140,
 t229 := Tryz.underlying69,
 a229 := Tryz.isAgg69,
 z229 := Tryz.sizeOf69,
 v229 := Tryz.zeroValue69 }
theorem k_slices_Sort_I : K_slices_Sort_I Tryz.prog sF := by
 unfold K_slices_Sort_I
 rw [show sF "slices.Sort.I" = 101 by kernel_rfl]
 intro l hl
 have hb : (Tryz.f101.body.isSome) = true := by kernel_rfl
 obtain ⟨body, hb⟩ := Option.isSome_iff_exists.1 hb
 exact sort_FC (callFunc_enter Tryz.func101 (by kernel_rfl) hb) (fun blk off cap zs w h1 h2 h3 => Go.Proofs.Any.slices_Sort_int SortL blk off cap zs w h1 h2 h3) (fun p cap w => Go.Proofs.Any.slices_Sort_int_none SortL p cap w) l hl
theorem k_iso_between : K_iso_between Tryz.prog sF := by
 unfold K_iso_between
 rw [show sF "iso.between" = 84 by kernel_rfl]
 intro g f t hg
 refine FC.of' (rs := [.t 6]) (H := wMd h_iso_between sMd) (lc := c_iso_between sF) (n := 3) Tryz.func84 Tryz.mx ?a ?b ?c ?d ?e ?f
 case f => have hw := w_iso_between k_slices_Sort_I g f t hg; assumption
 case a | b | c => kernel_rfl
 case d | e => rfl
theorem k_iso_search_fits : K_iso_search_fits Tryz.prog sF := by
 unfold K_iso_search_fits
 rw [show sF "iso.search.fits" = 60 by kernel_rfl]
 intro a b c m out ns n h0 h1 h2 h3 h4 h5 h6 h7
 refine FC.of' (rs := [.t 6]) (H := wMd h_iso_search_fits sMd) (lc := c_iso_search_fits sF) (n := 3) Tryz.func60 Tryz.mx ?a ?b ?c ?d ?e ?f
 case f => have hw := w_iso_search_fits k_slices_Contains_I k_iso_between k_slices_Equal_I a b c m out ns n h0 h1 h2 h3 h4 h5 h6 h7; assumption
 case a | b | c => kernel_rfl
 case d | e => rfl
theorem k_iso_search_nodes : K_iso_search_nodes Tryz.prog sF := by
 unfold K_iso_search_nodes
 intro n
 induction n using Nat.strongRecOn with
 | ind n ih =>
 unfold KA_iso_search_nodes
 rw [show sF "iso.search.nodes" = 32 by kernel_rfl]
 intro a b c m ns out g bs al hal va vb h0 h2 h3 h4 h5
 refine FC.ofO (rs := []) (H := wMd h_iso_search_nodes sMd) (lc := c_iso_search_nodes sF) (n := 3) (outs := [0, 2]) Tryz.func32 Tryz.mx ?a ?b ?c ?d ?e ?f
 case f => have hw := w_iso_search_nodes k_slices_Clone_I k_iso_search_edges k_iso_search_fits n ih a b c m ns out g bs al hal va vb h0 h2 h3 h4 h5; assumption
 case a | b | c => kernel_rfl
 case d => rfl
 case e => first | rfl | exact hal.ok1 | exact rounds_ok (hp s)
theorem k_iso_free : K_iso_free Tryz.prog sF := by
 unfold K_iso_free
 rw [show sF "iso.free" = 33 by kernel_rfl]
 intro i n
 refine FC.of' (rs := [.t 4]) (H := wMd h_iso_free sMd) (lc := c_iso_free sF) (n := 2) Tryz.func33 Tryz.mx ?a ?b ?c ?d ?e ?f
 case f => have hw := w_iso_free (P := Tryz.prog) (F := sF) i n; assumption
 case a | b | c => kernel_rfl
 case d | e => rfl
theorem k_iso_All : K_iso_All Tryz.prog sF := by
 unfold K_iso_All
 rw [show sF "iso.All" = 19 by kernel_rfl]
 intro a b
 refine FC.of' (rs := [.t 4, .t 5]) (H := wMd h_iso_All sMd) (lc := c_iso_All sF) (n := 2) Tryz.func19 Tryz.mx ?a ?b ?c ?d ?e ?f
 case f => have hw := w_iso_All k_iso_both k_iso_shaped k_iso_of k_iso_search_nodes k_iso_free a b; assumption
 case a | b | c => kernel_rfl
 case d | e => rfl
theorem k_iso_Orbits_1 : K_iso_Orbits_1 Tryz.prog sF := by
 unfold K_iso_Orbits_1
 rw [show sF "iso.Orbits.1" = 55 by kernel_rfl]
 intro i n u v
 refine FC.of' (rs := [.t 6]) (H := wMd h_iso_Orbits_1 sMd) (lc := c_iso_Orbits_1 sF) (n := 4) Tryz.func55 Tryz.mx ?a ?b ?c ?d ?e ?f
 case f => have hw := w_iso_Orbits_1 (P := Tryz.prog) (F := sF) i n u v; assumption
 case a | b | c => kernel_rfl
 case d | e => rfl
theorem k_partition_finest : K_partition_finest Tryz.prog sF := by
 unfold K_partition_finest
 rw [show sF "partition.finest" = 80 by kernel_rfl]
 intro n hn
 refine FC.of' (rs := [.t 2]) (H := wMd h_partition_finest sMd) (lc := c_partition_finest sF) (n := 1) Tryz.func80 Tryz.mx ?a ?b ?c ?d ?e ?f
 case f => have hw := w_partition_finest (P := Tryz.prog) (F := sF) n hn; assumption
 case a | b | c => kernel_rfl
 case d | e => rfl
theorem k_partition_root : K_partition_root Tryz.prog sF := by
 unfold K_partition_root
 rw [show sF "partition.root" = 105 by kernel_rfl]
 intro p r i h hl hi
 refine FC.of' (rs := [.t 4]) (H := wMd h_partition_root sMd) (lc := c_partition_root sF) (n := 2) Tryz.func105 Tryz.mx ?a ?b ?c ?d ?e ?f
 case f => have hw := w_partition_root (P := Tryz.prog) (F := sF) p r i h hl hi; assumption
 case a | b | c => kernel_rfl
 case d | e => rfl
theorem k_partition_unite : K_partition_unite Tryz.prog sF := by
 unfold K_partition_unite
 rw [show sF "partition.unite" = 81 by kernel_rfl]
 intro p r a b h hl ha hb
 refine FC.ofO (rs := []) (H := wMd h_partition_unite sMd) (lc := c_partition_unite sF) (n := 3) (outs := [0]) Tryz.func81 Tryz.mx ?a ?b ?c ?d ?e ?f
 case f => have hw := w_partition_unite k_partition_root p r a b h hl ha hb; assumption
 case a | b | c => kernel_rfl
 case d | e => rfl
theorem k_partition_flat : K_partition_flat Tryz.prog sF := by
 unfold K_partition_flat
 rw [show sF "partition.flat" = 82 by kernel_rfl]
 intro p r h hl
 refine FC.of' (rs := [.t 2]) (H := wMd h_partition_flat sMd) (lc := c_partition_flat sF) (n := 1) Tryz.func82 Tryz.mx ?a ?b ?c ?d ?e ?f
 case f => have hw := w_partition_flat k_partition_root p r h hl; assumption
 case a | b | c => kernel_rfl
 case d | e => rfl
theorem k_partition_Generate : K_partition_Generate Tryz.prog sF := by
 unfold K_partition_Generate
 rw [show sF "partition.Generate" = 56 by kernel_rfl]
 intro n l hn hl hp
 refine FC.of' (rs := [.t 4, .t 5]) (H := wMd h_partition_Generate sMd) (lc := c_partition_Generate sF) (n := 2) Tryz.func56 Tryz.mx ?a ?b ?c ?d ?e ?f
 case f => have hw := w_partition_Generate k_partition_finest k_partition_unite k_partition_flat n l hn hl hp; assumption
 case a | b | c => kernel_rfl
 case d | e => rfl
theorem k_iso_Orbits : K_iso_Orbits Tryz.prog sF := by
 unfold K_iso_Orbits
 rw [show sF "iso.Orbits" = 25 by kernel_rfl]
 intro g
 refine FC.of' (rs := [.t 2, .t 3]) (H := wMd h_iso_Orbits sMd) (lc := c_iso_Orbits sF) (n := 1) Tryz.func25 Tryz.mx ?a ?b ?c ?d ?e ?f
 case f => have hw := w_iso_Orbits k_graph_Valid k_iso_of k_iso_search_nodes k_iso_Orbits_1 k_partition_Generate g; assumption
 case a | b | c => kernel_rfl
 case d | e => rfl
theorem k_iso_rounds : K_iso_rounds Tryz.prog sF := by
 unfold K_iso_rounds
 rw [show sF "iso.rounds" = 38 by kernel_rfl]
 intro σ c1 c2 c3 f g a b va vb hp hg s
 refine FC.ofO (rs := []) (H := wMd h_iso_rounds sMd1000001) (lc := c_iso_rounds sF) (n := 3) (outs := [2]) Tryz.func38 Tryz.mx ?a ?b ?c ?d ?e ?f
 case f => have hw := w_iso_rounds k_iso_join k_iso_joined_first k_iso_colour k_iso_joined_next σ c1 c2 c3 f g a b va vb hp hg s; assumption
 case a | b | c => kernel_rfl
 case d => rfl
 case e => first | rfl | exact hal.ok1 | exact rounds_ok (hp s)
theorem k_iso_count : K_iso_count Tryz.prog sF := by
 unfold K_iso_count
 rw [show sF "iso.count" = 43 by kernel_rfl]
 intro l k x hl hy
 refine FC.of' (rs := [.t 6, .t 7]) (H := wMd h_iso_count sMd) (lc := c_iso_count sF) (n := 3) Tryz.func43 Tryz.mx ?a ?b ?c ?d ?e ?f
 case f => have hw := w_iso_count k_slices_Equal_I l k x hl hy; assumption
 case a | b | c => kernel_rfl
 case d | e => rfl
theorem k_iso_Reason_1 : K_iso_Reason_1 Tryz.prog sF := by
 unfold K_iso_Reason_1
 rw [show sF "iso.Reason.1" = 39 by kernel_rfl]
 intro l r a d b h1 h2 h3 hy
 refine FC.ofFO (rs := [.t 7]) (H := wMd h_iso_Reason_1 sMd) (lc := c_iso_Reason_1 sF) (n := 5) (outs := [2, 3, 4]) Tryz.func39 Tryz.mx ?a ?b ?c ?d ?e ?f
 case f => have hw := w_iso_Reason_1 k_slices_Clone_int3 k_slices_SortFunc_int3 k_slices_Compare_I k_iso_count k_slices_Clone_I l r a d b h1 h2 h3 hy; assumption
 case a | b | c => kernel_rfl
 case d | e => rfl
theorem k_iso_Reason : K_iso_Reason Tryz.prog sF := by
 unfold K_iso_Reason
 rw [show sF "iso.Reason" = 13 by kernel_rfl]
 intro a b
 refine FC.ofF (rs := [.c 4 true 4, .t 5]) (H := wMd h_iso_Reason sMd) (lc := c_iso_Reason sF) (n := 2) Tryz.func13 Tryz.mx ?a ?b ?c ?d ?e ?f
 case f => have hw := w_iso_Reason k_iso_both k_iso_rounds k_iso_Reason_1 a b; assumption
 case a | b | c => kernel_rfl
 case d | e => rfl
theorem k_r05_SameInts : K_r05_SameInts Tryz.prog sF := by
 unfold K_r05_SameInts
 rw [show sF "r05.SameInts" = 47 by kernel_rfl]
 intro a b hl
 refine FC.of' (rs := [.t 4]) (H := wMd h_r05_SameInts sMd) (lc := c_r05_SameInts sF) (n := 2) Tryz.func47 Tryz.mx ?a ?b ?c ?d ?e ?f
 case f => have hw := w_r05_SameInts (P := Tryz.prog) (F := sF) a b hl; assumption
 case a | b | c => kernel_rfl
 case d | e => rfl
theorem k_r08_SameDiffer : K_r08_SameDiffer Tryz.prog sF := by
 unfold K_r08_SameDiffer
 rw [show sF "r08.SameDiffer" = 15 by kernel_rfl]
 intro d e hl
 refine FC.of' (rs := [.t 4]) (H := wMd h_r08_SameDiffer sMd) (lc := c_r08_SameDiffer sF) (n := 2) Tryz.func15 Tryz.mx ?a ?b ?c ?d ?e ?f
 case f => have hw := w_r08_SameDiffer k_r05_SameInts d e hl; assumption
 case a | b | c => kernel_rfl
 case d | e => rfl
theorem k_l08_awake : K_l08_awake Tryz.prog sF := by
 unfold K_l08_awake
 rw [show sF "l08.awake" = 7 by kernel_rfl]
 refine FC.of' (rs := [.t 0]) (H := wMd h_l08_awake sMd) (lc := c_l08_awake sF) (n := 0) Tryz.func7 Tryz.mx ?a ?b ?c ?d ?e ?f
 case f => have hw := w_l08_awake k_iso_Refine k_iso_All k_iso_Orbits k_iso_Reason k_slices_Equal_I k_r08_SameDiffer; assumption
 case a | b | c => kernel_rfl
 case d | e => rfl
theorem k_r05_Few : K_r05_Few Tryz.prog sF := by
 unfold K_r05_Few
 rw [show sF "r05.Few" = 27 by kernel_rfl]
 intro g
 refine FC.of' (rs := [.t 2]) (H := wMd h_r05_Few sMd) (lc := c_r05_Few sF) (n := 1) Tryz.func27 Tryz.mx ?a ?b ?c ?d ?e ?f
 case f => have hw := w_r05_Few (P := Tryz.prog) (F := sF) g; assumption
 case a | b | c => kernel_rfl
 case d | e => rfl
theorem k_r05_kind : K_r05_kind Tryz.prog sF := by
 unfold K_r05_kind
 rw [show sF "r05.kind" = 57 by kernel_rfl]
 intro n
 refine FC.of' (rs := [.t 2]) (H := wMd h_r05_kind sMd) (lc := c_r05_kind sF) (n := 1) Tryz.func57 Tryz.mx ?a ?b ?c ?d ?e ?f
 case f => have hw := w_r05_kind (P := Tryz.prog) (F := sF) n; assumption
 case a | b | c => kernel_rfl
 case d | e => rfl
theorem k_r05_right : K_r05_right Tryz.prog sF := by
 unfold K_r05_right
 rw [show sF "r05.right" = 58 by kernel_rfl]
 intro x n
 refine FC.of' (rs := [.t 4]) (H := wMd h_r05_right sMd) (lc := c_r05_right sF) (n := 2) Tryz.func58 Tryz.mx ?a ?b ?c ?d ?e ?f
 case f => have hw := w_r05_right k_r05_kind x n; assumption
 case a | b | c => kernel_rfl
 case d | e => rfl
theorem k_r05_Valid : K_r05_Valid Tryz.prog sF := by
 unfold K_r05_Valid
 rw [show sF "r05.Valid" = 28 by kernel_rfl]
 intro g
 refine FC.of' (rs := [.t 2]) (H := wMd h_r05_Valid sMd) (lc := c_r05_Valid sF) (n := 1) Tryz.func28 Tryz.mx ?a ?b ?c ?d ?e ?f
 case f => have hw := w_r05_Valid k_r05_kind k_r05_right g; assumption
 case a | b | c => kernel_rfl
 case d | e => rfl
theorem k_r08_Small : K_r08_Small Tryz.prog sF := by
 unfold K_r08_Small
 rw [show sF "r08.Small" = 8 by kernel_rfl]
 intro g n
 refine FC.of' (rs := [.t 4]) (H := wMd h_r08_Small sMd) (lc := c_r08_Small sF) (n := 2) Tryz.func8 Tryz.mx ?a ?b ?c ?d ?e ?f
 case f => have hw := w_r08_Small k_r05_Few k_r05_Valid g n; assumption
 case a | b | c => kernel_rfl
 case d | e => rfl
theorem k_r05_Copied : K_r05_Copied Tryz.prog sF := by
 unfold K_r05_Copied
 rw [show sF "r05.Copied" = 34 by kernel_rfl]
 intro g h0 h1
 refine FC.of' (rs := [.c 2 true 2]) (H := wMd h_r05_Copied sMd) (lc := c_r05_Copied sF) (n := 1) Tryz.func34 Tryz.mx ?a ?b ?c ?d ?e ?f
 case f => have hw := w_r05_Copied (P := Tryz.prog) (F := sF) g h0 h1; assumption
 case a | b | c => kernel_rfl
 case d | e => rfl
theorem k_l08_copied : K_l08_copied Tryz.prog sF := by
 unfold K_l08_copied
 rw [show sF "l08.copied" = 10 by kernel_rfl]
 intro g h1 h2
 refine FC.of' (rs := [.c 2 true 2]) (H := wMd h_l08_copied sMd) (lc := c_l08_copied sF) (n := 1) Tryz.func10 Tryz.mx ?a ?b ?c ?d ?e ?f
 case f => have hw := w_l08_copied k_r05_Copied g h1 h2; assumption
 case a | b | c => kernel_rfl
 case d | e => rfl
theorem k_r08_given : K_r08_given Tryz.prog sF := by
 unfold K_r08_given
 rw [show sF "r08.given" = 35 by kernel_rfl]
 intro a b
 refine FC.of' (rs := [.t 4]) (H := wMd h_r08_given sMd) (lc := c_r08_given sF) (n := 2) Tryz.func35 Tryz.mx ?a ?b ?c ?d ?e ?f
 case f => have hw := w_r08_given k_r05_Valid a b; assumption
 case a | b | c => kernel_rfl
 case d | e => rfl
theorem k_r08_number : K_r08_number Tryz.prog sF := by
 unfold K_r08_number
 rw [show sF "r08.number" = 107 by kernel_rfl]
 intro g t f o h
 refine FC.of' (rs := [.t 8]) (H := wMd h_r08_number sMd) (lc := c_r08_number sF) (n := 4) Tryz.func107 Tryz.mx ?a ?b ?c ?d ?e ?f
 case f => have hw := w_r08_number (P := Tryz.prog) (F := sF) g t f o h; assumption
 case a | b | c => kernel_rfl
 case d | e => rfl
theorem k_r08_fits : K_r08_fits Tryz.prog sF := by
 unfold K_r08_fits
 rw [show sF "r08.fits" = 85 by kernel_rfl]
 intro a b ns n va vb h1 h2 h3 h4
 refine FC.of' (rs := [.t 6]) (H := wMd h_r08_fits sMd) (lc := c_r08_fits sF) (n := 3) Tryz.func85 Tryz.mx ?a ?b ?c ?d ?e ?f
 case f => have hw := w_r08_fits k_r08_number a b ns n va vb h1 h2 h3 h4; assumption
 case a | b | c => kernel_rfl
 case d | e => rfl
theorem k_r08_maps : K_r08_maps Tryz.prog sF := by
 unfold K_r08_maps
 intro n
 induction n using Nat.strongRecOn with
 | ind n ih =>
 unfold KA_r08_maps
 rw [show sF "r08.maps" = 61 by kernel_rfl]
 intro a b ns most out va vb h1 h2 h3 h4
 refine FC.of' (rs := [.t 10]) (H := wMd h_r08_maps sMd) (lc := c_r08_maps sF) (n := 5) Tryz.func61 Tryz.mx ?a ?b ?c ?d ?e ?f
 case f => have hw := w_r08_maps k_r08_fits n ih a b ns most out va vb h1 h2 h3 h4; assumption
 case a | b | c => kernel_rfl
 case d | e => rfl
theorem k_r08_edges : K_r08_edges Tryz.prog sF := by
 unfold K_r08_edges
 intro n
 induction n using Nat.strongRecOn with
 | ind n ih =>
 unfold KA_r08_edges
 rw [show sF "r08.edges" = 62 by kernel_rfl]
 intro a b ns es most out va vb h1 h2 h3 h4
 refine FC.of' (rs := [.t 12]) (H := wMd h_r08_edges sMd) (lc := c_r08_edges sF) (n := 6) Tryz.func62 Tryz.mx ?a ?b ?c ?d ?e ?f
 case f => have hw := w_r08_edges (P := Tryz.prog) (F := sF) n ih a b ns es most out va vb h1 h2 h3 h4; assumption
 case a | b | c => kernel_rfl
 case d | e => rfl
theorem k_r08_all : K_r08_all Tryz.prog sF := by
 unfold K_r08_all
 rw [show sF "r08.all" = 36 by kernel_rfl]
 intro a b most va vb h1 h2
 refine FC.of' (rs := [.t 6]) (H := wMd h_r08_all sMd) (lc := c_r08_all sF) (n := 3) Tryz.func36 Tryz.mx ?a ?b ?c ?d ?e ?f
 case f => have hw := w_r08_all k_r08_maps k_r08_edges a b most va vb h1 h2; assumption
 case a | b | c => kernel_rfl
 case d | e => rfl
theorem k_r08_All : K_r08_All Tryz.prog sF := by
 unfold K_r08_All
 rw [show sF "r08.All" = 20 by kernel_rfl]
 intro a b
 refine FC.of' (rs := [.t 4, .t 5]) (H := wMd h_r08_All sMd) (lc := c_r08_All sF) (n := 2) Tryz.func20 Tryz.mx ?a ?b ?c ?d ?e ?f
 case f => have hw := w_r08_All k_r08_given k_r08_all a b; assumption
 case a | b | c => kernel_rfl
 case d | e => rfl
theorem k_r02_SameInts : K_r02_SameInts Tryz.prog sF := by
 unfold K_r02_SameInts
 rw [show sF "r02.SameInts" = 37 by kernel_rfl]
 intro a b hl
 refine FC.of' (rs := [.t 4]) (H := wMd h_r02_SameInts sMd) (lc := c_r02_SameInts sF) (n := 2) Tryz.func37 Tryz.mx ?a ?b ?c ?d ?e ?f
 case f => have hw := w_r02_SameInts (P := Tryz.prog) (F := sF) a b hl; assumption
 case a | b | c => kernel_rfl
 case d | e => rfl
theorem k_r06_Same : K_r06_Same Tryz.prog sF := by
 unfold K_r06_Same
 rw [show sF "r06.Same" = 12 by kernel_rfl]
 intro a b h1 h2
 refine FC.of' (rs := [.t 4]) (H := wMd h_r06_Same sMd) (lc := c_r06_Same sF) (n := 2) Tryz.func12 Tryz.mx ?a ?b ?c ?d ?e ?f
 case f => have hw := w_r06_Same k_r02_SameInts a b h1 h2; assumption
 case a | b | c => kernel_rfl
 case d | e => rfl
theorem k_r06_SameAll : K_r06_SameAll Tryz.prog sF := by
 unfold K_r06_SameAll
 rw [show sF "r06.SameAll" = 21 by kernel_rfl]
 intro l m hl hsm
 refine FC.of' (rs := [.t 4]) (H := wMd h_r06_SameAll sMd) (lc := c_r06_SameAll sF) (n := 2) Tryz.func21 Tryz.mx ?a ?b ?c ?d ?e ?f
 case f => have hw := w_r06_SameAll k_r06_Same l m hl hsm; assumption
 case a | b | c => kernel_rfl
 case d | e => rfl
theorem k_morphism_Valid : K_morphism_Valid Tryz.prog sF := by
 unfold K_morphism_Valid
 rw [show sF "morphism.Valid" = 23 by kernel_rfl]
 intro a b m
 refine FC.of' (rs := [.t 6]) (H := wMd h_morphism_Valid sMd) (lc := c_morphism_Valid sF) (n := 3) Tryz.func23 Tryz.mx ?a ?b ?c ?d ?e ?f
 case f => have hw := w_morphism_Valid k_graph_Valid a b m; assumption
 case a | b | c => kernel_rfl
 case d | e => rfl
theorem k_slices_Compact_I : K_slices_Compact_I Tryz.prog sF := by
 unfold K_slices_Compact_I
 rw [show sF "slices.Compact.I" = 102 by kernel_rfl]
 intro l hl
 refine FC.of' (rs := [.t 2]) (H := wMd h_slices_Compact_I sMd) (lc := c_slices_Compact_I sF) (n := 1) Tryz.func102 Tryz.mx ?a ?b ?c ?d ?e ?f
 case f => have hw := w_slices_Compact_I (P := Tryz.prog) (F := sF) l hl; assumption
 case a | b | c => kernel_rfl
 case d | e => rfl
theorem k_morphism_images : K_morphism_images Tryz.prog sF := by
 unfold K_morphism_images
 rw [show sF "morphism.images" = 73 by kernel_rfl]
 intro l hl
 refine FC.of' (rs := [.t 2]) (H := wMd h_morphism_images sMd) (lc := c_morphism_images sF) (n := 1) Tryz.func73 Tryz.mx ?a ?b ?c ?d ?e ?f
 case f => have hw := w_morphism_images k_slices_Clone_I k_slices_Sort_I k_slices_Compact_I l hl; assumption
 case a | b | c => kernel_rfl
 case d | e => rfl
theorem k_morphism_Injective : K_morphism_Injective Tryz.prog sF := by
 unfold K_morphism_Injective
 rw [show sF "morphism.Injective" = 49 by kernel_rfl]
 intro a b m
 refine FC.of' (rs := [.t 6]) (H := wMd h_morphism_Injective sMd) (lc := c_morphism_Injective sF) (n := 3) Tryz.func49 Tryz.mx ?a ?b ?c ?d ?e ?f
 case f => have hw := w_morphism_Injective k_morphism_Valid k_morphism_images a b m; assumption
 case a | b | c => kernel_rfl
 case d | e => rfl
theorem k_morphism_Surjective : K_morphism_Surjective Tryz.prog sF := by
 unfold K_morphism_Surjective
 rw [show sF "morphism.Surjective" = 50 by kernel_rfl]
 intro a b m
 refine FC.of' (rs := [.t 6]) (H := wMd h_morphism_Surjective sMd) (lc := c_morphism_Surjective sF) (n := 3) Tryz.func50 Tryz.mx ?a ?b ?c ?d ?e ?f
 case f => have hw := w_morphism_Surjective k_morphism_Valid k_morphism_images a b m; assumption
 case a | b | c => kernel_rfl
 case d | e => rfl
theorem k_morphism_back : K_morphism_back Tryz.prog sF := by
 unfold K_morphism_back
 rw [show sF "morphism.back" = 51 by kernel_rfl]
 intro l hl hn hb
 refine FC.of' (rs := [.t 2]) (H := wMd h_morphism_back sMd) (lc := c_morphism_back sF) (n := 1) Tryz.func51 Tryz.mx ?a ?b ?c ?d ?e ?f
 case f => have hw := w_morphism_back (P := Tryz.prog) (F := sF) l hl hn hb; assumption
 case a | b | c => kernel_rfl
 case d | e => rfl
theorem k_morphism_Inverse : K_morphism_Inverse Tryz.prog sF := by
 unfold K_morphism_Inverse
 rw [show sF "morphism.Inverse" = 22 by kernel_rfl]
 intro a b m
 refine FC.of' (rs := [.c 6 true 2, .t 7]) (H := wMd h_morphism_Inverse sMd) (lc := c_morphism_Inverse sF) (n := 3) Tryz.func22 Tryz.mx ?a ?b ?c ?d ?e ?f
 case f => have hw := w_morphism_Inverse k_morphism_Valid k_morphism_Injective k_morphism_Surjective k_morphism_back a b m; assumption
 case a | b | c => kernel_rfl
 case d | e => rfl
theorem k_l08_IsoAll : K_l08_IsoAll Tryz.prog sF := by
 unfold K_l08_IsoAll
 rw [show sF "l08.IsoAll" = 6 by kernel_rfl]
 intro a b
 refine FC.of' (rs := [.t 4]) (H := wMd h_l08_IsoAll sMd) (lc := c_l08_IsoAll sF) (n := 2) Tryz.func6 Tryz.mx ?a ?b ?c ?d ?e ?f
 case f => have hw := w_l08_IsoAll k_l08_awake k_r08_Small k_l08_copied k_iso_All k_r08_All k_r06_SameAll k_morphism_Inverse k_morphism_Valid a b; assumption
 case a | b | c => kernel_rfl
 case d | e => rfl
end Go.Proofs.YtmkhlefohbfekaaGreat
