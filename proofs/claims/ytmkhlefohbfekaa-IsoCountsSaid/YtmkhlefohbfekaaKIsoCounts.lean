/- The functions of this seat, their contracts. Printed by seat.py. -/
import Derived.Shelf.SlSortCmp.NoneTotal
import Derived.Shelf.Sort.Plain
import Derived.Shelf.Slices.In.SortNone
import Derived.Test.YtmkhlefohbfekaaRows
import Derived.KernelRfl
import Derived.Test.YtmkhlefohbfekaaSpPa
import Derived.Test.YtmkhlefohbfekaaSpPb
import Derived.Test.YtmkhlefohbfekaaSpPc
import Derived.Test.YtmkhlefohbfekaaSpXa
import Derived.Test.YtmkhlefohbfekaaSpZa
namespace Go.Proofs.Ytmkhlefohbfekaa
open Go Go.Am
attribute [local irreducible] W
set_option linter.unusedVariables false
set_option linter.unusedSimpArgs false
def sF : String → Nat := lkS [("l08.IsoCounts", 5), ("l08.awake", 7), ("iso.Refine", 9), ("slices.Equal.I", 12), ("iso.Orbits", 14), ("r05.Made", 16), ("l08.other", 17), ("iso.All", 18), ("iso.Reason", 20), ("r08.SameDiffer", 23), ("graph.Valid", 25), ("iso.join", 26), ("iso.joined.stable", 27), ("iso.of", 33), ("iso.search.nodes", 34), ("iso.Orbits.1", 35), ("partition.Generate", 36), ("r05.Shuffle", 38), ("iso.both", 39), ("iso.shaped", 40), ("iso.free", 41), ("iso.rounds", 42), ("iso.Reason.1", 43), ("slices.Clone.int3", 44), ("slices.SortFunc.int3", 45), ("slices.Compare.I", 46), ("iso.count", 47), ("slices.Clone.I", 48), ("r05.SameInts", 49), ("slices.ContainsFunc.I", 52), ("graph.Valid.1", 53), ("graph.within", 54), ("slices.ContainsFunc.E", 55), ("graph.Valid.2", 56), ("graph.fits", 57), ("iso.colour", 58), ("iso.joined.first", 59), ("iso.joined.next", 60), ("iso.search.edges", 63), ("iso.search.fits", 64), ("partition.finest", 65), ("partition.unite", 66), ("partition.flat", 67), ("r05.Numbers", 69), ("cmp.Compare.I", 72), ("slices.IndexFunc.I", 73), ("slices.IndexFunc.E", 74), ("slices.CompactFunc.int3", 75), ("slices.BinarySearchFunc.int4", 76), ("slices.Concat.I", 77), ("slices.Contains.I", 78), ("iso.between", 79), ("partition.root", 80), ("cmp.isNaN.I", 93), ("slices.Grow.I", 94), ("slices.Index.I", 95), ("slices.Sort.I", 96)]
def sMd : Nat → List Md := lkM [(34, [.mp, .rd, .mp]), (42, [.rd, .rd, .mp]), (43, [.rd, .rd, .mp, .mp, .mp]), (45, [.mu, .rd]), (63, [.mp, .rd, .rd]), (66, [.mu, .rd, .rd]), (67, [.ow]), (75, [.ow, .rd]), (96, [.mu])]
def sMd1000000 : Nat → List Md := lkM [(1000000, [.rd]), (34, [.mp, .rd, .mp]), (42, [.rd, .rd, .mp]), (43, [.rd, .rd, .mp, .mp, .mp]), (45, [.mu, .rd]), (63, [.mp, .rd, .rd]), (66, [.mu, .rd, .rd]), (67, [.ow]), (75, [.ow, .rd]), (96, [.mu])]
def sMd1000001 : Nat → List Md := lkM [(1000001, [.rd]), (34, [.mp, .rd, .mp]), (42, [.rd, .rd, .mp]), (43, [.rd, .rd, .mp, .mp, .mp]), (45, [.mu, .rd]), (63, [.mp, .rd, .rd]), (66, [.mu, .rd, .rd]), (67, [.ow]), (75, [.ow, .rd]), (96, [.mu])]
theorem Try.mx : Try.prog.follows .mixedOrders = true := by kernel_rfl
theorem k_slices_IndexFunc_I : K_slices_IndexFunc_I Try.prog sF := by
 unfold K_slices_IndexFunc_I
 rw [show sF "slices.IndexFunc.I" = 73 by kernel_rfl]
 intro l hl g cs hcs p hg
 refine FC.of' (rs := [.t 4]) (H := wMd h_slices_IndexFunc_I sMd) (lc := c_slices_IndexFunc_I sF) (n := 2) Try.func73 Try.mx ?a ?b ?c ?d ?e ?f
 case f => have hw := w_slices_IndexFunc_I (P := Try.prog) (F := sF) l hl g cs hcs p hg; assumption
 case a | b | c => kernel_rfl
 case d => rfl
 case e => first | rfl | (simp only [List.all_cons, List.all_nil, Bool.and_true]; first | rfl | assumption | exact caps_ok hcs)
theorem k_slices_ContainsFunc_I : K_slices_ContainsFunc_I Try.prog sF := by
 unfold K_slices_ContainsFunc_I
 rw [show sF "slices.ContainsFunc.I" = 52 by kernel_rfl]
 intro l hl g cs hcs p hg
 refine FC.of' (rs := [.t 4]) (H := wMd h_slices_ContainsFunc_I sMd) (lc := c_slices_ContainsFunc_I sF) (n := 2) Try.func52 Try.mx ?a ?b ?c ?d ?e ?f
 case f => have hw := w_slices_ContainsFunc_I k_slices_IndexFunc_I l hl g cs hcs p hg; assumption
 case a | b | c => kernel_rfl
 case d => rfl
 case e => first | rfl | (simp only [List.all_cons, List.all_nil, Bool.and_true]; first | rfl | assumption | exact caps_ok hcs)
theorem k_slices_IndexFunc_E : K_slices_IndexFunc_E Try.prog sF := by
 unfold K_slices_IndexFunc_E
 rw [show sF "slices.IndexFunc.E" = 74 by kernel_rfl]
 intro l hl g cs hcs p hg
 refine FC.of' (rs := [.t 4]) (H := wMd h_slices_IndexFunc_E sMd) (lc := c_slices_IndexFunc_E sF) (n := 2) Try.func74 Try.mx ?a ?b ?c ?d ?e ?f
 case f => have hw := w_slices_IndexFunc_E (P := Try.prog) (F := sF) l hl g cs hcs p hg; assumption
 case a | b | c => kernel_rfl
 case d => rfl
 case e => first | rfl | (simp only [List.all_cons, List.all_nil, Bool.and_true]; first | rfl | assumption | exact caps_ok hcs)
theorem k_slices_ContainsFunc_E : K_slices_ContainsFunc_E Try.prog sF := by
 unfold K_slices_ContainsFunc_E
 rw [show sF "slices.ContainsFunc.E" = 55 by kernel_rfl]
 intro l hl g cs hcs p hg
 refine FC.of' (rs := [.t 4]) (H := wMd h_slices_ContainsFunc_E sMd) (lc := c_slices_ContainsFunc_E sF) (n := 2) Try.func55 Try.mx ?a ?b ?c ?d ?e ?f
 case f => have hw := w_slices_ContainsFunc_E k_slices_IndexFunc_E l hl g cs hcs p hg; assumption
 case a | b | c => kernel_rfl
 case d => rfl
 case e => first | rfl | (simp only [List.all_cons, List.all_nil, Bool.and_true]; first | rfl | assumption | exact caps_ok hcs)
theorem k_graph_within : K_graph_within Try.prog sF := by
 unfold K_graph_within
 rw [show sF "graph.within" = 54 by kernel_rfl]
 intro n m
 refine FC.of' (rs := [.t 4]) (H := wMd h_graph_within sMd) (lc := c_graph_within sF) (n := 2) Try.func54 Try.mx ?a ?b ?c ?d ?e ?f
 case f => have hw := w_graph_within (P := Try.prog) (F := sF) n m; assumption
 case a | b | c => kernel_rfl
 case d | e => rfl
theorem k_graph_Valid_1 : K_graph_Valid_1 Try.prog sF := by
 unfold K_graph_Valid_1
 rw [show sF "graph.Valid.1" = 53 by kernel_rfl]
 intro x
 refine FC.of' (rs := [.t 2]) (H := wMd h_graph_Valid_1 sMd) (lc := c_graph_Valid_1 sF) (n := 1) Try.func53 Try.mx ?a ?b ?c ?d ?e ?f
 case f => have hw := w_graph_Valid_1 k_graph_within x; assumption
 case a | b | c => kernel_rfl
 case d | e => rfl
theorem k_graph_fits : K_graph_fits Try.prog sF := by
 unfold K_graph_fits
 rw [show sF "graph.fits" = 57 by kernel_rfl]
 intro x n hn
 refine FC.of' (rs := [.t 4]) (H := wMd h_graph_fits sMd) (lc := c_graph_fits sF) (n := 2) Try.func57 Try.mx ?a ?b ?c ?d ?e ?f
 case f => have hw := w_graph_fits k_graph_within x n hn; assumption
 case a | b | c => kernel_rfl
 case d | e => rfl
theorem k_graph_Valid_2 : K_graph_Valid_2 Try.prog sF := by
 unfold K_graph_Valid_2
 rw [show sF "graph.Valid.2" = 56 by kernel_rfl]
 intro x ns es hn
 refine FC.of' (rs := [.t 3]) (H := wMd h_graph_Valid_2 sMd) (lc := c_graph_Valid_2 sF) (n := 2) Try.func56 Try.mx ?a ?b ?c ?d ?e ?f
 case f => have hw := w_graph_Valid_2 k_graph_fits x ns es hn; assumption
 case a | b | c => kernel_rfl
 case d | e => rfl
theorem k_graph_Valid : K_graph_Valid Try.prog sF := by
 unfold K_graph_Valid
 rw [show sF "graph.Valid" = 25 by kernel_rfl]
 intro g
 refine FC.of' (rs := [.t 2]) (H := wMd h_graph_Valid sMd) (lc := c_graph_Valid sF) (n := 1) Try.func25 Try.mx ?a ?b ?c ?d ?e ?f
 case f => have hw := w_graph_Valid k_slices_ContainsFunc_I k_slices_ContainsFunc_E k_graph_Valid_1 k_graph_Valid_2 g; assumption
 case a | b | c => kernel_rfl
 case d | e => rfl
theorem k_iso_join : K_iso_join Try.prog sF := by
 unfold K_iso_join
 rw [show sF "iso.join" = 26 by kernel_rfl]
 intro l hl hv
 refine FC.of' (rs := [.c 2 true 2]) (H := wMd h_iso_join sMd) (lc := c_iso_join sF) (n := 1) Try.func26 Try.mx ?a ?b ?c ?d ?e ?f
 case f => have hw := w_iso_join (P := Try.prog) (F := sF) l hl hv; assumption
 case a | b | c => kernel_rfl
 case d | e => rfl
theorem k_iso_joined_first : K_iso_joined_first Try.prog sF := by
 unfold K_iso_joined_first
 rw [show sF "iso.joined.first" = 59 by kernel_rfl]
 intro g hg
 refine FC.of' (rs := [.t 2]) (H := wMd h_iso_joined_first sMd) (lc := c_iso_joined_first sF) (n := 1) Try.func59 Try.mx ?a ?b ?c ?d ?e ?f
 case f => have hw := w_iso_joined_first (P := Try.prog) (F := sF) g hg; assumption
 case a | b | c => kernel_rfl
 case d | e => rfl
theorem k_slices_Clone_int3 : K_slices_Clone_int3 Try.prog sF := by
 unfold K_slices_Clone_int3
 rw [show sF "slices.Clone.int3" = 44 by kernel_rfl]
 intro l hl
 refine FC.of' (rs := [.t 2]) (H := wMd h_slices_Clone_int3 sMd) (lc := c_slices_Clone_int3 sF) (n := 1) Try.func44 Try.mx ?a ?b ?c ?d ?e ?f
 case f => have hw := w_slices_Clone_int3 (P := Try.prog) (F := sF) l hl; assumption
 case a | b | c => kernel_rfl
 case d | e => rfl
def SortFL_ren : Go.Shelf.Ren := ⟨fun | 6 => 45 | 15 => 71 | 14 => 70 | 28 => 91 | 29 => 92 | 20 => 83 | 21 => 84 | 22 => 85 | 23 => 86 | 24 => 87 | 25 => 88 | 26 => 89 | 27 => 90 | 46 => 98 | 47 => 99 | 48 => 100 | 49 => 101 | 50 => 102 | 57 => 105 | n => n, fun | 22 => 62 | 24 => 22 | 25 => 84 | 3 => 3 | 39 => 108 | 0 => 0 | 53 => 129 | 55 => 131 | 4 => 4 | 46 => 123 | 45 => 122 | 50 => 113 | 5 => 5 | 9 => 9 | 66 => 135 | 70 => 139 | 76 => 143 | 77 => 85 | n => n, fun | n => n⟩
theorem SortFL : Go.Proofs.SlLaysF.n6 Try.prog SortFL_ren := {
 mixed := by kernel_rfl,
 f6 := ⟨ "slices.SortFunc[[][]int,[]int]", by decide, Try.func45.trans (congrArg some (by kernel_rfl))⟩,
 f14 := ⟨ "slices.pdqsortCmpFunc[[]int]", by decide, Try.func70.trans (congrArg some (by kernel_rfl))⟩,
 f15 := Try.func71.trans (congrArg some (by kernel_rfl)),
 f20 := ⟨ "slices.insertionSortCmpFunc[[]int]", by decide, Try.func83.trans (congrArg some (by kernel_rfl))⟩,
 f21 := ⟨ "slices.heapSortCmpFunc[[]int]", by decide, Try.func84.trans (congrArg some (by kernel_rfl))⟩,
 f22 := ⟨ "slices.breakPatternsCmpFunc[[]int]", by decide, Try.func85.trans (congrArg some (by kernel_rfl))⟩,
 f23 := ⟨ "slices.choosePivotCmpFunc[[]int]", by decide, Try.func86.trans (congrArg some (by kernel_rfl))⟩,
 f24 := ⟨ "slices.reverseRangeCmpFunc[[]int]", by decide, Try.func87.trans (congrArg some (by kernel_rfl))⟩,
 f25 := ⟨ "slices.partialInsertionSortCmpFunc[[]int]", by decide, Try.func88.trans (congrArg some (by kernel_rfl))⟩,
 f26 := ⟨ "slices.partitionEqualCmpFunc[[]int]", by decide, Try.func89.trans (congrArg some (by kernel_rfl))⟩,
 f27 := ⟨ "slices.partitionCmpFunc[[]int]", by decide, Try.func90.trans (congrArg some (by kernel_rfl))⟩,
 f28 := Try.func91.trans (congrArg some (by kernel_rfl)),
 f29 := Try.func92.trans (congrArg some (by kernel_rfl)),
 f46 := ⟨ "slices.siftDownCmpFunc[[]int]", by decide, Try.func98.trans (congrArg some (by kernel_rfl))⟩,
 f47 := Try.func99.trans (congrArg some (by kernel_rfl)),
 f48 := Try.func100.trans (congrArg some (by kernel_rfl)),
 f49 := ⟨ "slices.medianAdjacentCmpFunc[[]int]", by decide, Try.func101.trans (congrArg some (by kernel_rfl))⟩,
 f50 := ⟨ "slices.medianCmpFunc[[]int]", by decide, Try.func102.trans (congrArg some (by kernel_rfl))⟩,
 f57 := ⟨ "slices.order2CmpFunc[[]int]", by decide, Try.func105.trans (congrArg some (by kernel_rfl))⟩,
 t0 := Try.underlying0,
 a0 := Try.isAgg0,
 z0 := Try.sizeOf0,
 v0 := Try.zeroValue0,
 t3 := Try.underlying3,
 a3 := Try.isAgg3,
 z3 := Try.sizeOf3,
 v3 := Try.zeroValue3,
 t4 := Try.underlying4,
 a4 := Try.isAgg4,
 z4 := Try.sizeOf4,
 v4 := Try.zeroValue4,
 t5 := Try.underlying5,
 a5 := Try.isAgg5,
 z5 := Try.sizeOf5,
 v5 := Try.zeroValue5,
 t9 := Try.underlying9,
 a9 := Try.isAgg9,
 z9 := Try.sizeOf9,
 v9 := Try.zeroValue9,
 t22 := Try.underlying62,
 a22 := Try.isAgg62,
 z22 := Try.sizeOf62,
 v22 := Try.zeroValue62,
 a24 := Try.isAgg22,
 z24 := Try.sizeOf22,
 t25 := Try.underlying84,
 a25 := Try.isAgg84,
 z25 := Try.sizeOf84,
 v25 := Try.zeroValue84,
 t39 := Try.underlying108,
 a39 := Try.isAgg108,
 z39 := Try.sizeOf108,
 v39 := Try.zeroValue108,
 t45 := Try.underlying122,
 a45 := Try.isAgg122,
 z45 := Try.sizeOf122,
 v45 := Try.zeroValue122,
 t46 := Try.underlying123,
 a46 := Try.isAgg123,
 z46 := Try.sizeOf123,
 v46 := Try.zeroValue123,
 t50 := Try.underlying113,
 a50 := Try.isAgg113,
 z50 := Try.sizeOf113,
 v50 := Try.zeroValue113,
 t53 := Try.underlying129,
 a53 := Try.isAgg129,
 z53 := Try.sizeOf129,
 v53 := Try.zeroValue129,
 t55 := Try.underlying131,
 a55 := Try.isAgg131,
 z55 := Try.sizeOf131,
 v55 := Try.zeroValue131,
 t66 := Try.underlying135,
 a66 := Try.isAgg135,
 z66 := Try.sizeOf135,
 v66 := Try.zeroValue135,
 t70 := Try.underlying139,
 a70 := Try.isAgg139,
 z70 := Try.sizeOf139,
 v70 := Try.zeroValue139,
 t76 := Try.underlying143,
 a76 := Try.isAgg143,
 z76 := Try.sizeOf143,
 v76 := Try.zeroValue143,
 t77 := Try.underlying85,
 a77 := Try.isAgg85,
 z77 := Try.sizeOf85,
 v77 := Try.zeroValue85 }
theorem k_slices_SortFunc_int3 : K_slices_SortFunc_int3 Try.prog sF := by
 unfold K_slices_SortFunc_int3
 rw [show sF "slices.SortFunc.int3" = 45 by kernel_rfl]
 intro l S g c hl hc hS1 hS hg
 have hb : (Try.f45.body.isSome) = true := by kernel_rfl
 obtain ⟨body, hb⟩ := Option.isSome_iff_exists.1 hb
 exact sortF_FC (callFunc_enter Try.func45 (by kernel_rfl) hb) (fun α _ enc h1 cf hO g cb blk off cap d w eg hcmp hH hblk hsz => Go.Proofs.Any.slices_SortFunc SortFL enc h1 cf hO g cb blk off cap d w eg hcmp hH hblk hsz) (fun p cap fv w => Go.Proofs.AnyF.slices_SortFunc_none { SortFL with } p cap fv w) l S g c hl hc hS1 hS hg
theorem k_slices_CompactFunc_int3 : K_slices_CompactFunc_int3 Try.prog sF := by
 unfold K_slices_CompactFunc_int3
 rw [show sF "slices.CompactFunc.int3" = 75 by kernel_rfl]
 intro l g hl hg
 refine FC.of' (rs := [.t 4]) (H := wMd h_slices_CompactFunc_int3 sMd) (lc := c_slices_CompactFunc_int3 sF) (n := 2) Try.func75 Try.mx ?a ?b ?c ?d ?e ?f
 case f => have hw := w_slices_CompactFunc_int3 (P := Try.prog) (F := sF) l g hl hg; assumption
 case a | b | c => kernel_rfl
 case d => rfl
 case e => first | rfl | (simp only [List.all_cons, List.all_nil, Bool.and_true]; first | rfl | assumption | exact caps_ok hcs)
theorem k_slices_BinarySearchFunc_int4 : K_slices_BinarySearchFunc_int4 Try.prog sF := by
 unfold K_slices_BinarySearchFunc_int4
 rw [show sF "slices.BinarySearchFunc.int4" = 76 by kernel_rfl]
 intro S t g hl hs hg
 refine FC.of' (rs := [.t 6, .t 7]) (H := wMd h_slices_BinarySearchFunc_int4 sMd) (lc := c_slices_BinarySearchFunc_int4 sF) (n := 3) Try.func76 Try.mx ?a ?b ?c ?d ?e ?f
 case f => have hw := w_slices_BinarySearchFunc_int4 (P := Try.prog) (F := sF) S t g hl hs hg; assumption
 case a | b | c => kernel_rfl
 case d => rfl
 case e => first | rfl | (simp only [List.all_cons, List.all_nil, Bool.and_true]; first | rfl | assumption | exact caps_ok hcs)
theorem k_cmp_isNaN_I : K_cmp_isNaN_I Try.prog sF := by
 unfold K_cmp_isNaN_I
 rw [show sF "cmp.isNaN.I" = 93 by kernel_rfl]
 intro x
 refine FC.of' (rs := [.t 2]) (H := wMd h_cmp_isNaN_I sMd) (lc := c_cmp_isNaN_I sF) (n := 1) Try.func93 Try.mx ?a ?b ?c ?d ?e ?f
 case f => have hw := w_cmp_isNaN_I (P := Try.prog) (F := sF) x; assumption
 case a | b | c => kernel_rfl
 case d | e => rfl
theorem k_cmp_Compare_I : K_cmp_Compare_I Try.prog sF := by
 unfold K_cmp_Compare_I
 rw [show sF "cmp.Compare.I" = 72 by kernel_rfl]
 intro x y
 refine FC.of' (rs := [.t 4]) (H := wMd h_cmp_Compare_I sMd) (lc := c_cmp_Compare_I sF) (n := 2) Try.func72 Try.mx ?a ?b ?c ?d ?e ?f
 case f => have hw := w_cmp_Compare_I k_cmp_isNaN_I x y; assumption
 case a | b | c => kernel_rfl
 case d | e => rfl
theorem k_slices_Compare_I : K_slices_Compare_I Try.prog sF := by
 unfold K_slices_Compare_I
 rw [show sF "slices.Compare.I" = 46 by kernel_rfl]
 intro a b h1 h2
 refine FC.of' (rs := [.t 4]) (H := wMd h_slices_Compare_I sMd) (lc := c_slices_Compare_I sF) (n := 2) Try.func46 Try.mx ?a ?b ?c ?d ?e ?f
 case f => have hw := w_slices_Compare_I k_cmp_Compare_I a b h1 h2; assumption
 case a | b | c => kernel_rfl
 case d | e => rfl
theorem k_slices_Equal_I : K_slices_Equal_I Try.prog sF := by
 unfold K_slices_Equal_I
 rw [show sF "slices.Equal.I" = 12 by kernel_rfl]
 intro a b hl
 refine FC.of' (rs := [.t 4]) (H := wMd h_slices_Equal_I sMd) (lc := c_slices_Equal_I sF) (n := 2) Try.func12 Try.mx ?a ?b ?c ?d ?e ?f
 case f => have hw := w_slices_Equal_I (P := Try.prog) (F := sF) a b hl; assumption
 case a | b | c => kernel_rfl
 case d | e => rfl
theorem k_iso_colour : K_iso_colour Try.prog sF := by
 unfold K_iso_colour
 rw [show sF "iso.colour" = 58 by kernel_rfl]
 intro l hl hx
 refine FC.of' (rs := [.t 2, .t 3]) (H := wMd h_iso_colour sMd) (lc := c_iso_colour sF) (n := 1) Try.func58 Try.mx ?a ?b ?c ?d ?e ?f
 case f => have hw := w_iso_colour k_slices_Clone_int3 k_slices_SortFunc_int3 k_slices_CompactFunc_int3 k_slices_BinarySearchFunc_int4 k_slices_Compare_I k_slices_Equal_I l hl hx; assumption
 case a | b | c => kernel_rfl
 case d | e => rfl
theorem k_slices_Grow_I : K_slices_Grow_I Try.prog sF := by
 unfold K_slices_Grow_I
 rw [show sF "slices.Grow.I" = 94 by kernel_rfl]
 intro n hn
 refine FC.of' (rs := [.t 4]) (H := wMd h_slices_Grow_I sMd) (lc := c_slices_Grow_I sF) (n := 2) Try.func94 Try.mx ?a ?b ?c ?d ?e ?f
 case f => have hw := w_slices_Grow_I (P := Try.prog) (F := sF) n hn; assumption
 case a | b | c => kernel_rfl
 case d | e => rfl
theorem k_slices_Concat_I : K_slices_Concat_I Try.prog sF := by
 unfold K_slices_Concat_I
 rw [show sF "slices.Concat.I" = 77 by kernel_rfl]
 intro l hl hx
 refine FC.of' (rs := [.t 2]) (H := wMd h_slices_Concat_I sMd) (lc := c_slices_Concat_I sF) (n := 1) Try.func77 Try.mx ?a ?b ?c ?d ?e ?f
 case f => have hw := w_slices_Concat_I k_slices_Grow_I l hl hx; assumption
 case a | b | c => kernel_rfl
 case d | e => rfl
theorem k_iso_joined_next : K_iso_joined_next Try.prog sF := by
 unfold K_iso_joined_next
 rw [show sF "iso.joined.next" = 60 by kernel_rfl]
 intro g c hi hc
 refine FC.of' (rs := [.t 4]) (H := wMd h_iso_joined_next sMd1000000) (lc := c_iso_joined_next sF) (n := 2) Try.func60 Try.mx ?a ?b ?c ?d ?e ?f
 case f => have hw := w_iso_joined_next k_slices_SortFunc_int3 k_slices_Compare_I k_slices_Concat_I g c hi hc; assumption
 case a | b | c => kernel_rfl
 case d | e => rfl
theorem k_iso_joined_stable : K_iso_joined_stable Try.prog sF := by
 unfold K_iso_joined_stable
 rw [show sF "iso.joined.stable" = 27 by kernel_rfl]
 intro g hi
 refine FC.ofF (rs := [.t 2]) (H := wMd h_iso_joined_stable sMd) (lc := c_iso_joined_stable sF) (n := 1) Try.func27 Try.mx ?a ?b ?c ?d ?e ?f
 case f => have hw := w_iso_joined_stable k_iso_joined_first k_iso_colour k_iso_joined_next g hi; assumption
 case a | b | c => kernel_rfl
 case d | e => rfl
theorem k_iso_Refine : K_iso_Refine Try.prog sF := by
 unfold K_iso_Refine
 rw [show sF "iso.Refine" = 9 by kernel_rfl]
 intro g
 refine FC.ofF (rs := [.t 2, .t 3]) (H := wMd h_iso_Refine sMd) (lc := c_iso_Refine sF) (n := 1) Try.func9 Try.mx ?a ?b ?c ?d ?e ?f
 case f => have hw := w_iso_Refine k_graph_Valid k_iso_join k_iso_joined_stable g; assumption
 case a | b | c => kernel_rfl
 case d | e => rfl
theorem k_iso_both : K_iso_both Try.prog sF := by
 unfold K_iso_both
 rw [show sF "iso.both" = 39 by kernel_rfl]
 intro a b
 refine FC.of' (rs := [.t 4]) (H := wMd h_iso_both sMd) (lc := c_iso_both sF) (n := 2) Try.func39 Try.mx ?a ?b ?c ?d ?e ?f
 case f => have hw := w_iso_both k_graph_Valid a b; assumption
 case a | b | c => kernel_rfl
 case d | e => rfl
theorem k_iso_shaped : K_iso_shaped Try.prog sF := by
 unfold K_iso_shaped
 rw [show sF "iso.shaped" = 40 by kernel_rfl]
 intro a b
 refine FC.of' (rs := [.t 4]) (H := wMd h_iso_shaped sMd) (lc := c_iso_shaped sF) (n := 2) Try.func40 Try.mx ?a ?b ?c ?d ?e ?f
 case f => have hw := w_iso_shaped (P := Try.prog) (F := sF) a b; assumption
 case a | b | c => kernel_rfl
 case d | e => rfl
theorem k_iso_of : K_iso_of Try.prog sF := by
 unfold K_iso_of
 rw [show sF "iso.of" = 33 by kernel_rfl]
 intro a b m va vb
 refine FC.ofF (rs := [.t 6]) (H := wMd h_iso_of sMd) (lc := c_iso_of sF) (n := 3) Try.func33 Try.mx ?a ?b ?c ?d ?e ?f
 case f => have hw := w_iso_of k_iso_join k_iso_joined_stable a b m va vb; assumption
 case a | b | c => kernel_rfl
 case d | e => rfl
theorem k_slices_Clone_I : K_slices_Clone_I Try.prog sF := by
 unfold K_slices_Clone_I
 rw [show sF "slices.Clone.I" = 48 by kernel_rfl]
 intro l hl
 refine FC.of' (rs := [.t 2]) (H := wMd h_slices_Clone_I sMd) (lc := c_slices_Clone_I sF) (n := 1) Try.func48 Try.mx ?a ?b ?c ?d ?e ?f
 case f => have hw := w_slices_Clone_I (P := Try.prog) (F := sF) l hl; assumption
 case a | b | c => kernel_rfl
 case d | e => rfl
theorem k_slices_Index_I : K_slices_Index_I Try.prog sF := by
 unfold K_slices_Index_I
 rw [show sF "slices.Index.I" = 95 by kernel_rfl]
 intro l x hl
 refine FC.of' (rs := [.t 4]) (H := wMd h_slices_Index_I sMd) (lc := c_slices_Index_I sF) (n := 2) Try.func95 Try.mx ?a ?b ?c ?d ?e ?f
 case f => have hw := w_slices_Index_I (P := Try.prog) (F := sF) l x hl; assumption
 case a | b | c => kernel_rfl
 case d | e => rfl
theorem k_slices_Contains_I : K_slices_Contains_I Try.prog sF := by
 unfold K_slices_Contains_I
 rw [show sF "slices.Contains.I" = 78 by kernel_rfl]
 intro l x hl
 refine FC.of' (rs := [.t 4]) (H := wMd h_slices_Contains_I sMd) (lc := c_slices_Contains_I sF) (n := 2) Try.func78 Try.mx ?a ?b ?c ?d ?e ?f
 case f => have hw := w_slices_Contains_I k_slices_Index_I l x hl; assumption
 case a | b | c => kernel_rfl
 case d | e => rfl
theorem k_iso_search_edges : K_iso_search_edges Try.prog sF := by
 unfold K_iso_search_edges
 intro n
 induction n using Nat.strongRecOn with
 | ind n ih =>
 unfold KA_iso_search_edges
 rw [show sF "iso.search.edges" = 63 by kernel_rfl]
 intro a b c m ns es out va vb h1 h2 h3 h4 h5
 refine FC.ofO (rs := []) (H := wMd h_iso_search_edges sMd) (lc := c_iso_search_edges sF) (n := 3) (outs := [0]) Try.func63 Try.mx ?a ?b ?c ?d ?e ?f
 case f => have hw := w_iso_search_edges k_slices_Clone_I k_slices_Contains_I n ih a b c m ns es out va vb h1 h2 h3 h4 h5; assumption
 case a | b | c => kernel_rfl
 case d | e => rfl
def SortL_ren : Go.Shelf.Ren := ⟨fun | 189 => 96 | 125 => 71 | 257 => 103 | 128 => 91 | 129 => 92 | 294 => 106 | 295 => 107 | 296 => 108 | 297 => 109 | 298 => 110 | 299 => 111 | 216 => 112 | 300 => 113 | 301 => 114 | 328 => 115 | 329 => 99 | 330 => 100 | 331 => 116 | 332 => 117 | 215 => 93 | 343 => 118 | n => n, fun | 28 => 22 | 3 => 3 | 46 => 108 | 0 => 0 | 51 => 129 | 53 => 131 | 4 => 4 | 183 => 123 | 182 => 122 | 131 => 113 | 5 => 5 | 9 => 9 | 218 => 135 | 222 => 139 | 228 => 143 | 229 => 85 | n => n, fun | n => n⟩
theorem SortL : Go.Proofs.Lays.n189 Try.prog SortL_ren := {
 mixed := by kernel_rfl,
 f125 := Try.func71.trans (congrArg some (by kernel_rfl)),
 f128 := Try.func91.trans (congrArg some (by kernel_rfl)),
 f129 := Try.func92.trans (congrArg some (by kernel_rfl)),
 f189 := Try.func96.trans (congrArg some (by kernel_rfl)),
 f215 := Try.func93.trans (congrArg some (by kernel_rfl)),
 f216 := Try.func112.trans (congrArg some (by kernel_rfl)),
 f257 := Try.func103.trans (congrArg some (by kernel_rfl)),
 f294 := Try.func106.trans (congrArg some (by kernel_rfl)),
 f295 := Try.func107.trans (congrArg some (by kernel_rfl)),
 f296 := Try.func108.trans (congrArg some (by kernel_rfl)),
 f297 := Try.func109.trans (congrArg some (by kernel_rfl)),
 f298 := Try.func110.trans (congrArg some (by kernel_rfl)),
 f299 := Try.func111.trans (congrArg some (by kernel_rfl)),
 f300 := Try.func113.trans (congrArg some (by kernel_rfl)),
 f301 := Try.func114.trans (congrArg some (by kernel_rfl)),
 f328 := Try.func115.trans (congrArg some (by kernel_rfl)),
 f329 := Try.func99.trans (congrArg some (by kernel_rfl)),
 f330 := Try.func100.trans (congrArg some (by kernel_rfl)),
 f331 := Try.func116.trans (congrArg some (by kernel_rfl)),
 f332 := Try.func117.trans (congrArg some (by kernel_rfl)),
 f343 := Try.func118.trans (congrArg some (by kernel_rfl)),
 t0 := Try.underlying0,
 a0 := Try.isAgg0,
 z0 := Try.sizeOf0,
 v0 := Try.zeroValue0,
 t3 := Try.underlying3,
 a3 := Try.isAgg3,
 z3 := Try.sizeOf3,
 v3 := Try.zeroValue3,
 t4 := Try.underlying4,
 a4 := Try.isAgg4,
 z4 := Try.sizeOf4,
 v4 := Try.zeroValue4,
 t5 := Try.underlying5,
 a5 := Try.isAgg5,
 z5 := Try.sizeOf5,
 v5 := Try.zeroValue5,
 t9 := Try.underlying9,
 a9 := Try.isAgg9,
 z9 := Try.sizeOf9,
 v9 := Try.zeroValue9,
 t28 := Try.underlying22,
 a28 := Try.isAgg22,
 z28 := Try.sizeOf22,
 v28 := Try.zeroValue22,
 t46 := Try.underlying108,
 a46 := Try.isAgg108,
 z46 := Try.sizeOf108,
 v46 := Try.zeroValue108,
 t51 := Try.underlying129,
 a51 := Try.isAgg129,
 z51 := Try.sizeOf129,
 v51 := Try.zeroValue129,
 t53 := Try.underlying131,
 a53 := Try.isAgg131,
 z53 := Try.sizeOf131,
 v53 := Try.zeroValue131,
 t131 := Try.underlying113,
 a131 := Try.isAgg113,
 z131 := Try.sizeOf113,
 v131 := Try.zeroValue113,
 t182 := Try.underlying122,
 a182 := Try.isAgg122,
 z182 := Try.sizeOf122,
 v182 := Try.zeroValue122,
 t183 := Try.underlying123,
 a183 := Try.isAgg123,
 z183 := Try.sizeOf123,
 v183 := Try.zeroValue123,
 t218 := Try.underlying135,
 a218 := Try.isAgg135,
 z218 := Try.sizeOf135,
 v218 := Try.zeroValue135,
 t222 := Try.underlying139,
 a222 := Try.isAgg139,
 z222 := Try.sizeOf139,
 v222 := Try.zeroValue139,
 t228 := Try.underlying143,
 a228 := Try.isAgg143,
 z228 := Try.sizeOf143,
 v228 := Try.zeroValue143,
 t229 := Try.underlying85,
 a229 := Try.isAgg85,
 z229 := Try.sizeOf85,
 v229 := Try.zeroValue85 }
theorem k_slices_Sort_I : K_slices_Sort_I Try.prog sF := by
 unfold K_slices_Sort_I
 rw [show sF "slices.Sort.I" = 96 by kernel_rfl]
 intro l hl
 have hb : (Try.f96.body.isSome) = true := by kernel_rfl
 obtain ⟨body, hb⟩ := Option.isSome_iff_exists.1 hb
 exact sort_FC (callFunc_enter Try.func96 (by kernel_rfl) hb) (fun blk off cap zs w h1 h2 h3 => Go.Proofs.Any.slices_Sort_int SortL blk off cap zs w h1 h2 h3) (fun p cap w => Go.Proofs.Any.slices_Sort_int_none SortL p cap w) l hl
theorem k_iso_between : K_iso_between Try.prog sF := by
 unfold K_iso_between
 rw [show sF "iso.between" = 79 by kernel_rfl]
 intro g f t hg
 refine FC.of' (rs := [.t 6]) (H := wMd h_iso_between sMd) (lc := c_iso_between sF) (n := 3) Try.func79 Try.mx ?a ?b ?c ?d ?e ?f
 case f => have hw := w_iso_between k_slices_Sort_I g f t hg; assumption
 case a | b | c => kernel_rfl
 case d | e => rfl
theorem k_iso_search_fits : K_iso_search_fits Try.prog sF := by
 unfold K_iso_search_fits
 rw [show sF "iso.search.fits" = 64 by kernel_rfl]
 intro a b c m out ns n h0 h1 h2 h3 h4 h5 h6 h7
 refine FC.of' (rs := [.t 6]) (H := wMd h_iso_search_fits sMd) (lc := c_iso_search_fits sF) (n := 3) Try.func64 Try.mx ?a ?b ?c ?d ?e ?f
 case f => have hw := w_iso_search_fits k_slices_Contains_I k_iso_between k_slices_Equal_I a b c m out ns n h0 h1 h2 h3 h4 h5 h6 h7; assumption
 case a | b | c => kernel_rfl
 case d | e => rfl
theorem k_iso_search_nodes : K_iso_search_nodes Try.prog sF := by
 unfold K_iso_search_nodes
 intro n
 induction n using Nat.strongRecOn with
 | ind n ih =>
 unfold KA_iso_search_nodes
 rw [show sF "iso.search.nodes" = 34 by kernel_rfl]
 intro a b c m ns out g bs al hal va vb h0 h2 h3 h4 h5
 refine FC.ofO (rs := []) (H := wMd h_iso_search_nodes sMd) (lc := c_iso_search_nodes sF) (n := 3) (outs := [0, 2]) Try.func34 Try.mx ?a ?b ?c ?d ?e ?f
 case f => have hw := w_iso_search_nodes k_slices_Clone_I k_iso_search_edges k_iso_search_fits n ih a b c m ns out g bs al hal va vb h0 h2 h3 h4 h5; assumption
 case a | b | c => kernel_rfl
 case d => rfl
 case e => first | rfl | exact hal.ok1 | exact rounds_ok (hp s)
theorem k_iso_free : K_iso_free Try.prog sF := by
 unfold K_iso_free
 rw [show sF "iso.free" = 41 by kernel_rfl]
 intro i n
 refine FC.of' (rs := [.t 4]) (H := wMd h_iso_free sMd) (lc := c_iso_free sF) (n := 2) Try.func41 Try.mx ?a ?b ?c ?d ?e ?f
 case f => have hw := w_iso_free (P := Try.prog) (F := sF) i n; assumption
 case a | b | c => kernel_rfl
 case d | e => rfl
theorem k_iso_All : K_iso_All Try.prog sF := by
 unfold K_iso_All
 rw [show sF "iso.All" = 18 by kernel_rfl]
 intro a b
 refine FC.of' (rs := [.t 4, .t 5]) (H := wMd h_iso_All sMd) (lc := c_iso_All sF) (n := 2) Try.func18 Try.mx ?a ?b ?c ?d ?e ?f
 case f => have hw := w_iso_All k_iso_both k_iso_shaped k_iso_of k_iso_search_nodes k_iso_free a b; assumption
 case a | b | c => kernel_rfl
 case d | e => rfl
theorem k_iso_Orbits_1 : K_iso_Orbits_1 Try.prog sF := by
 unfold K_iso_Orbits_1
 rw [show sF "iso.Orbits.1" = 35 by kernel_rfl]
 intro i n u v
 refine FC.of' (rs := [.t 6]) (H := wMd h_iso_Orbits_1 sMd) (lc := c_iso_Orbits_1 sF) (n := 4) Try.func35 Try.mx ?a ?b ?c ?d ?e ?f
 case f => have hw := w_iso_Orbits_1 (P := Try.prog) (F := sF) i n u v; assumption
 case a | b | c => kernel_rfl
 case d | e => rfl
theorem k_partition_finest : K_partition_finest Try.prog sF := by
 unfold K_partition_finest
 rw [show sF "partition.finest" = 65 by kernel_rfl]
 intro n hn
 refine FC.of' (rs := [.t 2]) (H := wMd h_partition_finest sMd) (lc := c_partition_finest sF) (n := 1) Try.func65 Try.mx ?a ?b ?c ?d ?e ?f
 case f => have hw := w_partition_finest (P := Try.prog) (F := sF) n hn; assumption
 case a | b | c => kernel_rfl
 case d | e => rfl
theorem k_partition_root : K_partition_root Try.prog sF := by
 unfold K_partition_root
 rw [show sF "partition.root" = 80 by kernel_rfl]
 intro p r i h hl hi
 refine FC.of' (rs := [.t 4]) (H := wMd h_partition_root sMd) (lc := c_partition_root sF) (n := 2) Try.func80 Try.mx ?a ?b ?c ?d ?e ?f
 case f => have hw := w_partition_root (P := Try.prog) (F := sF) p r i h hl hi; assumption
 case a | b | c => kernel_rfl
 case d | e => rfl
theorem k_partition_unite : K_partition_unite Try.prog sF := by
 unfold K_partition_unite
 rw [show sF "partition.unite" = 66 by kernel_rfl]
 intro p r a b h hl ha hb
 refine FC.ofO (rs := []) (H := wMd h_partition_unite sMd) (lc := c_partition_unite sF) (n := 3) (outs := [0]) Try.func66 Try.mx ?a ?b ?c ?d ?e ?f
 case f => have hw := w_partition_unite k_partition_root p r a b h hl ha hb; assumption
 case a | b | c => kernel_rfl
 case d | e => rfl
theorem k_partition_flat : K_partition_flat Try.prog sF := by
 unfold K_partition_flat
 rw [show sF "partition.flat" = 67 by kernel_rfl]
 intro p r h hl
 refine FC.of' (rs := [.t 2]) (H := wMd h_partition_flat sMd) (lc := c_partition_flat sF) (n := 1) Try.func67 Try.mx ?a ?b ?c ?d ?e ?f
 case f => have hw := w_partition_flat k_partition_root p r h hl; assumption
 case a | b | c => kernel_rfl
 case d | e => rfl
theorem k_partition_Generate : K_partition_Generate Try.prog sF := by
 unfold K_partition_Generate
 rw [show sF "partition.Generate" = 36 by kernel_rfl]
 intro n l hn hl hp
 refine FC.of' (rs := [.t 4, .t 5]) (H := wMd h_partition_Generate sMd) (lc := c_partition_Generate sF) (n := 2) Try.func36 Try.mx ?a ?b ?c ?d ?e ?f
 case f => have hw := w_partition_Generate k_partition_finest k_partition_unite k_partition_flat n l hn hl hp; assumption
 case a | b | c => kernel_rfl
 case d | e => rfl
theorem k_iso_Orbits : K_iso_Orbits Try.prog sF := by
 unfold K_iso_Orbits
 rw [show sF "iso.Orbits" = 14 by kernel_rfl]
 intro g
 refine FC.of' (rs := [.t 2, .t 3]) (H := wMd h_iso_Orbits sMd) (lc := c_iso_Orbits sF) (n := 1) Try.func14 Try.mx ?a ?b ?c ?d ?e ?f
 case f => have hw := w_iso_Orbits k_graph_Valid k_iso_of k_iso_search_nodes k_iso_Orbits_1 k_partition_Generate g; assumption
 case a | b | c => kernel_rfl
 case d | e => rfl
theorem k_iso_rounds : K_iso_rounds Try.prog sF := by
 unfold K_iso_rounds
 rw [show sF "iso.rounds" = 42 by kernel_rfl]
 intro σ c1 c2 c3 f g a b va vb hp hg s
 refine FC.ofO (rs := []) (H := wMd h_iso_rounds sMd1000001) (lc := c_iso_rounds sF) (n := 3) (outs := [2]) Try.func42 Try.mx ?a ?b ?c ?d ?e ?f
 case f => have hw := w_iso_rounds k_iso_join k_iso_joined_first k_iso_colour k_iso_joined_next σ c1 c2 c3 f g a b va vb hp hg s; assumption
 case a | b | c => kernel_rfl
 case d => rfl
 case e => first | rfl | exact hal.ok1 | exact rounds_ok (hp s)
theorem k_iso_count : K_iso_count Try.prog sF := by
 unfold K_iso_count
 rw [show sF "iso.count" = 47 by kernel_rfl]
 intro l k x hl hy
 refine FC.of' (rs := [.t 6, .t 7]) (H := wMd h_iso_count sMd) (lc := c_iso_count sF) (n := 3) Try.func47 Try.mx ?a ?b ?c ?d ?e ?f
 case f => have hw := w_iso_count k_slices_Equal_I l k x hl hy; assumption
 case a | b | c => kernel_rfl
 case d | e => rfl
theorem k_iso_Reason_1 : K_iso_Reason_1 Try.prog sF := by
 unfold K_iso_Reason_1
 rw [show sF "iso.Reason.1" = 43 by kernel_rfl]
 intro l r a d b h1 h2 h3 hy
 refine FC.ofFO (rs := [.t 7]) (H := wMd h_iso_Reason_1 sMd) (lc := c_iso_Reason_1 sF) (n := 5) (outs := [2, 3, 4]) Try.func43 Try.mx ?a ?b ?c ?d ?e ?f
 case f => have hw := w_iso_Reason_1 k_slices_Clone_int3 k_slices_SortFunc_int3 k_slices_Compare_I k_iso_count k_slices_Clone_I l r a d b h1 h2 h3 hy; assumption
 case a | b | c => kernel_rfl
 case d | e => rfl
theorem k_iso_Reason : K_iso_Reason Try.prog sF := by
 unfold K_iso_Reason
 rw [show sF "iso.Reason" = 20 by kernel_rfl]
 intro a b
 refine FC.ofF (rs := [.c 4 true 4, .t 5]) (H := wMd h_iso_Reason sMd) (lc := c_iso_Reason sF) (n := 2) Try.func20 Try.mx ?a ?b ?c ?d ?e ?f
 case f => have hw := w_iso_Reason k_iso_both k_iso_rounds k_iso_Reason_1 a b; assumption
 case a | b | c => kernel_rfl
 case d | e => rfl
theorem k_r05_SameInts : K_r05_SameInts Try.prog sF := by
 unfold K_r05_SameInts
 rw [show sF "r05.SameInts" = 49 by kernel_rfl]
 intro a b hl
 refine FC.of' (rs := [.t 4]) (H := wMd h_r05_SameInts sMd) (lc := c_r05_SameInts sF) (n := 2) Try.func49 Try.mx ?a ?b ?c ?d ?e ?f
 case f => have hw := w_r05_SameInts (P := Try.prog) (F := sF) a b hl; assumption
 case a | b | c => kernel_rfl
 case d | e => rfl
theorem k_r08_SameDiffer : K_r08_SameDiffer Try.prog sF := by
 unfold K_r08_SameDiffer
 rw [show sF "r08.SameDiffer" = 23 by kernel_rfl]
 intro d e hl
 refine FC.of' (rs := [.t 4]) (H := wMd h_r08_SameDiffer sMd) (lc := c_r08_SameDiffer sF) (n := 2) Try.func23 Try.mx ?a ?b ?c ?d ?e ?f
 case f => have hw := w_r08_SameDiffer k_r05_SameInts d e hl; assumption
 case a | b | c => kernel_rfl
 case d | e => rfl
theorem k_l08_awake : K_l08_awake Try.prog sF := by
 unfold K_l08_awake
 rw [show sF "l08.awake" = 7 by kernel_rfl]
 refine FC.of' (rs := [.t 0]) (H := wMd h_l08_awake sMd) (lc := c_l08_awake sF) (n := 0) Try.func7 Try.mx ?a ?b ?c ?d ?e ?f
 case f => have hw := w_l08_awake k_iso_Refine k_iso_All k_iso_Orbits k_iso_Reason k_slices_Equal_I k_r08_SameDiffer; assumption
 case a | b | c => kernel_rfl
 case d | e => rfl
theorem k_r05_Made : K_r05_Made Try.prog sF := by
 unfold K_r05_Made
 rw [show sF "r05.Made" = 16 by kernel_rfl]
 intro x hx h1 h2
 refine FC.of' (rs := [.c 2 true 2]) (H := wMd h_r05_Made sMd) (lc := c_r05_Made sF) (n := 1) Try.func16 Try.mx ?a ?b ?c ?d ?e ?f
 case f => have hw := w_r05_Made (P := Try.prog) (F := sF) x hx h1 h2; assumption
 case a | b | c => kernel_rfl
 case d | e => rfl
theorem k_r05_Numbers : K_r05_Numbers Try.prog sF := by
 unfold K_r05_Numbers
 rw [show sF "r05.Numbers" = 69 by kernel_rfl]
 intro f n h0 h1 h2
 refine FC.of' (rs := [.t 4]) (H := wMd h_r05_Numbers sMd) (lc := c_r05_Numbers sF) (n := 2) Try.func69 Try.mx ?a ?b ?c ?d ?e ?f
 case f => have hw := w_r05_Numbers (P := Try.prog) (F := sF) f n h0 h1 h2; assumption
 case a | b | c => kernel_rfl
 case d | e => rfl
theorem k_r05_Shuffle : K_r05_Shuffle Try.prog sF := by
 unfold K_r05_Shuffle
 rw [show sF "r05.Shuffle" = 38 by kernel_rfl]
 intro n cs h1 h2 h3
 refine FC.of' (rs := [.t 4]) (H := wMd h_r05_Shuffle sMd) (lc := c_r05_Shuffle sF) (n := 2) Try.func38 Try.mx ?a ?b ?c ?d ?e ?f
 case f => have hw := w_r05_Shuffle k_r05_Numbers n cs h1 h2 h3; assumption
 case a | b | c => kernel_rfl
 case d | e => rfl
theorem k_l08_other : K_l08_other Try.prog sF := by
 unfold K_l08_other
 rw [show sF "l08.other" = 17 by kernel_rfl]
 intro g cs hg h1 h2
 refine FC.of' (rs := [.c 4 true 2, .c 5 true 2]) (H := wMd h_l08_other sMd) (lc := c_l08_other sF) (n := 2) Try.func17 Try.mx ?a ?b ?c ?d ?e ?f
 case f => have hw := w_l08_other k_r05_Shuffle g cs hg h1 h2; assumption
 case a | b | c => kernel_rfl
 case d | e => rfl
theorem k_l08_IsoCounts : K_l08_IsoCounts Try.prog sF := by
 unfold K_l08_IsoCounts
 rw [show sF "l08.IsoCounts" = 5 by kernel_rfl]
 intro x cs hx l1 l2 l3 hb
 refine FC.of' (rs := [.t 4]) (H := wMd h_l08_IsoCounts sMd) (lc := c_l08_IsoCounts sF) (n := 2) Try.func5 Try.mx ?a ?b ?c ?d ?e ?f
 case f => have hw := w_l08_IsoCounts k_l08_awake k_r05_Made k_l08_other k_iso_All k_iso_Orbits k_iso_Refine x cs hx l1 l2 l3 hb; assumption
 case a | b | c => kernel_rfl
 case d | e => rfl
end Go.Proofs.Ytmkhlefohbfekaa
