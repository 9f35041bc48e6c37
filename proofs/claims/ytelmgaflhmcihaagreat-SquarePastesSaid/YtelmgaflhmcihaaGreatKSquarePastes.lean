/- The functions of this seat, their contracts. Printed by seat.py. -/
import Derived.Shelf.Sort.Plain
import Derived.Shelf.Slices.In.SortNone
import Derived.Test.YtelmgaflhmcihaaGreatRows
import Derived.KernelRfl
import Derived.Test.YtelmgaflhmcihaaGreatSpPa
import Derived.Test.YtelmgaflhmcihaaGreatSpPb
import Derived.Test.YtelmgaflhmcihaaGreatSpPc
import Derived.Test.YtelmgaflhmcihaaGreatSpPd
import Derived.Test.YtelmgaflhmcihaaGreatSpPe
import Derived.Test.YtelmgaflhmcihaaGreatSpXa
import Derived.Test.YtelmgaflhmcihaaGreatSpXb
namespace Go.Proofs.YtelmgaflhmcihaaGreat
open Go Go.Am
attribute [local irreducible] W
set_option linter.unusedVariables false
set_option linter.unusedSimpArgs false
def sF : String → Nat := lkS [("l14.SquarePastes", 8), ("l14.awake", 11), ("square.Initial", 14), ("slices.Clone.I", 15), ("square.Kind", 18), ("r14.Glued", 19), ("r10.Made", 20), ("morphism.Injective", 21), ("r05.Made", 22), ("r10.Grown", 23), ("slices.Index.I", 25), ("slices.Contains.I", 26), ("square.Paste", 32), ("r06.Then", 34), ("r05.Same", 38), ("morphism.Valid", 40), ("slices.Sort.I", 41), ("subgraph.Extract", 42), ("square.copied", 43), ("square.arrow", 44), ("r06.Valid", 45), ("r05.Copied", 49), ("r06.Of", 50), ("square.valid", 52), ("square.commutes", 53), ("pushout.Of", 54), ("pullback.Of", 55), ("pushout.Check", 56), ("pullback.Check", 57), ("r10.Of", 58), ("morphism.images", 59), ("r06.Image", 60), ("r05.Union", 66), ("square.same", 72), ("morphism.Same", 73), ("square.then", 74), ("r06.Through", 75), ("pullback.Mediate", 77), ("r05.SameInts", 80), ("graph.Valid", 82), ("subgraph.Valid", 85), ("slices.BinarySearch.I", 86), ("slices.Clone.E", 87), ("r05.Valid", 88), ("r02.Finest", 90), ("pushout.span", 93), ("pushout.glue", 94), ("pullback.of", 95), ("pullback.sides", 96), ("pushout.Mediate", 97), ("morphism.Surjective", 98), ("r10.Span", 99), ("r10.glue", 100), ("slices.Compact.I", 101), ("r06.numbers", 102), ("r02.Merge", 103), ("r02.Quotient", 104), ("r05.Numbers", 106), ("slices.Equal.I", 114), ("slices.Equal.E", 115), ("square.follow", 116), ("pullback.meet", 117), ("slices.ContainsFunc.I", 119), ("graph.Valid.1", 120), ("graph.within", 121), ("slices.ContainsFunc.E", 122), ("graph.Valid.2", 123), ("graph.fits", 124), ("cmp.Less.I", 131), ("subgraph.part", 136), ("slices.isNaN.I", 137), ("r05.kind", 138), ("r05.right", 139), ("graph.Union", 140), ("pushout.quotient", 141), ("pushout.pairs", 142), ("pushout.then", 143), ("pullback.given", 144), ("pullback.pairs", 145), ("slices.Index.apiPair", 146), ("pushout.filled", 147), ("r02.Generate", 148), ("r10.pairs", 149), ("r10.Quotient", 150), ("r02.one", 151), ("slices.IndexFunc.I", 156), ("slices.IndexFunc.E", 157), ("cmp.isNaN.I", 163), ("subgraph.list", 164), ("subgraph.has", 165), ("slices.Concat.I", 166), ("graph.numbers", 167), ("partition.Generate", 168), ("partition.Quotient", 169), ("pushout.follow", 170), ("r02.Valid", 171), ("slices.Grow.I", 173), ("partition.finest", 174), ("partition.unite", 175), ("partition.flat", 176), ("partition.one", 177), ("partition.root", 178), ("partition.right", 179)]
def sMd : Nat → List Md := lkM [(41, [.mu]), (101, [.ow]), (175, [.mu, .rd, .rd]), (176, [.ow])]
theorem Tryz.mx : Tryz.prog.follows .mixedOrders = true := by kernel_rfl
theorem k_slices_IndexFunc_I : K_slices_IndexFunc_I Tryz.prog sF := by
 unfold K_slices_IndexFunc_I
 rw [show sF "slices.IndexFunc.I" = 156 by kernel_rfl]
 intro l hl g cs hcs p hg
 refine FC.of' (rs := [.t 4]) (H := wMd h_slices_IndexFunc_I sMd) (lc := c_slices_IndexFunc_I sF) (n := 2) Tryz.func156 Tryz.mx ?a ?b ?c ?d ?e ?f
 case f => have hw := w_slices_IndexFunc_I (P := Tryz.prog) (F := sF) l hl g cs hcs p hg; assumption
 case a | b | c => kernel_rfl
 case d => rfl
 case e => first | rfl | (simp only [List.all_cons, List.all_nil, Bool.and_true]; first | rfl | assumption | exact caps_ok hcs)
theorem k_slices_ContainsFunc_I : K_slices_ContainsFunc_I Tryz.prog sF := by
 unfold K_slices_ContainsFunc_I
 rw [show sF "slices.ContainsFunc.I" = 119 by kernel_rfl]
 intro l hl g cs hcs p hg
 refine FC.of' (rs := [.t 4]) (H := wMd h_slices_ContainsFunc_I sMd) (lc := c_slices_ContainsFunc_I sF) (n := 2) Tryz.func119 Tryz.mx ?a ?b ?c ?d ?e ?f
 case f => have hw := w_slices_ContainsFunc_I k_slices_IndexFunc_I l hl g cs hcs p hg; assumption
 case a | b | c => kernel_rfl
 case d => rfl
 case e => first | rfl | (simp only [List.all_cons, List.all_nil, Bool.and_true]; first | rfl | assumption | exact caps_ok hcs)
theorem k_slices_IndexFunc_E : K_slices_IndexFunc_E Tryz.prog sF := by
 unfold K_slices_IndexFunc_E
 rw [show sF "slices.IndexFunc.E" = 157 by kernel_rfl]
 intro l hl g cs hcs p hg
 refine FC.of' (rs := [.t 4]) (H := wMd h_slices_IndexFunc_E sMd) (lc := c_slices_IndexFunc_E sF) (n := 2) Tryz.func157 Tryz.mx ?a ?b ?c ?d ?e ?f
 case f => have hw := w_slices_IndexFunc_E (P := Tryz.prog) (F := sF) l hl g cs hcs p hg; assumption
 case a | b | c => kernel_rfl
 case d => rfl
 case e => first | rfl | (simp only [List.all_cons, List.all_nil, Bool.and_true]; first | rfl | assumption | exact caps_ok hcs)
theorem k_slices_ContainsFunc_E : K_slices_ContainsFunc_E Tryz.prog sF := by
 unfold K_slices_ContainsFunc_E
 rw [show sF "slices.ContainsFunc.E" = 122 by kernel_rfl]
 intro l hl g cs hcs p hg
 refine FC.of' (rs := [.t 4]) (H := wMd h_slices_ContainsFunc_E sMd) (lc := c_slices_ContainsFunc_E sF) (n := 2) Tryz.func122 Tryz.mx ?a ?b ?c ?d ?e ?f
 case f => have hw := w_slices_ContainsFunc_E k_slices_IndexFunc_E l hl g cs hcs p hg; assumption
 case a | b | c => kernel_rfl
 case d => rfl
 case e => first | rfl | (simp only [List.all_cons, List.all_nil, Bool.and_true]; first | rfl | assumption | exact caps_ok hcs)
theorem k_graph_within : K_graph_within Tryz.prog sF := by
 unfold K_graph_within
 rw [show sF "graph.within" = 121 by kernel_rfl]
 intro n m
 refine FC.of' (rs := [.t 4]) (H := wMd h_graph_within sMd) (lc := c_graph_within sF) (n := 2) Tryz.func121 Tryz.mx ?a ?b ?c ?d ?e ?f
 case f => have hw := w_graph_within (P := Tryz.prog) (F := sF) n m; assumption
 case a | b | c => kernel_rfl
 case d | e => rfl
theorem k_graph_Valid_1 : K_graph_Valid_1 Tryz.prog sF := by
 unfold K_graph_Valid_1
 rw [show sF "graph.Valid.1" = 120 by kernel_rfl]
 intro x
 refine FC.of' (rs := [.t 2]) (H := wMd h_graph_Valid_1 sMd) (lc := c_graph_Valid_1 sF) (n := 1) Tryz.func120 Tryz.mx ?a ?b ?c ?d ?e ?f
 case f => have hw := w_graph_Valid_1 k_graph_within x; assumption
 case a | b | c => kernel_rfl
 case d | e => rfl
theorem k_graph_fits : K_graph_fits Tryz.prog sF := by
 unfold K_graph_fits
 rw [show sF "graph.fits" = 124 by kernel_rfl]
 intro x n hn
 refine FC.of' (rs := [.t 4]) (H := wMd h_graph_fits sMd) (lc := c_graph_fits sF) (n := 2) Tryz.func124 Tryz.mx ?a ?b ?c ?d ?e ?f
 case f => have hw := w_graph_fits k_graph_within x n hn; assumption
 case a | b | c => kernel_rfl
 case d | e => rfl
theorem k_graph_Valid_2 : K_graph_Valid_2 Tryz.prog sF := by
 unfold K_graph_Valid_2
 rw [show sF "graph.Valid.2" = 123 by kernel_rfl]
 intro x ns es hn
 refine FC.of' (rs := [.t 3]) (H := wMd h_graph_Valid_2 sMd) (lc := c_graph_Valid_2 sF) (n := 2) Tryz.func123 Tryz.mx ?a ?b ?c ?d ?e ?f
 case f => have hw := w_graph_Valid_2 k_graph_fits x ns es hn; assumption
 case a | b | c => kernel_rfl
 case d | e => rfl
theorem k_graph_Valid : K_graph_Valid Tryz.prog sF := by
 unfold K_graph_Valid
 rw [show sF "graph.Valid" = 82 by kernel_rfl]
 intro g
 refine FC.of' (rs := [.t 2]) (H := wMd h_graph_Valid sMd) (lc := c_graph_Valid sF) (n := 1) Tryz.func82 Tryz.mx ?a ?b ?c ?d ?e ?f
 case f => have hw := w_graph_Valid k_slices_ContainsFunc_I k_slices_ContainsFunc_E k_graph_Valid_1 k_graph_Valid_2 g; assumption
 case a | b | c => kernel_rfl
 case d | e => rfl
theorem k_morphism_Valid : K_morphism_Valid Tryz.prog sF := by
 unfold K_morphism_Valid
 rw [show sF "morphism.Valid" = 40 by kernel_rfl]
 intro a b m
 refine FC.of' (rs := [.t 6]) (H := wMd h_morphism_Valid sMd) (lc := c_morphism_Valid sF) (n := 3) Tryz.func40 Tryz.mx ?a ?b ?c ?d ?e ?f
 case f => have hw := w_morphism_Valid k_graph_Valid a b m; assumption
 case a | b | c => kernel_rfl
 case d | e => rfl
theorem k_slices_Clone_I : K_slices_Clone_I Tryz.prog sF := by
 unfold K_slices_Clone_I
 rw [show sF "slices.Clone.I" = 15 by kernel_rfl]
 intro l hl
 refine FC.of' (rs := [.t 2]) (H := wMd h_slices_Clone_I sMd) (lc := c_slices_Clone_I sF) (n := 1) Tryz.func15 Tryz.mx ?a ?b ?c ?d ?e ?f
 case f => have hw := w_slices_Clone_I (P := Tryz.prog) (F := sF) l hl; assumption
 case a | b | c => kernel_rfl
 case d | e => rfl
def SortL_ren : Go.Shelf.Ren := ⟨fun | 189 => 41 | 125 => 84 | 257 => 83 | 128 => 134 | 129 => 135 | 294 => 125 | 295 => 126 | 296 => 127 | 297 => 128 | 298 => 129 | 299 => 130 | 216 => 131 | 300 => 132 | 301 => 133 | 328 => 158 | 329 => 159 | 330 => 160 | 331 => 161 | 332 => 162 | 215 => 163 | 343 => 172 | n => n, fun | 28 => 22 | 3 => 3 | 46 => 112 | 0 => 0 | 51 => 158 | 53 => 51 | 4 => 4 | 183 => 152 | 182 => 151 | 131 => 113 | 5 => 5 | 9 => 9 | 218 => 174 | 222 => 178 | 228 => 182 | 229 => 183 | n => n, fun | n => n⟩
theorem SortL : Go.Proofs.Lays.n189 Tryz.prog SortL_ren := {
 mixed := by kernel_rfl,
 f125 := Tryz.func84.trans (congrArg some (by kernel_rfl)),
 f128 := Tryz.func134.trans (congrArg some (by kernel_rfl)),
 f129 := Tryz.func135.trans (congrArg some (by kernel_rfl)),
 f189 := Tryz.func41.trans (congrArg some (by kernel_rfl)),
 f215 := Tryz.func163.trans (congrArg some (by kernel_rfl)),
 f216 := Tryz.func131.trans (congrArg some (by kernel_rfl)),
 f257 := Tryz.func83.trans (congrArg some (by kernel_rfl)),
 f294 := Tryz.func125.trans (congrArg some (by kernel_rfl)),
 f295 := Tryz.func126.trans (congrArg some (by kernel_rfl)),
 f296 := Tryz.func127.trans (congrArg some (by kernel_rfl)),
 f297 := Tryz.func128.trans (congrArg some (by kernel_rfl)),
 f298 := Tryz.func129.trans (congrArg some (by kernel_rfl)),
 f299 := Tryz.func130.trans (congrArg some (by kernel_rfl)),
 f300 := Tryz.func132.trans (congrArg some (by kernel_rfl)),
 f301 := Tryz.func133.trans (congrArg some (by kernel_rfl)),
 f328 := Tryz.func158.trans (congrArg some (by kernel_rfl)),
 f329 := Tryz.func159.trans (congrArg some (by kernel_rfl)),
 f330 := Tryz.func160.trans (congrArg some (by kernel_rfl)),
 f331 := Tryz.func161.trans (congrArg some (by kernel_rfl)),
 f332 := Tryz.func162.trans (congrArg some (by kernel_rfl)),
 f343 := Tryz.func172.trans (congrArg some (by kernel_rfl)),
 t0 := Tryz.underlying0,
 a0 := Tryz.isAgg0,
 z0 := Tryz.sizeOf0,
 v0 := Tryz.zeroValue0,
 t3 := Tryz.underlying3,
 a3 := Tryz.isAgg3,
 z3 := Tryz.sizeOf3,
 v3 := Tryz.zeroValue3,
 t4 := Tryz.underlying4,
 a4 := Tryz.isAgg4,
 z4 := Tryz.sizeOf4,
 v4 := Tryz.zeroValue4,
 t5 := Tryz.underlying5,
 a5 := Tryz.isAgg5,
 z5 := Tryz.sizeOf5,
 v5 := Tryz.zeroValue5,
 t9 := Tryz.underlying9,
 a9 := Tryz.isAgg9,
 z9 := Tryz.sizeOf9,
 v9 := Tryz.zeroValue9,
 t28 := Tryz.underlying22,
 a28 := Tryz.isAgg22,
 z28 := Tryz.sizeOf22,
 v28 := Tryz.zeroValue22,
 t46 := Tryz.underlying112,
 a46 := Tryz.isAgg112,
 z46 := Tryz.sizeOf112,
 v46 := Tryz.zeroValue112,
 t51 := Tryz.underlying158,
 a51 := Tryz.isAgg158,
 z51 := Tryz.sizeOf158,
 v51 := Tryz.zeroValue158,
 t53 := Tryz.underlying51,
 a53 := Tryz.isAgg51,
 z53 := Tryz.sizeOf51,
 v53 := Tryz.zeroValue51,
 t131 := Tryz.underlying113,
 a131 := Tryz.isAgg113,
 z131 := Tryz.sizeOf113,
 v131 := Tryz.zeroValue113,
 t182 := Tryz.underlying151,
 a182 := Tryz.isAgg151,
 z182 := Tryz.sizeOf151,
 v182 := Tryz.zeroValue151,
 t183 := Tryz.underlying152,
 a183 := Tryz.isAgg152,
 z183 := Tryz.sizeOf152,
 v183 := Tryz.zeroValue152,
 t218 := Tryz.underlying174,
 a218 := Tryz.isAgg174,
 z218 := Tryz.sizeOf174,
 v218 := Tryz.zeroValue174,
 t222 := Tryz.underlying178,
 a222 := Tryz.isAgg178,
 z222 := Tryz.sizeOf178,
 v222 := Tryz.zeroValue178,
 t228 := Tryz.underlying182,
 a228 := Tryz.isAgg182,
 z228 := Tryz.sizeOf182,
 v228 := Tryz.zeroValue182,
 t229 := Tryz.underlying183,
 a229 := Tryz.isAgg183,
 z229 := Tryz.sizeOf183,
 v229 := Tryz.zeroValue183 }
theorem k_slices_Sort_I : K_slices_Sort_I Tryz.prog sF := by
 unfold K_slices_Sort_I
 rw [show sF "slices.Sort.I" = 41 by kernel_rfl]
 intro l hl
 have hb : (Tryz.f41.body.isSome) = true := by kernel_rfl
 obtain ⟨body, hb⟩ := Option.isSome_iff_exists.1 hb
 exact sort_FC (callFunc_enter Tryz.func41 (by kernel_rfl) hb) (fun blk off cap zs w h1 h2 h3 => Go.Proofs.Any.slices_Sort_int SortL blk off cap zs w h1 h2 h3) (fun p cap w => Go.Proofs.Any.slices_Sort_int_none SortL p cap w) l hl
theorem k_slices_Compact_I : K_slices_Compact_I Tryz.prog sF := by
 unfold K_slices_Compact_I
 rw [show sF "slices.Compact.I" = 101 by kernel_rfl]
 intro l hl
 refine FC.of' (rs := [.t 2]) (H := wMd h_slices_Compact_I sMd) (lc := c_slices_Compact_I sF) (n := 1) Tryz.func101 Tryz.mx ?a ?b ?c ?d ?e ?f
 case f => have hw := w_slices_Compact_I (P := Tryz.prog) (F := sF) l hl; assumption
 case a | b | c => kernel_rfl
 case d | e => rfl
theorem k_morphism_images : K_morphism_images Tryz.prog sF := by
 unfold K_morphism_images
 rw [show sF "morphism.images" = 59 by kernel_rfl]
 intro l hl
 refine FC.of' (rs := [.t 2]) (H := wMd h_morphism_images sMd) (lc := c_morphism_images sF) (n := 1) Tryz.func59 Tryz.mx ?a ?b ?c ?d ?e ?f
 case f => have hw := w_morphism_images k_slices_Clone_I k_slices_Sort_I k_slices_Compact_I l hl; assumption
 case a | b | c => kernel_rfl
 case d | e => rfl
theorem k_morphism_Injective : K_morphism_Injective Tryz.prog sF := by
 unfold K_morphism_Injective
 rw [show sF "morphism.Injective" = 21 by kernel_rfl]
 intro a b m
 refine FC.of' (rs := [.t 6]) (H := wMd h_morphism_Injective sMd) (lc := c_morphism_Injective sF) (n := 3) Tryz.func21 Tryz.mx ?a ?b ?c ?d ?e ?f
 case f => have hw := w_morphism_Injective k_morphism_Valid k_morphism_images a b m; assumption
 case a | b | c => kernel_rfl
 case d | e => rfl
theorem k_slices_Index_I : K_slices_Index_I Tryz.prog sF := by
 unfold K_slices_Index_I
 rw [show sF "slices.Index.I" = 25 by kernel_rfl]
 intro l x hl
 refine FC.of' (rs := [.t 4]) (H := wMd h_slices_Index_I sMd) (lc := c_slices_Index_I sF) (n := 2) Tryz.func25 Tryz.mx ?a ?b ?c ?d ?e ?f
 case f => have hw := w_slices_Index_I (P := Tryz.prog) (F := sF) l x hl; assumption
 case a | b | c => kernel_rfl
 case d | e => rfl
theorem k_slices_Contains_I : K_slices_Contains_I Tryz.prog sF := by
 unfold K_slices_Contains_I
 rw [show sF "slices.Contains.I" = 26 by kernel_rfl]
 intro l x hl
 refine FC.of' (rs := [.t 4]) (H := wMd h_slices_Contains_I sMd) (lc := c_slices_Contains_I sF) (n := 2) Tryz.func26 Tryz.mx ?a ?b ?c ?d ?e ?f
 case f => have hw := w_slices_Contains_I k_slices_Index_I l x hl; assumption
 case a | b | c => kernel_rfl
 case d | e => rfl
theorem k_subgraph_list : K_subgraph_list Tryz.prog sF := by
 unfold K_subgraph_list
 rw [show sF "subgraph.list" = 164 by kernel_rfl]
 intro l n hl h0 h1
 refine FC.of' (rs := [.t 4]) (H := wMd h_subgraph_list sMd) (lc := c_subgraph_list sF) (n := 2) Tryz.func164 Tryz.mx ?a ?b ?c ?d ?e ?f
 case f => have hw := w_subgraph_list (P := Tryz.prog) (F := sF) l n hl h0 h1; assumption
 case a | b | c => kernel_rfl
 case d | e => rfl
theorem k_cmp_isNaN_I : K_cmp_isNaN_I Tryz.prog sF := by
 unfold K_cmp_isNaN_I
 rw [show sF "cmp.isNaN.I" = 163 by kernel_rfl]
 intro x
 refine FC.of' (rs := [.t 2]) (H := wMd h_cmp_isNaN_I sMd) (lc := c_cmp_isNaN_I sF) (n := 1) Tryz.func163 Tryz.mx ?a ?b ?c ?d ?e ?f
 case f => have hw := w_cmp_isNaN_I (P := Tryz.prog) (F := sF) x; assumption
 case a | b | c => kernel_rfl
 case d | e => rfl
theorem k_cmp_Less_I : K_cmp_Less_I Tryz.prog sF := by
 unfold K_cmp_Less_I
 rw [show sF "cmp.Less.I" = 131 by kernel_rfl]
 intro x y
 refine FC.of' (rs := [.t 4]) (H := wMd h_cmp_Less_I sMd) (lc := c_cmp_Less_I sF) (n := 2) Tryz.func131 Tryz.mx ?a ?b ?c ?d ?e ?f
 case f => have hw := w_cmp_Less_I k_cmp_isNaN_I x y; assumption
 case a | b | c => kernel_rfl
 case d | e => rfl
theorem k_slices_isNaN_I : K_slices_isNaN_I Tryz.prog sF := by
 unfold K_slices_isNaN_I
 rw [show sF "slices.isNaN.I" = 137 by kernel_rfl]
 intro x
 refine FC.of' (rs := [.t 2]) (H := wMd h_slices_isNaN_I sMd) (lc := c_slices_isNaN_I sF) (n := 1) Tryz.func137 Tryz.mx ?a ?b ?c ?d ?e ?f
 case f => have hw := w_slices_isNaN_I (P := Tryz.prog) (F := sF) x; assumption
 case a | b | c => kernel_rfl
 case d | e => rfl
theorem k_slices_BinarySearch_I : K_slices_BinarySearch_I Tryz.prog sF := by
 unfold K_slices_BinarySearch_I
 rw [show sF "slices.BinarySearch.I" = 86 by kernel_rfl]
 intro l x hp hl
 refine FC.of' (rs := [.t 4, .t 5]) (H := wMd h_slices_BinarySearch_I sMd) (lc := c_slices_BinarySearch_I sF) (n := 2) Tryz.func86 Tryz.mx ?a ?b ?c ?d ?e ?f
 case f => have hw := w_slices_BinarySearch_I k_cmp_Less_I k_slices_isNaN_I l x hp hl; assumption
 case a | b | c => kernel_rfl
 case d | e => rfl
theorem k_subgraph_has : K_subgraph_has Tryz.prog sF := by
 unfold K_subgraph_has
 rw [show sF "subgraph.has" = 165 by kernel_rfl]
 intro l x hp hl
 refine FC.of' (rs := [.t 4]) (H := wMd h_subgraph_has sMd) (lc := c_subgraph_has sF) (n := 2) Tryz.func165 Tryz.mx ?a ?b ?c ?d ?e ?f
 case f => have hw := w_subgraph_has k_slices_BinarySearch_I l x hp hl; assumption
 case a | b | c => kernel_rfl
 case d | e => rfl
theorem k_subgraph_part : K_subgraph_part Tryz.prog sF := by
 unfold K_subgraph_part
 rw [show sF "subgraph.part" = 136 by kernel_rfl]
 intro g p hv h1 h2
 refine FC.of' (rs := [.t 4]) (H := wMd h_subgraph_part sMd) (lc := c_subgraph_part sF) (n := 2) Tryz.func136 Tryz.mx ?a ?b ?c ?d ?e ?f
 case f => have hw := w_subgraph_part k_subgraph_list k_subgraph_has g p hv h1 h2; assumption
 case a | b | c => kernel_rfl
 case d | e => rfl
theorem k_subgraph_Valid : K_subgraph_Valid Tryz.prog sF := by
 unfold K_subgraph_Valid
 rw [show sF "subgraph.Valid" = 85 by kernel_rfl]
 intro g p h1 h2
 refine FC.of' (rs := [.t 4]) (H := wMd h_subgraph_Valid sMd) (lc := c_subgraph_Valid sF) (n := 2) Tryz.func85 Tryz.mx ?a ?b ?c ?d ?e ?f
 case f => have hw := w_subgraph_Valid k_graph_Valid k_subgraph_part g p h1 h2; assumption
 case a | b | c => kernel_rfl
 case d | e => rfl
theorem k_subgraph_Extract : K_subgraph_Extract Tryz.prog sF := by
 unfold K_subgraph_Extract
 rw [show sF "subgraph.Extract" = 42 by kernel_rfl]
 intro g p h1
 refine FC.of' (rs := [.c 4 true 2, .c 5 true 2, .t 6]) (H := wMd h_subgraph_Extract sMd) (lc := c_subgraph_Extract sF) (n := 2) Tryz.func42 Tryz.mx ?a ?b ?c ?d ?e ?f
 case f => have hw := w_subgraph_Extract k_subgraph_Valid k_slices_BinarySearch_I k_slices_Clone_I g p h1; assumption
 case a | b | c => kernel_rfl
 case d | e => rfl
theorem k_slices_Clone_E : K_slices_Clone_E Tryz.prog sF := by
 unfold K_slices_Clone_E
 rw [show sF "slices.Clone.E" = 87 by kernel_rfl]
 intro l hl
 refine FC.of' (rs := [.t 2]) (H := wMd h_slices_Clone_E sMd) (lc := c_slices_Clone_E sF) (n := 1) Tryz.func87 Tryz.mx ?a ?b ?c ?d ?e ?f
 case f => have hw := w_slices_Clone_E (P := Tryz.prog) (F := sF) l hl; assumption
 case a | b | c => kernel_rfl
 case d | e => rfl
theorem k_square_copied : K_square_copied Tryz.prog sF := by
 unfold K_square_copied
 rw [show sF "square.copied" = 43 by kernel_rfl]
 intro g l1 l2
 refine FC.of' (rs := [.c 2 true 2]) (H := wMd h_square_copied sMd) (lc := c_square_copied sF) (n := 1) Tryz.func43 Tryz.mx ?a ?b ?c ?d ?e ?f
 case f => have hw := w_square_copied k_slices_Clone_I k_slices_Clone_E g l1 l2; assumption
 case a | b | c => kernel_rfl
 case d | e => rfl
theorem k_square_arrow : K_square_arrow Tryz.prog sF := by
 unfold K_square_arrow
 rw [show sF "square.arrow" = 44 by kernel_rfl]
 intro m l1 l2
 refine FC.of' (rs := [.c 2 true 2]) (H := wMd h_square_arrow sMd) (lc := c_square_arrow sF) (n := 1) Tryz.func44 Tryz.mx ?a ?b ?c ?d ?e ?f
 case f => have hw := w_square_arrow k_slices_Clone_I m l1 l2; assumption
 case a | b | c => kernel_rfl
 case d | e => rfl
theorem k_square_Initial : K_square_Initial Tryz.prog sF := by
 unfold K_square_Initial
 rw [show sF "square.Initial" = 14 by kernel_rfl]
 intro a b m
 refine FC.of' (rs := [.c 6 true 16, .t 7]) (H := wMd h_square_Initial sMd) (lc := c_square_Initial sF) (n := 3) Tryz.func14 Tryz.mx ?a ?b ?c ?d ?e ?f
 case f => have hw := w_square_Initial k_morphism_Valid k_morphism_Injective k_slices_Contains_I k_slices_Index_I k_slices_Sort_I k_subgraph_Extract k_square_copied k_square_arrow a b m; assumption
 case a | b | c => kernel_rfl
 case d | e => rfl
theorem k_square_valid : K_square_valid Tryz.prog sF := by
 unfold K_square_valid
 rw [show sF "square.valid" = 52 by kernel_rfl]
 intro s
 refine FC.of' (rs := [.t 2]) (H := wMd h_square_valid sMd) (lc := c_square_valid sF) (n := 1) Tryz.func52 Tryz.mx ?a ?b ?c ?d ?e ?f
 case f => have hw := w_square_valid k_morphism_Valid s; assumption
 case a | b | c => kernel_rfl
 case d | e => rfl
theorem k_square_follow : K_square_follow Tryz.prog sF := by
 unfold K_square_follow
 rw [show sF "square.follow" = 116 by kernel_rfl]
 intro l b hl hb
 refine FC.of' (rs := [.t 4]) (H := wMd h_square_follow sMd) (lc := c_square_follow sF) (n := 2) Tryz.func116 Tryz.mx ?a ?b ?c ?d ?e ?f
 case f => have hw := w_square_follow (P := Tryz.prog) (F := sF) l b hl hb; assumption
 case a | b | c => kernel_rfl
 case d | e => rfl
theorem k_square_then : K_square_then Tryz.prog sF := by
 unfold K_square_then
 rw [show sF "square.then" = 74 by kernel_rfl]
 intro m n h1 h2 h3 h4
 refine FC.of' (rs := [.c 4 true 2]) (H := wMd h_square_then sMd) (lc := c_square_then sF) (n := 2) Tryz.func74 Tryz.mx ?a ?b ?c ?d ?e ?f
 case f => have hw := w_square_then k_square_follow m n h1 h2 h3 h4; assumption
 case a | b | c => kernel_rfl
 case d | e => rfl
theorem k_slices_Equal_I : K_slices_Equal_I Tryz.prog sF := by
 unfold K_slices_Equal_I
 rw [show sF "slices.Equal.I" = 114 by kernel_rfl]
 intro a b hl
 refine FC.of' (rs := [.t 4]) (H := wMd h_slices_Equal_I sMd) (lc := c_slices_Equal_I sF) (n := 2) Tryz.func114 Tryz.mx ?a ?b ?c ?d ?e ?f
 case f => have hw := w_slices_Equal_I (P := Tryz.prog) (F := sF) a b hl; assumption
 case a | b | c => kernel_rfl
 case d | e => rfl
theorem k_morphism_Same : K_morphism_Same Tryz.prog sF := by
 unfold K_morphism_Same
 rw [show sF "morphism.Same" = 73 by kernel_rfl]
 intro a b h1 h2
 refine FC.of' (rs := [.t 4]) (H := wMd h_morphism_Same sMd) (lc := c_morphism_Same sF) (n := 2) Tryz.func73 Tryz.mx ?a ?b ?c ?d ?e ?f
 case f => have hw := w_morphism_Same k_slices_Equal_I a b h1 h2; assumption
 case a | b | c => kernel_rfl
 case d | e => rfl
theorem k_square_commutes : K_square_commutes Tryz.prog sF := by
 unfold K_square_commutes
 rw [show sF "square.commutes" = 53 by kernel_rfl]
 intro s h0
 refine FC.of' (rs := [.t 2]) (H := wMd h_square_commutes sMd) (lc := c_square_commutes sF) (n := 1) Tryz.func53 Tryz.mx ?a ?b ?c ?d ?e ?f
 case f => have hw := w_square_commutes k_square_then k_morphism_Same s h0; assumption
 case a | b | c => kernel_rfl
 case d | e => rfl
theorem k_pushout_span : K_pushout_span Tryz.prog sF := by
 unfold K_pushout_span
 rw [show sF "pushout.span" = 93 by kernel_rfl]
 intro s
 refine FC.of' (rs := [.t 2]) (H := wMd h_pushout_span sMd) (lc := c_pushout_span sF) (n := 1) Tryz.func93 Tryz.mx ?a ?b ?c ?d ?e ?f
 case f => have hw := w_pushout_span k_morphism_Valid s; assumption
 case a | b | c => kernel_rfl
 case d | e => rfl
theorem k_slices_Grow_I : K_slices_Grow_I Tryz.prog sF := by
 unfold K_slices_Grow_I
 rw [show sF "slices.Grow.I" = 173 by kernel_rfl]
 intro n hn
 refine FC.of' (rs := [.t 4]) (H := wMd h_slices_Grow_I sMd) (lc := c_slices_Grow_I sF) (n := 2) Tryz.func173 Tryz.mx ?a ?b ?c ?d ?e ?f
 case f => have hw := w_slices_Grow_I (P := Tryz.prog) (F := sF) n hn; assumption
 case a | b | c => kernel_rfl
 case d | e => rfl
theorem k_slices_Concat_I : K_slices_Concat_I Tryz.prog sF := by
 unfold K_slices_Concat_I
 rw [show sF "slices.Concat.I" = 166 by kernel_rfl]
 intro a b ha hb
 refine FC.of' (rs := [.t 2]) (H := wMd h_slices_Concat_I sMd) (lc := c_slices_Concat_I sF) (n := 1) Tryz.func166 Tryz.mx ?a ?b ?c ?d ?e ?f
 case f => have hw := w_slices_Concat_I k_slices_Grow_I a b ha hb; assumption
 case a | b | c => kernel_rfl
 case d | e => rfl
theorem k_graph_numbers : K_graph_numbers Tryz.prog sF := by
 unfold K_graph_numbers
 rw [show sF "graph.numbers" = 167 by kernel_rfl]
 intro f n h0 h1 h2
 refine FC.of' (rs := [.t 4]) (H := wMd h_graph_numbers sMd) (lc := c_graph_numbers sF) (n := 2) Tryz.func167 Tryz.mx ?a ?b ?c ?d ?e ?f
 case f => have hw := w_graph_numbers (P := Tryz.prog) (F := sF) f n h0 h1 h2; assumption
 case a | b | c => kernel_rfl
 case d | e => rfl
theorem k_graph_Union : K_graph_Union Tryz.prog sF := by
 unfold K_graph_Union
 rw [show sF "graph.Union" = 140 by kernel_rfl]
 intro a b
 refine FC.of' (rs := [.c 4 true 2, .c 5 true 2, .c 6 true 2, .t 7]) (H := wMd h_graph_Union sMd) (lc := c_graph_Union sF) (n := 2) Tryz.func140 Tryz.mx ?a ?b ?c ?d ?e ?f
 case f => have hw := w_graph_Union k_graph_Valid k_slices_Concat_I k_slices_Clone_E k_graph_numbers a b; assumption
 case a | b | c => kernel_rfl
 case d | e => rfl
theorem k_pushout_pairs : K_pushout_pairs Tryz.prog sF := by
 unfold K_pushout_pairs
 rw [show sF "pushout.pairs" = 142 by kernel_rfl]
 intro f g l r hf hg h1 h2
 refine FC.of' (rs := [.t 8]) (H := wMd h_pushout_pairs sMd) (lc := c_pushout_pairs sF) (n := 4) Tryz.func142 Tryz.mx ?a ?b ?c ?d ?e ?f
 case f => have hw := w_pushout_pairs (P := Tryz.prog) (F := sF) f g l r hf hg h1 h2; assumption
 case a | b | c => kernel_rfl
 case d | e => rfl
theorem k_partition_finest : K_partition_finest Tryz.prog sF := by
 unfold K_partition_finest
 rw [show sF "partition.finest" = 174 by kernel_rfl]
 intro n hn
 refine FC.of' (rs := [.t 2]) (H := wMd h_partition_finest sMd) (lc := c_partition_finest sF) (n := 1) Tryz.func174 Tryz.mx ?a ?b ?c ?d ?e ?f
 case f => have hw := w_partition_finest (P := Tryz.prog) (F := sF) n hn; assumption
 case a | b | c => kernel_rfl
 case d | e => rfl
theorem k_partition_root : K_partition_root Tryz.prog sF := by
 unfold K_partition_root
 rw [show sF "partition.root" = 178 by kernel_rfl]
 intro p r i h hl hi
 refine FC.of' (rs := [.t 4]) (H := wMd h_partition_root sMd) (lc := c_partition_root sF) (n := 2) Tryz.func178 Tryz.mx ?a ?b ?c ?d ?e ?f
 case f => have hw := w_partition_root (P := Tryz.prog) (F := sF) p r i h hl hi; assumption
 case a | b | c => kernel_rfl
 case d | e => rfl
theorem k_partition_unite : K_partition_unite Tryz.prog sF := by
 unfold K_partition_unite
 rw [show sF "partition.unite" = 175 by kernel_rfl]
 intro p r a b h hl ha hb
 refine FC.ofO (rs := []) (H := wMd h_partition_unite sMd) (lc := c_partition_unite sF) (n := 3) (outs := [0]) Tryz.func175 Tryz.mx ?a ?b ?c ?d ?e ?f
 case f => have hw := w_partition_unite k_partition_root p r a b h hl ha hb; assumption
 case a | b | c => kernel_rfl
 case d | e => rfl
theorem k_partition_flat : K_partition_flat Tryz.prog sF := by
 unfold K_partition_flat
 rw [show sF "partition.flat" = 176 by kernel_rfl]
 intro p r h hl
 refine FC.of' (rs := [.t 2]) (H := wMd h_partition_flat sMd) (lc := c_partition_flat sF) (n := 1) Tryz.func176 Tryz.mx ?a ?b ?c ?d ?e ?f
 case f => have hw := w_partition_flat k_partition_root p r h hl; assumption
 case a | b | c => kernel_rfl
 case d | e => rfl
theorem k_partition_Generate : K_partition_Generate Tryz.prog sF := by
 unfold K_partition_Generate
 rw [show sF "partition.Generate" = 168 by kernel_rfl]
 intro n l hn hl hp
 refine FC.of' (rs := [.t 4, .t 5]) (H := wMd h_partition_Generate sMd) (lc := c_partition_Generate sF) (n := 2) Tryz.func168 Tryz.mx ?a ?b ?c ?d ?e ?f
 case f => have hw := w_partition_Generate k_partition_finest k_partition_unite k_partition_flat n l hn hl hp; assumption
 case a | b | c => kernel_rfl
 case d | e => rfl
theorem k_partition_right : K_partition_right Tryz.prog sF := by
 unfold K_partition_right
 rw [show sF "partition.right" = 179 by kernel_rfl]
 intro p hp hl
 refine FC.of' (rs := [.t 2]) (H := wMd h_partition_right sMd) (lc := c_partition_right sF) (n := 1) Tryz.func179 Tryz.mx ?a ?b ?c ?d ?e ?f
 case f => have hw := w_partition_right (P := Tryz.prog) (F := sF) p hp hl; assumption
 case a | b | c => kernel_rfl
 case d | e => rfl
theorem k_partition_one : K_partition_one Tryz.prog sF := by
 unfold K_partition_one
 rw [show sF "partition.one" = 177 by kernel_rfl]
 intro p hp hl
 refine FC.of' (rs := [.t 2]) (H := wMd h_partition_one sMd) (lc := c_partition_one sF) (n := 1) Tryz.func177 Tryz.mx ?a ?b ?c ?d ?e ?f
 case f => have hw := w_partition_one k_partition_right p hp hl; assumption
 case a | b | c => kernel_rfl
 case d | e => rfl
theorem k_partition_Quotient : K_partition_Quotient Tryz.prog sF := by
 unfold K_partition_Quotient
 rw [show sF "partition.Quotient" = 169 by kernel_rfl]
 intro p hp hl
 refine FC.of' (rs := [.t 2, .t 3, .t 4]) (H := wMd h_partition_Quotient sMd) (lc := c_partition_Quotient sF) (n := 1) Tryz.func169 Tryz.mx ?a ?b ?c ?d ?e ?f
 case f => have hw := w_partition_Quotient k_partition_one p hp hl; assumption
 case a | b | c => kernel_rfl
 case d | e => rfl
theorem k_pushout_quotient : K_pushout_quotient Tryz.prog sF := by
 unfold K_pushout_quotient
 rw [show sF "pushout.quotient" = 141 by kernel_rfl]
 intro g ns es hv l1 l2 p1 p2
 refine FC.of' (rs := [.c 6 true 2, .c 7 true 2, .t 8]) (H := wMd h_pushout_quotient sMd) (lc := c_pushout_quotient sF) (n := 3) Tryz.func141 Tryz.mx ?a ?b ?c ?d ?e ?f
 case f => have hw := w_pushout_quotient k_partition_Generate k_partition_Quotient g ns es hv l1 l2 p1 p2; assumption
 case a | b | c => kernel_rfl
 case d | e => rfl
theorem k_pushout_follow : K_pushout_follow Tryz.prog sF := by
 unfold K_pushout_follow
 rw [show sF "pushout.follow" = 170 by kernel_rfl]
 intro l b hl hb
 refine FC.of' (rs := [.t 4]) (H := wMd h_pushout_follow sMd) (lc := c_pushout_follow sF) (n := 2) Tryz.func170 Tryz.mx ?a ?b ?c ?d ?e ?f
 case f => have hw := w_pushout_follow (P := Tryz.prog) (F := sF) l b hl hb; assumption
 case a | b | c => kernel_rfl
 case d | e => rfl
theorem k_pushout_then : K_pushout_then Tryz.prog sF := by
 unfold K_pushout_then
 rw [show sF "pushout.then" = 143 by kernel_rfl]
 intro m n h1 h2 h3 h4
 refine FC.of' (rs := [.c 4 true 2]) (H := wMd h_pushout_then sMd) (lc := c_pushout_then sF) (n := 2) Tryz.func143 Tryz.mx ?a ?b ?c ?d ?e ?f
 case f => have hw := w_pushout_then k_pushout_follow m n h1 h2 h3 h4; assumption
 case a | b | c => kernel_rfl
 case d | e => rfl
theorem k_pushout_glue : K_pushout_glue Tryz.prog sF := by
 unfold K_pushout_glue
 rw [show sF "pushout.glue" = 94 by kernel_rfl]
 intro s he
 refine FC.of' (rs := [.c 2 true 2, .c 3 true 2, .c 4 true 2, .t 5]) (H := wMd h_pushout_glue sMd) (lc := c_pushout_glue sF) (n := 1) Tryz.func94 Tryz.mx ?a ?b ?c ?d ?e ?f
 case f => have hw := w_pushout_glue k_graph_Union k_pushout_pairs k_pushout_quotient k_pushout_then s he; assumption
 case a | b | c => kernel_rfl
 case d | e => rfl
theorem k_pushout_Of : K_pushout_Of Tryz.prog sF := by
 unfold K_pushout_Of
 rw [show sF "pushout.Of" = 54 by kernel_rfl]
 intro s
 refine FC.of' (rs := [.c 2 true 2, .c 3 true 2, .c 4 true 2, .t 5]) (H := wMd h_pushout_Of sMd) (lc := c_pushout_Of sF) (n := 1) Tryz.func54 Tryz.mx ?a ?b ?c ?d ?e ?f
 case f => have hw := w_pushout_Of k_pushout_span k_pushout_glue s; assumption
 case a | b | c => kernel_rfl
 case d | e => rfl
theorem k_pullback_given : K_pullback_given Tryz.prog sF := by
 unfold K_pullback_given
 rw [show sF "pullback.given" = 144 by kernel_rfl]
 intro s
 refine FC.of' (rs := [.t 2]) (H := wMd h_pullback_given sMd) (lc := c_pullback_given sF) (n := 1) Tryz.func144 Tryz.mx ?a ?b ?c ?d ?e ?f
 case f => have hw := w_pullback_given k_morphism_Valid s; assumption
 case a | b | c => kernel_rfl
 case d | e => rfl
theorem k_pullback_pairs : K_pullback_pairs Tryz.prog sF := by
 unfold K_pullback_pairs
 rw [show sF "pullback.pairs" = 145 by kernel_rfl]
 intro f g hf hg
 refine FC.of' (rs := [.t 4]) (H := wMd h_pullback_pairs sMd) (lc := c_pullback_pairs sF) (n := 2) Tryz.func145 Tryz.mx ?a ?b ?c ?d ?e ?f
 case f => have hw := w_pullback_pairs (P := Tryz.prog) (F := sF) f g hf hg; assumption
 case a | b | c => kernel_rfl
 case d | e => rfl
theorem k_slices_Index_apiPair : K_slices_Index_apiPair Tryz.prog sF := by
 unfold K_slices_Index_apiPair
 rw [show sF "slices.Index.apiPair" = 146 by kernel_rfl]
 intro l a b hl
 refine FC.of' (rs := [.t 4]) (H := wMd h_slices_Index_apiPair sMd) (lc := c_slices_Index_apiPair sF) (n := 2) Tryz.func146 Tryz.mx ?a ?b ?c ?d ?e ?f
 case f => have hw := w_slices_Index_apiPair (P := Tryz.prog) (F := sF) l a b hl; assumption
 case a | b | c => kernel_rfl
 case d | e => rfl
theorem k_pullback_of : K_pullback_of Tryz.prog sF := by
 unfold K_pullback_of
 rw [show sF "pullback.of" = 95 by kernel_rfl]
 intro s
 refine FC.of' (rs := [.c 2 true 4, .t 3]) (H := wMd h_pullback_of sMd) (lc := c_pullback_of sF) (n := 1) Tryz.func95 Tryz.mx ?a ?b ?c ?d ?e ?f
 case f => have hw := w_pullback_of k_pullback_given k_pullback_pairs k_slices_Index_apiPair s; assumption
 case a | b | c => kernel_rfl
 case d | e => rfl
theorem k_pullback_sides : K_pullback_sides Tryz.prog sF := by
 unfold K_pullback_sides
 rw [show sF "pullback.sides" = 96 by kernel_rfl]
 intro l hl
 refine FC.of' (rs := [.t 2, .t 3]) (H := wMd h_pullback_sides sMd) (lc := c_pullback_sides sF) (n := 1) Tryz.func96 Tryz.mx ?a ?b ?c ?d ?e ?f
 case f => have hw := w_pullback_sides (P := Tryz.prog) (F := sF) l hl; assumption
 case a | b | c => kernel_rfl
 case d | e => rfl
theorem k_pullback_Of : K_pullback_Of Tryz.prog sF := by
 unfold K_pullback_Of
 rw [show sF "pullback.Of" = 55 by kernel_rfl]
 intro s
 refine FC.of' (rs := [.c 2 true 2, .c 3 true 2, .c 4 true 2, .t 5]) (H := wMd h_pullback_Of sMd) (lc := c_pullback_Of sF) (n := 1) Tryz.func55 Tryz.mx ?a ?b ?c ?d ?e ?f
 case f => have hw := w_pullback_Of k_pullback_of k_pullback_sides s; assumption
 case a | b | c => kernel_rfl
 case d | e => rfl
theorem k_pushout_filled : K_pushout_filled Tryz.prog sF := by
 unfold K_pushout_filled
 rw [show sF "pushout.filled" = 147 by kernel_rfl]
 intro n p h q k hn h1 h2
 refine FC.of' (rs := [.t 6]) (H := wMd h_pushout_filled sMd) (lc := c_pushout_filled sF) (n := 3) Tryz.func147 Tryz.mx ?a ?b ?c ?d ?e ?f
 case f => have hw := w_pushout_filled (P := Tryz.prog) (F := sF) n p h q k hn h1 h2; assumption
 case a | b | c => kernel_rfl
 case d | e => rfl
theorem k_pushout_Mediate : K_pushout_Mediate Tryz.prog sF := by
 unfold K_pushout_Mediate
 rw [show sF "pushout.Mediate" = 97 by kernel_rfl]
 intro s x h k
 refine FC.of' (rs := [.c 8 true 2, .t 9]) (H := wMd h_pushout_Mediate sMd) (lc := c_pushout_Mediate sF) (n := 4) Tryz.func97 Tryz.mx ?a ?b ?c ?d ?e ?f
 case f => have hw := w_pushout_Mediate k_pushout_span k_morphism_Valid k_pushout_glue k_pushout_then k_morphism_Same k_pushout_filled s x h k; assumption
 case a | b | c => kernel_rfl
 case d | e => rfl
theorem k_morphism_Surjective : K_morphism_Surjective Tryz.prog sF := by
 unfold K_morphism_Surjective
 rw [show sF "morphism.Surjective" = 98 by kernel_rfl]
 intro a b m
 refine FC.of' (rs := [.t 6]) (H := wMd h_morphism_Surjective sMd) (lc := c_morphism_Surjective sF) (n := 3) Tryz.func98 Tryz.mx ?a ?b ?c ?d ?e ?f
 case f => have hw := w_morphism_Surjective k_morphism_Valid k_morphism_images a b m; assumption
 case a | b | c => kernel_rfl
 case d | e => rfl
theorem k_pushout_Check : K_pushout_Check Tryz.prog sF := by
 unfold K_pushout_Check
 rw [show sF "pushout.Check" = 56 by kernel_rfl]
 intro s x h k
 refine FC.of' (rs := [.t 8]) (H := wMd h_pushout_Check sMd) (lc := c_pushout_Check sF) (n := 4) Tryz.func56 Tryz.mx ?a ?b ?c ?d ?e ?f
 case f => have hw := w_pushout_Check k_pushout_Mediate k_pushout_glue k_morphism_Injective k_morphism_Surjective s x h k; assumption
 case a | b | c => kernel_rfl
 case d | e => rfl
theorem k_pullback_meet : K_pullback_meet Tryz.prog sF := by
 unfold K_pullback_meet
 rw [show sF "pullback.meet" = 117 by kernel_rfl]
 intro l h k hl h1 h2
 refine FC.of' (rs := [.t 6, .t 7]) (H := wMd h_pullback_meet sMd) (lc := c_pullback_meet sF) (n := 3) Tryz.func117 Tryz.mx ?a ?b ?c ?d ?e ?f
 case f => have hw := w_pullback_meet k_slices_Index_apiPair l h k hl h1 h2; assumption
 case a | b | c => kernel_rfl
 case d | e => rfl
theorem k_pullback_Mediate : K_pullback_Mediate Tryz.prog sF := by
 unfold K_pullback_Mediate
 rw [show sF "pullback.Mediate" = 77 by kernel_rfl]
 intro s x h k
 refine FC.of' (rs := [.c 8 true 2, .t 9]) (H := wMd h_pullback_Mediate sMd) (lc := c_pullback_Mediate sF) (n := 4) Tryz.func77 Tryz.mx ?a ?b ?c ?d ?e ?f
 case f => have hw := w_pullback_Mediate k_pullback_of k_morphism_Valid k_pullback_meet s x h k; assumption
 case a | b | c => kernel_rfl
 case d | e => rfl
theorem k_pullback_Check : K_pullback_Check Tryz.prog sF := by
 unfold K_pullback_Check
 rw [show sF "pullback.Check" = 57 by kernel_rfl]
 intro s x h k
 refine FC.of' (rs := [.t 8]) (H := wMd h_pullback_Check sMd) (lc := c_pullback_Check sF) (n := 4) Tryz.func57 Tryz.mx ?a ?b ?c ?d ?e ?f
 case f => have hw := w_pullback_Check k_pullback_Mediate k_pullback_of k_morphism_Injective k_morphism_Surjective s x h k; assumption
 case a | b | c => kernel_rfl
 case d | e => rfl
theorem k_square_Kind : K_square_Kind Tryz.prog sF := by
 unfold K_square_Kind
 rw [show sF "square.Kind" = 18 by kernel_rfl]
 intro s
 refine FC.of' (rs := [.t 2, .t 3]) (H := wMd h_square_Kind sMd) (lc := c_square_Kind sF) (n := 1) Tryz.func18 Tryz.mx ?a ?b ?c ?d ?e ?f
 case f => have hw := w_square_Kind k_square_valid k_square_commutes k_pushout_Of k_pullback_Of k_pushout_Check k_pullback_Check s; assumption
 case a | b | c => kernel_rfl
 case d | e => rfl
theorem k_r05_SameInts : K_r05_SameInts Tryz.prog sF := by
 unfold K_r05_SameInts
 rw [show sF "r05.SameInts" = 80 by kernel_rfl]
 intro a b hl
 refine FC.of' (rs := [.t 4]) (H := wMd h_r05_SameInts sMd) (lc := c_r05_SameInts sF) (n := 2) Tryz.func80 Tryz.mx ?a ?b ?c ?d ?e ?f
 case f => have hw := w_r05_SameInts (P := Tryz.prog) (F := sF) a b hl; assumption
 case a | b | c => kernel_rfl
 case d | e => rfl
theorem k_r05_Same : K_r05_Same Tryz.prog sF := by
 unfold K_r05_Same
 rw [show sF "r05.Same" = 38 by kernel_rfl]
 intro a b h1 h2
 refine FC.of' (rs := [.t 4]) (H := wMd h_r05_Same sMd) (lc := c_r05_Same sF) (n := 2) Tryz.func38 Tryz.mx ?a ?b ?c ?d ?e ?f
 case f => have hw := w_r05_Same k_r05_SameInts a b h1 h2; assumption
 case a | b | c => kernel_rfl
 case d | e => rfl
theorem k_l14_awake : K_l14_awake Tryz.prog sF := by
 unfold K_l14_awake
 rw [show sF "l14.awake" = 11 by kernel_rfl]
 refine FC.of' (rs := [.t 0]) (H := wMd h_l14_awake sMd) (lc := c_l14_awake sF) (n := 0) Tryz.func11 Tryz.mx ?a ?b ?c ?d ?e ?f
 case f => have hw := w_l14_awake k_square_Initial k_square_Kind k_r05_Same; assumption
 case a | b | c => kernel_rfl
 case d | e => rfl
theorem k_r05_Made : K_r05_Made Tryz.prog sF := by
 unfold K_r05_Made
 rw [show sF "r05.Made" = 22 by kernel_rfl]
 intro x hx h1 h2
 refine FC.of' (rs := [.c 2 true 2]) (H := wMd h_r05_Made sMd) (lc := c_r05_Made sF) (n := 1) Tryz.func22 Tryz.mx ?a ?b ?c ?d ?e ?f
 case f => have hw := w_r05_Made (P := Tryz.prog) (F := sF) x hx h1 h2; assumption
 case a | b | c => kernel_rfl
 case d | e => rfl
theorem k_r05_Copied : K_r05_Copied Tryz.prog sF := by
 unfold K_r05_Copied
 rw [show sF "r05.Copied" = 49 by kernel_rfl]
 intro g h0 h1
 refine FC.of' (rs := [.c 2 true 2]) (H := wMd h_r05_Copied sMd) (lc := c_r05_Copied sF) (n := 1) Tryz.func49 Tryz.mx ?a ?b ?c ?d ?e ?f
 case f => have hw := w_r05_Copied (P := Tryz.prog) (F := sF) g h0 h1; assumption
 case a | b | c => kernel_rfl
 case d | e => rfl
theorem k_r02_Finest : K_r02_Finest Tryz.prog sF := by
 unfold K_r02_Finest
 rw [show sF "r02.Finest" = 90 by kernel_rfl]
 intro n h2
 refine FC.of' (rs := [.t 2]) (H := wMd h_r02_Finest sMd) (lc := c_r02_Finest sF) (n := 1) Tryz.func90 Tryz.mx ?a ?b ?c ?d ?e ?f
 case f => have hw := w_r02_Finest (P := Tryz.prog) (F := sF) n h2; assumption
 case a | b | c => kernel_rfl
 case d | e => rfl
theorem k_r06_Of : K_r06_Of Tryz.prog sF := by
 unfold K_r06_Of
 rw [show sF "r06.Of" = 50 by kernel_rfl]
 intro g h1 h2
 refine FC.of' (rs := [.c 2 true 2]) (H := wMd h_r06_Of sMd) (lc := c_r06_Of sF) (n := 1) Tryz.func50 Tryz.mx ?a ?b ?c ?d ?e ?f
 case f => have hw := w_r06_Of k_r02_Finest g h1 h2; assumption
 case a | b | c => kernel_rfl
 case d | e => rfl
theorem k_r06_numbers : K_r06_numbers Tryz.prog sF := by
 unfold K_r06_numbers
 rw [show sF "r06.numbers" = 102 by kernel_rfl]
 intro l hl hb
 refine FC.of' (rs := [.t 2]) (H := wMd h_r06_numbers sMd) (lc := c_r06_numbers sF) (n := 1) Tryz.func102 Tryz.mx ?a ?b ?c ?d ?e ?f
 case f => have hw := w_r06_numbers (P := Tryz.prog) (F := sF) l hl hb; assumption
 case a | b | c => kernel_rfl
 case d | e => rfl
theorem k_r02_Merge : K_r02_Merge Tryz.prog sF := by
 unfold K_r02_Merge
 rw [show sF "r02.Merge" = 103 by kernel_rfl]
 intro p a b hl ha hb
 refine FC.of' (rs := [.t 6]) (H := wMd h_r02_Merge sMd) (lc := c_r02_Merge sF) (n := 3) Tryz.func103 Tryz.mx ?a ?b ?c ?d ?e ?f
 case f => have hw := w_r02_Merge (P := Tryz.prog) (F := sF) p a b hl ha hb; assumption
 case a | b | c => kernel_rfl
 case d | e => rfl
theorem k_r02_Valid : K_r02_Valid Tryz.prog sF := by
 unfold K_r02_Valid
 rw [show sF "r02.Valid" = 171 by kernel_rfl]
 intro p hp
 refine FC.of' (rs := [.t 2]) (H := wMd h_r02_Valid sMd) (lc := c_r02_Valid sF) (n := 1) Tryz.func171 Tryz.mx ?a ?b ?c ?d ?e ?f
 case f => have hw := w_r02_Valid (P := Tryz.prog) (F := sF) p hp; assumption
 case a | b | c => kernel_rfl
 case d | e => rfl
theorem k_r02_one : K_r02_one Tryz.prog sF := by
 unfold K_r02_one
 rw [show sF "r02.one" = 151 by kernel_rfl]
 intro p hp
 refine FC.of' (rs := [.t 2]) (H := wMd h_r02_one sMd) (lc := c_r02_one sF) (n := 1) Tryz.func151 Tryz.mx ?a ?b ?c ?d ?e ?f
 case f => have hw := w_r02_one k_r02_Valid p hp; assumption
 case a | b | c => kernel_rfl
 case d | e => rfl
theorem k_r02_Quotient : K_r02_Quotient Tryz.prog sF := by
 unfold K_r02_Quotient
 rw [show sF "r02.Quotient" = 104 by kernel_rfl]
 intro p hp
 refine FC.of' (rs := [.t 2, .t 3, .t 4]) (H := wMd h_r02_Quotient sMd) (lc := c_r02_Quotient sF) (n := 1) Tryz.func104 Tryz.mx ?a ?b ?c ?d ?e ?f
 case f => have hw := w_r02_Quotient k_r02_one p hp; assumption
 case a | b | c => kernel_rfl
 case d | e => rfl
theorem k_r06_Image : K_r06_Image Tryz.prog sF := by
 unfold K_r06_Image
 rw [show sF "r06.Image" = 60 by kernel_rfl]
 intro g l hv hl hb
 refine FC.of' (rs := [.c 4 true 2, .c 5 true 2]) (H := wMd h_r06_Image sMd) (lc := c_r06_Image sF) (n := 2) Tryz.func60 Tryz.mx ?a ?b ?c ?d ?e ?f
 case f => have hw := w_r06_Image k_r06_numbers k_r02_Finest k_r02_Merge k_r02_Quotient g l hv hl hb; assumption
 case a | b | c => kernel_rfl
 case d | e => rfl
theorem k_r10_Grown : K_r10_Grown Tryz.prog sF := by
 unfold K_r10_Grown
 rw [show sF "r10.Grown" = 23 by kernel_rfl]
 intro a c hv hl hb
 refine FC.of' (rs := [.c 4 true 2, .c 5 true 2]) (H := wMd h_r10_Grown sMd) (lc := c_r10_Grown sF) (n := 2) Tryz.func23 Tryz.mx ?a ?b ?c ?d ?e ?f
 case f => have hw := w_r10_Grown k_r05_Copied k_r06_Of k_r06_Image a c hv hl hb; assumption
 case a | b | c => kernel_rfl
 case d | e => rfl
theorem k_r10_Made : K_r10_Made Tryz.prog sF := by
 unfold K_r10_Made
 rw [show sF "r10.Made" = 20 by kernel_rfl]
 intro d b c hd d1 d2 b1 b2 c1 c2
 refine FC.of' (rs := [.c 6 true 10]) (H := wMd h_r10_Made sMd) (lc := c_r10_Made sF) (n := 3) Tryz.func20 Tryz.mx ?a ?b ?c ?d ?e ?f
 case f => have hw := w_r10_Made k_r05_Made k_r10_Grown d b c hd d1 d2 b1 b2 c1 c2; assumption
 case a | b | c => kernel_rfl
 case d | e => rfl
theorem k_r05_kind : K_r05_kind Tryz.prog sF := by
 unfold K_r05_kind
 rw [show sF "r05.kind" = 138 by kernel_rfl]
 intro n
 refine FC.of' (rs := [.t 2]) (H := wMd h_r05_kind sMd) (lc := c_r05_kind sF) (n := 1) Tryz.func138 Tryz.mx ?a ?b ?c ?d ?e ?f
 case f => have hw := w_r05_kind (P := Tryz.prog) (F := sF) n; assumption
 case a | b | c => kernel_rfl
 case d | e => rfl
theorem k_r05_right : K_r05_right Tryz.prog sF := by
 unfold K_r05_right
 rw [show sF "r05.right" = 139 by kernel_rfl]
 intro x n
 refine FC.of' (rs := [.t 4]) (H := wMd h_r05_right sMd) (lc := c_r05_right sF) (n := 2) Tryz.func139 Tryz.mx ?a ?b ?c ?d ?e ?f
 case f => have hw := w_r05_right k_r05_kind x n; assumption
 case a | b | c => kernel_rfl
 case d | e => rfl
theorem k_r05_Valid : K_r05_Valid Tryz.prog sF := by
 unfold K_r05_Valid
 rw [show sF "r05.Valid" = 88 by kernel_rfl]
 intro g
 refine FC.of' (rs := [.t 2]) (H := wMd h_r05_Valid sMd) (lc := c_r05_Valid sF) (n := 1) Tryz.func88 Tryz.mx ?a ?b ?c ?d ?e ?f
 case f => have hw := w_r05_Valid k_r05_kind k_r05_right g; assumption
 case a | b | c => kernel_rfl
 case d | e => rfl
theorem k_r06_Valid : K_r06_Valid Tryz.prog sF := by
 unfold K_r06_Valid
 rw [show sF "r06.Valid" = 45 by kernel_rfl]
 intro a b m
 refine FC.of' (rs := [.t 6]) (H := wMd h_r06_Valid sMd) (lc := c_r06_Valid sF) (n := 3) Tryz.func45 Tryz.mx ?a ?b ?c ?d ?e ?f
 case f => have hw := w_r06_Valid k_r05_Valid a b m; assumption
 case a | b | c => kernel_rfl
 case d | e => rfl
theorem k_r10_Span : K_r10_Span Tryz.prog sF := by
 unfold K_r10_Span
 rw [show sF "r10.Span" = 99 by kernel_rfl]
 intro s
 refine FC.of' (rs := [.t 2]) (H := wMd h_r10_Span sMd) (lc := c_r10_Span sF) (n := 1) Tryz.func99 Tryz.mx ?a ?b ?c ?d ?e ?f
 case f => have hw := w_r10_Span k_r06_Valid s; assumption
 case a | b | c => kernel_rfl
 case d | e => rfl
theorem k_r05_Numbers : K_r05_Numbers Tryz.prog sF := by
 unfold K_r05_Numbers
 rw [show sF "r05.Numbers" = 106 by kernel_rfl]
 intro f n h0 h1 h2
 refine FC.of' (rs := [.t 4]) (H := wMd h_r05_Numbers sMd) (lc := c_r05_Numbers sF) (n := 2) Tryz.func106 Tryz.mx ?a ?b ?c ?d ?e ?f
 case f => have hw := w_r05_Numbers (P := Tryz.prog) (F := sF) f n h0 h1 h2; assumption
 case a | b | c => kernel_rfl
 case d | e => rfl
theorem k_r05_Union : K_r05_Union Tryz.prog sF := by
 unfold K_r05_Union
 rw [show sF "r05.Union" = 66 by kernel_rfl]
 intro a b
 refine FC.of' (rs := [.c 4 true 2, .c 5 true 2, .c 6 true 2, .t 7]) (H := wMd h_r05_Union sMd) (lc := c_r05_Union sF) (n := 2) Tryz.func66 Tryz.mx ?a ?b ?c ?d ?e ?f
 case f => have hw := w_r05_Union k_r05_Valid k_r05_Copied k_r05_Numbers a b; assumption
 case a | b | c => kernel_rfl
 case d | e => rfl
theorem k_r06_Through : K_r06_Through Tryz.prog sF := by
 unfold K_r06_Through
 rw [show sF "r06.Through" = 75 by kernel_rfl]
 intro l b hl hb
 refine FC.of' (rs := [.t 4]) (H := wMd h_r06_Through sMd) (lc := c_r06_Through sF) (n := 2) Tryz.func75 Tryz.mx ?a ?b ?c ?d ?e ?f
 case f => have hw := w_r06_Through (P := Tryz.prog) (F := sF) l b hl hb; assumption
 case a | b | c => kernel_rfl
 case d | e => rfl
theorem k_r06_Then : K_r06_Then Tryz.prog sF := by
 unfold K_r06_Then
 rw [show sF "r06.Then" = 34 by kernel_rfl]
 intro m n h1 h2 h3 h4
 refine FC.of' (rs := [.c 4 true 2]) (H := wMd h_r06_Then sMd) (lc := c_r06_Then sF) (n := 2) Tryz.func34 Tryz.mx ?a ?b ?c ?d ?e ?f
 case f => have hw := w_r06_Then k_r06_Through m n h1 h2 h3 h4; assumption
 case a | b | c => kernel_rfl
 case d | e => rfl
theorem k_r10_pairs : K_r10_pairs Tryz.prog sF := by
 unfold K_r10_pairs
 rw [show sF "r10.pairs" = 149 by kernel_rfl]
 intro f g hf hg
 refine FC.of' (rs := [.t 4]) (H := wMd h_r10_pairs sMd) (lc := c_r10_pairs sF) (n := 2) Tryz.func149 Tryz.mx ?a ?b ?c ?d ?e ?f
 case f => have hw := w_r10_pairs (P := Tryz.prog) (F := sF) f g hf hg; assumption
 case a | b | c => kernel_rfl
 case d | e => rfl
theorem k_r02_Generate : K_r02_Generate Tryz.prog sF := by
 unfold K_r02_Generate
 rw [show sF "r02.Generate" = 148 by kernel_rfl]
 intro n l hn hl hp
 refine FC.of' (rs := [.t 4, .t 5]) (H := wMd h_r02_Generate sMd) (lc := c_r02_Generate sF) (n := 2) Tryz.func148 Tryz.mx ?a ?b ?c ?d ?e ?f
 case f => have hw := w_r02_Generate k_r02_Finest k_r02_Merge n l hn hl hp; assumption
 case a | b | c => kernel_rfl
 case d | e => rfl
theorem k_r10_Quotient : K_r10_Quotient Tryz.prog sF := by
 unfold K_r10_Quotient
 rw [show sF "r10.Quotient" = 150 by kernel_rfl]
 intro g p r hv hc
 refine FC.of' (rs := [.c 6 true 2, .c 7 true 2]) (H := wMd h_r10_Quotient sMd) (lc := c_r10_Quotient sF) (n := 3) Tryz.func150 Tryz.mx ?a ?b ?c ?d ?e ?f
 case f => have hw := w_r10_Quotient k_r02_Quotient g p r hv hc; assumption
 case a | b | c => kernel_rfl
 case d | e => rfl
theorem k_r10_glue : K_r10_glue Tryz.prog sF := by
 unfold K_r10_glue
 rw [show sF "r10.glue" = 100 by kernel_rfl]
 intro a g f h hf hh
 refine FC.of' (rs := [.c 6 true 2, .c 7 true 2]) (H := wMd h_r10_glue sMd) (lc := c_r10_glue sF) (n := 3) Tryz.func100 Tryz.mx ?a ?b ?c ?d ?e ?f
 case f => have hw := w_r10_glue k_r10_pairs k_r02_Generate k_r10_Quotient a g f h hf hh; assumption
 case a | b | c => kernel_rfl
 case d | e => rfl
theorem k_r10_Of : K_r10_Of Tryz.prog sF := by
 unfold K_r10_Of
 rw [show sF "r10.Of" = 58 by kernel_rfl]
 intro s
 refine FC.of' (rs := [.c 2 true 2, .c 3 true 2, .c 4 true 2, .t 5]) (H := wMd h_r10_Of sMd) (lc := c_r10_Of sF) (n := 1) Tryz.func58 Tryz.mx ?a ?b ?c ?d ?e ?f
 case f => have hw := w_r10_Of k_r10_Span k_r05_Union k_r06_Then k_r10_glue s; assumption
 case a | b | c => kernel_rfl
 case d | e => rfl
theorem k_r14_Glued : K_r14_Glued Tryz.prog sF := by
 unfold K_r14_Glued
 rw [show sF "r14.Glued" = 19 by kernel_rfl]
 intro s
 refine FC.of' (rs := [.c 2 true 16]) (H := wMd h_r14_Glued sMd) (lc := c_r14_Glued sF) (n := 1) Tryz.func19 Tryz.mx ?a ?b ?c ?d ?e ?f
 case f => have hw := w_r14_Glued k_r10_Of s; assumption
 case a | b | c => kernel_rfl
 case d | e => rfl
theorem k_slices_Equal_E : K_slices_Equal_E Tryz.prog sF := by
 unfold K_slices_Equal_E
 rw [show sF "slices.Equal.E" = 115 by kernel_rfl]
 intro a b hl
 refine FC.of' (rs := [.t 4]) (H := wMd h_slices_Equal_E sMd) (lc := c_slices_Equal_E sF) (n := 2) Tryz.func115 Tryz.mx ?a ?b ?c ?d ?e ?f
 case f => have hw := w_slices_Equal_E (P := Tryz.prog) (F := sF) a b hl; assumption
 case a | b | c => kernel_rfl
 case d | e => rfl
theorem k_square_same : K_square_same Tryz.prog sF := by
 unfold K_square_same
 rw [show sF "square.same" = 72 by kernel_rfl]
 intro a b l1 l2
 refine FC.of' (rs := [.t 4]) (H := wMd h_square_same sMd) (lc := c_square_same sF) (n := 2) Tryz.func72 Tryz.mx ?a ?b ?c ?d ?e ?f
 case f => have hw := w_square_same k_slices_Equal_I k_slices_Equal_E a b l1 l2; assumption
 case a | b | c => kernel_rfl
 case d | e => rfl
theorem k_square_Paste : K_square_Paste Tryz.prog sF := by
 unfold K_square_Paste
 rw [show sF "square.Paste" = 32 by kernel_rfl]
 intro s t hs ht2
 refine FC.of' (rs := [.c 4 true 16, .t 5]) (H := wMd h_square_Paste sMd) (lc := c_square_Paste sF) (n := 2) Tryz.func32 Tryz.mx ?a ?b ?c ?d ?e ?f
 case f => have hw := w_square_Paste k_square_valid k_square_same k_morphism_Same k_square_then k_square_copied k_square_arrow s t hs ht2; assumption
 case a | b | c => kernel_rfl
 case d | e => rfl
theorem k_l14_SquarePastes : K_l14_SquarePastes Tryz.prog sF := by
 unfold K_l14_SquarePastes
 rw [show sF "l14.SquarePastes" = 8 by kernel_rfl]
 intro d b c e m hd d1 d2 hb hc he hmm
 refine FC.of' (rs := [.t 6]) (H := wMd h_l14_SquarePastes sMd) (lc := c_l14_SquarePastes sF) (n := 3) Tryz.func8 Tryz.mx ?a ?b ?c ?d ?e ?f
 case f => have hw := w_l14_SquarePastes k_l14_awake k_r10_Made k_r14_Glued k_r10_Grown k_square_Paste k_square_Kind k_r06_Then d b c e m hd d1 d2 hb hc he hmm; assumption
 case a | b | c => kernel_rfl
 case d | e => rfl
end Go.Proofs.YtelmgaflhmcihaaGreat
