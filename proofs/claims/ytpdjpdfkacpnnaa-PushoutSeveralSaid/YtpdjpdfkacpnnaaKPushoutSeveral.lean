/- The functions of this seat, their contracts. Printed by seat.py. -/
import Derived.Test.YtpdjpdfkacpnnaaRows
import Derived.KernelRfl
import Derived.Test.YtpdjpdfkacpnnaaSpPa
import Derived.Test.YtpdjpdfkacpnnaaSpPb
import Derived.Test.YtpdjpdfkacpnnaaSpPc
import Derived.Test.YtpdjpdfkacpnnaaSpPd
import Derived.Test.YtpdjpdfkacpnnaaSpXa
namespace Go.Proofs.Ytpdjpdfkacpnnaa
open Go Go.Am
attribute [local irreducible] W
set_option linter.unusedVariables false
set_option linter.unusedSimpArgs false
def sF : String → Nat := lkS [("l10.PushoutSeveral", 4), ("l10.awake", 10), ("r05.Few", 11), ("r05.Same", 15), ("r06.Same", 16), ("r06.Few", 18), ("pushout.Several", 19), ("slices.Clone.apiGraph", 20), ("slices.Clone.apiMorphism", 21), ("r10.Several", 22), ("r06.SameAll", 23), ("pushout.Of", 27), ("morphism.Valid", 29), ("r06.Then", 31), ("r10.Of", 33), ("l10.path", 39), ("slices.Equal.E", 40), ("pushout.quotient", 41), ("r06.Valid", 43), ("r10.glue", 44), ("r05.SameInts", 45), ("r02.SameInts", 46), ("morphism.Identity", 48), ("slices.Clone.I", 49), ("slices.Clone.E", 50), ("pushout.then", 51), ("r05.Copied", 52), ("r06.Of", 53), ("pushout.span", 54), ("pushout.glue", 55), ("graph.Valid", 61), ("r06.Through", 63), ("r10.Span", 65), ("r05.Union", 66), ("r05.Numbers", 68), ("r05.Valid", 69), ("partition.Generate", 71), ("partition.Quotient", 72), ("r02.Generate", 73), ("r10.pairs", 74), ("r10.Quotient", 75), ("morphism.numbers", 76), ("pushout.follow", 77), ("r02.Finest", 78), ("graph.Union", 79), ("pushout.pairs", 80), ("slices.ContainsFunc.I", 82), ("graph.Valid.1", 83), ("graph.within", 84), ("slices.ContainsFunc.E", 85), ("graph.Valid.2", 86), ("graph.fits", 87), ("r02.Merge", 89), ("r02.Quotient", 90), ("r05.kind", 95), ("r05.right", 96), ("partition.finest", 97), ("partition.unite", 98), ("partition.flat", 99), ("partition.one", 100), ("slices.Concat.I", 101), ("graph.numbers", 102), ("slices.IndexFunc.I", 103), ("slices.IndexFunc.E", 104), ("r02.one", 105), ("partition.root", 109), ("partition.right", 110), ("slices.Grow.I", 111), ("r02.Valid", 112)]
def sMd : Nat → List Md := lkM [(98, [.mu, .rd, .rd]), (99, [.ow])]
theorem Try.mx : Try.prog.follows .mixedOrders = true := by kernel_rfl
theorem k_l10_path : K_l10_path Try.prog sF := by
 unfold K_l10_path
 rw [show sF "l10.path" = 39 by kernel_rfl]
 intro n h1 h2
 refine FC.of' (rs := [.c 2 true 2]) (H := wMd h_l10_path sMd) (lc := c_l10_path sF) (n := 1) Try.func39 Try.mx ?a ?b ?c ?d ?e ?f
 case f => have hw := w_l10_path (P := Try.prog) (F := sF) n h1 h2; assumption
 case a | b | c => kernel_rfl
 case d | e => rfl
theorem k_slices_IndexFunc_I : K_slices_IndexFunc_I Try.prog sF := by
 unfold K_slices_IndexFunc_I
 rw [show sF "slices.IndexFunc.I" = 103 by kernel_rfl]
 intro l hl g cs hcs p hg
 refine FC.of' (rs := [.t 4]) (H := wMd h_slices_IndexFunc_I sMd) (lc := c_slices_IndexFunc_I sF) (n := 2) Try.func103 Try.mx ?a ?b ?c ?d ?e ?f
 case f => have hw := w_slices_IndexFunc_I (P := Try.prog) (F := sF) l hl g cs hcs p hg; assumption
 case a | b | c => kernel_rfl
 case d => rfl
 case e => first | rfl | (simp only [List.all_cons, List.all_nil, Bool.and_true]; first | rfl | assumption | exact caps_ok hcs)
theorem k_slices_ContainsFunc_I : K_slices_ContainsFunc_I Try.prog sF := by
 unfold K_slices_ContainsFunc_I
 rw [show sF "slices.ContainsFunc.I" = 82 by kernel_rfl]
 intro l hl g cs hcs p hg
 refine FC.of' (rs := [.t 4]) (H := wMd h_slices_ContainsFunc_I sMd) (lc := c_slices_ContainsFunc_I sF) (n := 2) Try.func82 Try.mx ?a ?b ?c ?d ?e ?f
 case f => have hw := w_slices_ContainsFunc_I k_slices_IndexFunc_I l hl g cs hcs p hg; assumption
 case a | b | c => kernel_rfl
 case d => rfl
 case e => first | rfl | (simp only [List.all_cons, List.all_nil, Bool.and_true]; first | rfl | assumption | exact caps_ok hcs)
theorem k_slices_IndexFunc_E : K_slices_IndexFunc_E Try.prog sF := by
 unfold K_slices_IndexFunc_E
 rw [show sF "slices.IndexFunc.E" = 104 by kernel_rfl]
 intro l hl g cs hcs p hg
 refine FC.of' (rs := [.t 4]) (H := wMd h_slices_IndexFunc_E sMd) (lc := c_slices_IndexFunc_E sF) (n := 2) Try.func104 Try.mx ?a ?b ?c ?d ?e ?f
 case f => have hw := w_slices_IndexFunc_E (P := Try.prog) (F := sF) l hl g cs hcs p hg; assumption
 case a | b | c => kernel_rfl
 case d => rfl
 case e => first | rfl | (simp only [List.all_cons, List.all_nil, Bool.and_true]; first | rfl | assumption | exact caps_ok hcs)
theorem k_slices_ContainsFunc_E : K_slices_ContainsFunc_E Try.prog sF := by
 unfold K_slices_ContainsFunc_E
 rw [show sF "slices.ContainsFunc.E" = 85 by kernel_rfl]
 intro l hl g cs hcs p hg
 refine FC.of' (rs := [.t 4]) (H := wMd h_slices_ContainsFunc_E sMd) (lc := c_slices_ContainsFunc_E sF) (n := 2) Try.func85 Try.mx ?a ?b ?c ?d ?e ?f
 case f => have hw := w_slices_ContainsFunc_E k_slices_IndexFunc_E l hl g cs hcs p hg; assumption
 case a | b | c => kernel_rfl
 case d => rfl
 case e => first | rfl | (simp only [List.all_cons, List.all_nil, Bool.and_true]; first | rfl | assumption | exact caps_ok hcs)
theorem k_graph_within : K_graph_within Try.prog sF := by
 unfold K_graph_within
 rw [show sF "graph.within" = 84 by kernel_rfl]
 intro n m
 refine FC.of' (rs := [.t 4]) (H := wMd h_graph_within sMd) (lc := c_graph_within sF) (n := 2) Try.func84 Try.mx ?a ?b ?c ?d ?e ?f
 case f => have hw := w_graph_within (P := Try.prog) (F := sF) n m; assumption
 case a | b | c => kernel_rfl
 case d | e => rfl
theorem k_graph_Valid_1 : K_graph_Valid_1 Try.prog sF := by
 unfold K_graph_Valid_1
 rw [show sF "graph.Valid.1" = 83 by kernel_rfl]
 intro x
 refine FC.of' (rs := [.t 2]) (H := wMd h_graph_Valid_1 sMd) (lc := c_graph_Valid_1 sF) (n := 1) Try.func83 Try.mx ?a ?b ?c ?d ?e ?f
 case f => have hw := w_graph_Valid_1 k_graph_within x; assumption
 case a | b | c => kernel_rfl
 case d | e => rfl
theorem k_graph_fits : K_graph_fits Try.prog sF := by
 unfold K_graph_fits
 rw [show sF "graph.fits" = 87 by kernel_rfl]
 intro x n hn
 refine FC.of' (rs := [.t 4]) (H := wMd h_graph_fits sMd) (lc := c_graph_fits sF) (n := 2) Try.func87 Try.mx ?a ?b ?c ?d ?e ?f
 case f => have hw := w_graph_fits k_graph_within x n hn; assumption
 case a | b | c => kernel_rfl
 case d | e => rfl
theorem k_graph_Valid_2 : K_graph_Valid_2 Try.prog sF := by
 unfold K_graph_Valid_2
 rw [show sF "graph.Valid.2" = 86 by kernel_rfl]
 intro x ns es hn
 refine FC.of' (rs := [.t 3]) (H := wMd h_graph_Valid_2 sMd) (lc := c_graph_Valid_2 sF) (n := 2) Try.func86 Try.mx ?a ?b ?c ?d ?e ?f
 case f => have hw := w_graph_Valid_2 k_graph_fits x ns es hn; assumption
 case a | b | c => kernel_rfl
 case d | e => rfl
theorem k_graph_Valid : K_graph_Valid Try.prog sF := by
 unfold K_graph_Valid
 rw [show sF "graph.Valid" = 61 by kernel_rfl]
 intro g
 refine FC.of' (rs := [.t 2]) (H := wMd h_graph_Valid sMd) (lc := c_graph_Valid sF) (n := 1) Try.func61 Try.mx ?a ?b ?c ?d ?e ?f
 case f => have hw := w_graph_Valid k_slices_ContainsFunc_I k_slices_ContainsFunc_E k_graph_Valid_1 k_graph_Valid_2 g; assumption
 case a | b | c => kernel_rfl
 case d | e => rfl
theorem k_morphism_Valid : K_morphism_Valid Try.prog sF := by
 unfold K_morphism_Valid
 rw [show sF "morphism.Valid" = 29 by kernel_rfl]
 intro a b m
 refine FC.of' (rs := [.t 6]) (H := wMd h_morphism_Valid sMd) (lc := c_morphism_Valid sF) (n := 3) Try.func29 Try.mx ?a ?b ?c ?d ?e ?f
 case f => have hw := w_morphism_Valid k_graph_Valid a b m; assumption
 case a | b | c => kernel_rfl
 case d | e => rfl
theorem k_pushout_span : K_pushout_span Try.prog sF := by
 unfold K_pushout_span
 rw [show sF "pushout.span" = 54 by kernel_rfl]
 intro s
 refine FC.of' (rs := [.t 2]) (H := wMd h_pushout_span sMd) (lc := c_pushout_span sF) (n := 1) Try.func54 Try.mx ?a ?b ?c ?d ?e ?f
 case f => have hw := w_pushout_span k_morphism_Valid s; assumption
 case a | b | c => kernel_rfl
 case d | e => rfl
theorem k_slices_Grow_I : K_slices_Grow_I Try.prog sF := by
 unfold K_slices_Grow_I
 rw [show sF "slices.Grow.I" = 111 by kernel_rfl]
 intro n hn
 refine FC.of' (rs := [.t 4]) (H := wMd h_slices_Grow_I sMd) (lc := c_slices_Grow_I sF) (n := 2) Try.func111 Try.mx ?a ?b ?c ?d ?e ?f
 case f => have hw := w_slices_Grow_I (P := Try.prog) (F := sF) n hn; assumption
 case a | b | c => kernel_rfl
 case d | e => rfl
theorem k_slices_Concat_I : K_slices_Concat_I Try.prog sF := by
 unfold K_slices_Concat_I
 rw [show sF "slices.Concat.I" = 101 by kernel_rfl]
 intro a b ha hb
 refine FC.of' (rs := [.t 2]) (H := wMd h_slices_Concat_I sMd) (lc := c_slices_Concat_I sF) (n := 1) Try.func101 Try.mx ?a ?b ?c ?d ?e ?f
 case f => have hw := w_slices_Concat_I k_slices_Grow_I a b ha hb; assumption
 case a | b | c => kernel_rfl
 case d | e => rfl
theorem k_slices_Clone_E : K_slices_Clone_E Try.prog sF := by
 unfold K_slices_Clone_E
 rw [show sF "slices.Clone.E" = 50 by kernel_rfl]
 intro l hl
 refine FC.of' (rs := [.t 2]) (H := wMd h_slices_Clone_E sMd) (lc := c_slices_Clone_E sF) (n := 1) Try.func50 Try.mx ?a ?b ?c ?d ?e ?f
 case f => have hw := w_slices_Clone_E (P := Try.prog) (F := sF) l hl; assumption
 case a | b | c => kernel_rfl
 case d | e => rfl
theorem k_graph_numbers : K_graph_numbers Try.prog sF := by
 unfold K_graph_numbers
 rw [show sF "graph.numbers" = 102 by kernel_rfl]
 intro f n h0 h1 h2
 refine FC.of' (rs := [.t 4]) (H := wMd h_graph_numbers sMd) (lc := c_graph_numbers sF) (n := 2) Try.func102 Try.mx ?a ?b ?c ?d ?e ?f
 case f => have hw := w_graph_numbers (P := Try.prog) (F := sF) f n h0 h1 h2; assumption
 case a | b | c => kernel_rfl
 case d | e => rfl
theorem k_graph_Union : K_graph_Union Try.prog sF := by
 unfold K_graph_Union
 rw [show sF "graph.Union" = 79 by kernel_rfl]
 intro a b
 refine FC.of' (rs := [.c 4 true 2, .c 5 true 2, .c 6 true 2, .t 7]) (H := wMd h_graph_Union sMd) (lc := c_graph_Union sF) (n := 2) Try.func79 Try.mx ?a ?b ?c ?d ?e ?f
 case f => have hw := w_graph_Union k_graph_Valid k_slices_Concat_I k_slices_Clone_E k_graph_numbers a b; assumption
 case a | b | c => kernel_rfl
 case d | e => rfl
theorem k_pushout_pairs : K_pushout_pairs Try.prog sF := by
 unfold K_pushout_pairs
 rw [show sF "pushout.pairs" = 80 by kernel_rfl]
 intro f g l r hf hg h1 h2
 refine FC.of' (rs := [.t 8]) (H := wMd h_pushout_pairs sMd) (lc := c_pushout_pairs sF) (n := 4) Try.func80 Try.mx ?a ?b ?c ?d ?e ?f
 case f => have hw := w_pushout_pairs (P := Try.prog) (F := sF) f g l r hf hg h1 h2; assumption
 case a | b | c => kernel_rfl
 case d | e => rfl
theorem k_partition_finest : K_partition_finest Try.prog sF := by
 unfold K_partition_finest
 rw [show sF "partition.finest" = 97 by kernel_rfl]
 intro n hn
 refine FC.of' (rs := [.t 2]) (H := wMd h_partition_finest sMd) (lc := c_partition_finest sF) (n := 1) Try.func97 Try.mx ?a ?b ?c ?d ?e ?f
 case f => have hw := w_partition_finest (P := Try.prog) (F := sF) n hn; assumption
 case a | b | c => kernel_rfl
 case d | e => rfl
theorem k_partition_root : K_partition_root Try.prog sF := by
 unfold K_partition_root
 rw [show sF "partition.root" = 109 by kernel_rfl]
 intro p r i h hl hi
 refine FC.of' (rs := [.t 4]) (H := wMd h_partition_root sMd) (lc := c_partition_root sF) (n := 2) Try.func109 Try.mx ?a ?b ?c ?d ?e ?f
 case f => have hw := w_partition_root (P := Try.prog) (F := sF) p r i h hl hi; assumption
 case a | b | c => kernel_rfl
 case d | e => rfl
theorem k_partition_unite : K_partition_unite Try.prog sF := by
 unfold K_partition_unite
 rw [show sF "partition.unite" = 98 by kernel_rfl]
 intro p r a b h hl ha hb
 refine FC.ofO (rs := []) (H := wMd h_partition_unite sMd) (lc := c_partition_unite sF) (n := 3) (outs := [0]) Try.func98 Try.mx ?a ?b ?c ?d ?e ?f
 case f => have hw := w_partition_unite k_partition_root p r a b h hl ha hb; assumption
 case a | b | c => kernel_rfl
 case d | e => rfl
theorem k_partition_flat : K_partition_flat Try.prog sF := by
 unfold K_partition_flat
 rw [show sF "partition.flat" = 99 by kernel_rfl]
 intro p r h hl
 refine FC.of' (rs := [.t 2]) (H := wMd h_partition_flat sMd) (lc := c_partition_flat sF) (n := 1) Try.func99 Try.mx ?a ?b ?c ?d ?e ?f
 case f => have hw := w_partition_flat k_partition_root p r h hl; assumption
 case a | b | c => kernel_rfl
 case d | e => rfl
theorem k_partition_Generate : K_partition_Generate Try.prog sF := by
 unfold K_partition_Generate
 rw [show sF "partition.Generate" = 71 by kernel_rfl]
 intro n l hn hl hp
 refine FC.of' (rs := [.t 4, .t 5]) (H := wMd h_partition_Generate sMd) (lc := c_partition_Generate sF) (n := 2) Try.func71 Try.mx ?a ?b ?c ?d ?e ?f
 case f => have hw := w_partition_Generate k_partition_finest k_partition_unite k_partition_flat n l hn hl hp; assumption
 case a | b | c => kernel_rfl
 case d | e => rfl
theorem k_partition_right : K_partition_right Try.prog sF := by
 unfold K_partition_right
 rw [show sF "partition.right" = 110 by kernel_rfl]
 intro p hp hl
 refine FC.of' (rs := [.t 2]) (H := wMd h_partition_right sMd) (lc := c_partition_right sF) (n := 1) Try.func110 Try.mx ?a ?b ?c ?d ?e ?f
 case f => have hw := w_partition_right (P := Try.prog) (F := sF) p hp hl; assumption
 case a | b | c => kernel_rfl
 case d | e => rfl
theorem k_partition_one : K_partition_one Try.prog sF := by
 unfold K_partition_one
 rw [show sF "partition.one" = 100 by kernel_rfl]
 intro p hp hl
 refine FC.of' (rs := [.t 2]) (H := wMd h_partition_one sMd) (lc := c_partition_one sF) (n := 1) Try.func100 Try.mx ?a ?b ?c ?d ?e ?f
 case f => have hw := w_partition_one k_partition_right p hp hl; assumption
 case a | b | c => kernel_rfl
 case d | e => rfl
theorem k_partition_Quotient : K_partition_Quotient Try.prog sF := by
 unfold K_partition_Quotient
 rw [show sF "partition.Quotient" = 72 by kernel_rfl]
 intro p hp hl
 refine FC.of' (rs := [.t 2, .t 3, .t 4]) (H := wMd h_partition_Quotient sMd) (lc := c_partition_Quotient sF) (n := 1) Try.func72 Try.mx ?a ?b ?c ?d ?e ?f
 case f => have hw := w_partition_Quotient k_partition_one p hp hl; assumption
 case a | b | c => kernel_rfl
 case d | e => rfl
theorem k_pushout_quotient : K_pushout_quotient Try.prog sF := by
 unfold K_pushout_quotient
 rw [show sF "pushout.quotient" = 41 by kernel_rfl]
 intro g ns es hv l1 l2 p1 p2
 refine FC.of' (rs := [.c 6 true 2, .c 7 true 2, .t 8]) (H := wMd h_pushout_quotient sMd) (lc := c_pushout_quotient sF) (n := 3) Try.func41 Try.mx ?a ?b ?c ?d ?e ?f
 case f => have hw := w_pushout_quotient k_partition_Generate k_partition_Quotient g ns es hv l1 l2 p1 p2; assumption
 case a | b | c => kernel_rfl
 case d | e => rfl
theorem k_pushout_follow : K_pushout_follow Try.prog sF := by
 unfold K_pushout_follow
 rw [show sF "pushout.follow" = 77 by kernel_rfl]
 intro l b hl hb
 refine FC.of' (rs := [.t 4]) (H := wMd h_pushout_follow sMd) (lc := c_pushout_follow sF) (n := 2) Try.func77 Try.mx ?a ?b ?c ?d ?e ?f
 case f => have hw := w_pushout_follow (P := Try.prog) (F := sF) l b hl hb; assumption
 case a | b | c => kernel_rfl
 case d | e => rfl
theorem k_pushout_then : K_pushout_then Try.prog sF := by
 unfold K_pushout_then
 rw [show sF "pushout.then" = 51 by kernel_rfl]
 intro m n h1 h2 h3 h4
 refine FC.of' (rs := [.c 4 true 2]) (H := wMd h_pushout_then sMd) (lc := c_pushout_then sF) (n := 2) Try.func51 Try.mx ?a ?b ?c ?d ?e ?f
 case f => have hw := w_pushout_then k_pushout_follow m n h1 h2 h3 h4; assumption
 case a | b | c => kernel_rfl
 case d | e => rfl
theorem k_pushout_glue : K_pushout_glue Try.prog sF := by
 unfold K_pushout_glue
 rw [show sF "pushout.glue" = 55 by kernel_rfl]
 intro s he
 refine FC.of' (rs := [.c 2 true 2, .c 3 true 2, .c 4 true 2, .t 5]) (H := wMd h_pushout_glue sMd) (lc := c_pushout_glue sF) (n := 1) Try.func55 Try.mx ?a ?b ?c ?d ?e ?f
 case f => have hw := w_pushout_glue k_graph_Union k_pushout_pairs k_pushout_quotient k_pushout_then s he; assumption
 case a | b | c => kernel_rfl
 case d | e => rfl
theorem k_pushout_Of : K_pushout_Of Try.prog sF := by
 unfold K_pushout_Of
 rw [show sF "pushout.Of" = 27 by kernel_rfl]
 intro s
 refine FC.of' (rs := [.c 2 true 2, .c 3 true 2, .c 4 true 2, .t 5]) (H := wMd h_pushout_Of sMd) (lc := c_pushout_Of sF) (n := 1) Try.func27 Try.mx ?a ?b ?c ?d ?e ?f
 case f => have hw := w_pushout_Of k_pushout_span k_pushout_glue s; assumption
 case a | b | c => kernel_rfl
 case d | e => rfl
theorem k_r05_SameInts : K_r05_SameInts Try.prog sF := by
 unfold K_r05_SameInts
 rw [show sF "r05.SameInts" = 45 by kernel_rfl]
 intro a b hl
 refine FC.of' (rs := [.t 4]) (H := wMd h_r05_SameInts sMd) (lc := c_r05_SameInts sF) (n := 2) Try.func45 Try.mx ?a ?b ?c ?d ?e ?f
 case f => have hw := w_r05_SameInts (P := Try.prog) (F := sF) a b hl; assumption
 case a | b | c => kernel_rfl
 case d | e => rfl
theorem k_r05_Same : K_r05_Same Try.prog sF := by
 unfold K_r05_Same
 rw [show sF "r05.Same" = 15 by kernel_rfl]
 intro a b h1 h2
 refine FC.of' (rs := [.t 4]) (H := wMd h_r05_Same sMd) (lc := c_r05_Same sF) (n := 2) Try.func15 Try.mx ?a ?b ?c ?d ?e ?f
 case f => have hw := w_r05_Same k_r05_SameInts a b h1 h2; assumption
 case a | b | c => kernel_rfl
 case d | e => rfl
theorem k_r02_SameInts : K_r02_SameInts Try.prog sF := by
 unfold K_r02_SameInts
 rw [show sF "r02.SameInts" = 46 by kernel_rfl]
 intro a b hl
 refine FC.of' (rs := [.t 4]) (H := wMd h_r02_SameInts sMd) (lc := c_r02_SameInts sF) (n := 2) Try.func46 Try.mx ?a ?b ?c ?d ?e ?f
 case f => have hw := w_r02_SameInts (P := Try.prog) (F := sF) a b hl; assumption
 case a | b | c => kernel_rfl
 case d | e => rfl
theorem k_r06_Same : K_r06_Same Try.prog sF := by
 unfold K_r06_Same
 rw [show sF "r06.Same" = 16 by kernel_rfl]
 intro a b h1 h2
 refine FC.of' (rs := [.t 4]) (H := wMd h_r06_Same sMd) (lc := c_r06_Same sF) (n := 2) Try.func16 Try.mx ?a ?b ?c ?d ?e ?f
 case f => have hw := w_r06_Same k_r02_SameInts a b h1 h2; assumption
 case a | b | c => kernel_rfl
 case d | e => rfl
theorem k_slices_Equal_E : K_slices_Equal_E Try.prog sF := by
 unfold K_slices_Equal_E
 rw [show sF "slices.Equal.E" = 40 by kernel_rfl]
 intro a b hl
 refine FC.of' (rs := [.t 4]) (H := wMd h_slices_Equal_E sMd) (lc := c_slices_Equal_E sF) (n := 2) Try.func40 Try.mx ?a ?b ?c ?d ?e ?f
 case f => have hw := w_slices_Equal_E (P := Try.prog) (F := sF) a b hl; assumption
 case a | b | c => kernel_rfl
 case d | e => rfl
theorem k_l10_awake : K_l10_awake Try.prog sF := by
 unfold K_l10_awake
 rw [show sF "l10.awake" = 10 by kernel_rfl]
 refine FC.of' (rs := [.t 0]) (H := wMd h_l10_awake sMd) (lc := c_l10_awake sF) (n := 0) Try.func10 Try.mx ?a ?b ?c ?d ?e ?f
 case f => have hw := w_l10_awake k_l10_path k_pushout_Of k_r05_Same k_r06_Same k_slices_Equal_E; assumption
 case a | b | c => kernel_rfl
 case d | e => rfl
theorem k_r05_Few : K_r05_Few Try.prog sF := by
 unfold K_r05_Few
 rw [show sF "r05.Few" = 11 by kernel_rfl]
 intro g
 refine FC.of' (rs := [.t 2]) (H := wMd h_r05_Few sMd) (lc := c_r05_Few sF) (n := 1) Try.func11 Try.mx ?a ?b ?c ?d ?e ?f
 case f => have hw := w_r05_Few (P := Try.prog) (F := sF) g; assumption
 case a | b | c => kernel_rfl
 case d | e => rfl
theorem k_r06_Few : K_r06_Few Try.prog sF := by
 unfold K_r06_Few
 rw [show sF "r06.Few" = 18 by kernel_rfl]
 intro m n h1 h2
 refine FC.of' (rs := [.t 4]) (H := wMd h_r06_Few sMd) (lc := c_r06_Few sF) (n := 2) Try.func18 Try.mx ?a ?b ?c ?d ?e ?f
 case f => have hw := w_r06_Few (P := Try.prog) (F := sF) m n h1 h2; assumption
 case a | b | c => kernel_rfl
 case d | e => rfl
theorem k_slices_Clone_apiGraph : K_slices_Clone_apiGraph Try.prog sF := by
 unfold K_slices_Clone_apiGraph
 rw [show sF "slices.Clone.apiGraph" = 20 by kernel_rfl]
 intro l hl
 refine FC.of' (rs := [.t 2]) (H := wMd h_slices_Clone_apiGraph sMd) (lc := c_slices_Clone_apiGraph sF) (n := 1) Try.func20 Try.mx ?a ?b ?c ?d ?e ?f
 case f => have hw := w_slices_Clone_apiGraph (P := Try.prog) (F := sF) l hl; assumption
 case a | b | c => kernel_rfl
 case d | e => rfl
theorem k_slices_Clone_apiMorphism : K_slices_Clone_apiMorphism Try.prog sF := by
 unfold K_slices_Clone_apiMorphism
 rw [show sF "slices.Clone.apiMorphism" = 21 by kernel_rfl]
 intro l hl
 refine FC.of' (rs := [.t 2]) (H := wMd h_slices_Clone_apiMorphism sMd) (lc := c_slices_Clone_apiMorphism sF) (n := 1) Try.func21 Try.mx ?a ?b ?c ?d ?e ?f
 case f => have hw := w_slices_Clone_apiMorphism (P := Try.prog) (F := sF) l hl; assumption
 case a | b | c => kernel_rfl
 case d | e => rfl
theorem k_morphism_numbers : K_morphism_numbers Try.prog sF := by
 unfold K_morphism_numbers
 rw [show sF "morphism.numbers" = 76 by kernel_rfl]
 intro n hn
 refine FC.of' (rs := [.t 2]) (H := wMd h_morphism_numbers sMd) (lc := c_morphism_numbers sF) (n := 1) Try.func76 Try.mx ?a ?b ?c ?d ?e ?f
 case f => have hw := w_morphism_numbers (P := Try.prog) (F := sF) n hn; assumption
 case a | b | c => kernel_rfl
 case d | e => rfl
theorem k_morphism_Identity : K_morphism_Identity Try.prog sF := by
 unfold K_morphism_Identity
 rw [show sF "morphism.Identity" = 48 by kernel_rfl]
 intro g
 refine FC.of' (rs := [.c 2 true 2, .t 3]) (H := wMd h_morphism_Identity sMd) (lc := c_morphism_Identity sF) (n := 1) Try.func48 Try.mx ?a ?b ?c ?d ?e ?f
 case f => have hw := w_morphism_Identity k_graph_Valid k_morphism_numbers g; assumption
 case a | b | c => kernel_rfl
 case d | e => rfl
theorem k_slices_Clone_I : K_slices_Clone_I Try.prog sF := by
 unfold K_slices_Clone_I
 rw [show sF "slices.Clone.I" = 49 by kernel_rfl]
 intro l hl
 refine FC.of' (rs := [.t 2]) (H := wMd h_slices_Clone_I sMd) (lc := c_slices_Clone_I sF) (n := 1) Try.func49 Try.mx ?a ?b ?c ?d ?e ?f
 case f => have hw := w_slices_Clone_I (P := Try.prog) (F := sF) l hl; assumption
 case a | b | c => kernel_rfl
 case d | e => rfl
theorem k_pushout_Several : K_pushout_Several Try.prog sF := by
 unfold K_pushout_Several
 rw [show sF "pushout.Several" = 19 by kernel_rfl]
 intro a l m hl hm
 refine FC.of' (rs := [.c 6 true 2, .t 7, .t 8]) (H := wMd h_pushout_Several sMd) (lc := c_pushout_Several sF) (n := 3) Try.func19 Try.mx ?a ?b ?c ?d ?e ?f
 case f => have hw := w_pushout_Several k_morphism_Valid k_morphism_Identity k_slices_Clone_I k_slices_Clone_E k_pushout_then k_pushout_Of a l m hl hm; assumption
 case a | b | c => kernel_rfl
 case d | e => rfl
theorem k_r05_kind : K_r05_kind Try.prog sF := by
 unfold K_r05_kind
 rw [show sF "r05.kind" = 95 by kernel_rfl]
 intro n
 refine FC.of' (rs := [.t 2]) (H := wMd h_r05_kind sMd) (lc := c_r05_kind sF) (n := 1) Try.func95 Try.mx ?a ?b ?c ?d ?e ?f
 case f => have hw := w_r05_kind (P := Try.prog) (F := sF) n; assumption
 case a | b | c => kernel_rfl
 case d | e => rfl
theorem k_r05_right : K_r05_right Try.prog sF := by
 unfold K_r05_right
 rw [show sF "r05.right" = 96 by kernel_rfl]
 intro x n
 refine FC.of' (rs := [.t 4]) (H := wMd h_r05_right sMd) (lc := c_r05_right sF) (n := 2) Try.func96 Try.mx ?a ?b ?c ?d ?e ?f
 case f => have hw := w_r05_right k_r05_kind x n; assumption
 case a | b | c => kernel_rfl
 case d | e => rfl
theorem k_r05_Valid : K_r05_Valid Try.prog sF := by
 unfold K_r05_Valid
 rw [show sF "r05.Valid" = 69 by kernel_rfl]
 intro g
 refine FC.of' (rs := [.t 2]) (H := wMd h_r05_Valid sMd) (lc := c_r05_Valid sF) (n := 1) Try.func69 Try.mx ?a ?b ?c ?d ?e ?f
 case f => have hw := w_r05_Valid k_r05_kind k_r05_right g; assumption
 case a | b | c => kernel_rfl
 case d | e => rfl
theorem k_r06_Valid : K_r06_Valid Try.prog sF := by
 unfold K_r06_Valid
 rw [show sF "r06.Valid" = 43 by kernel_rfl]
 intro a b m
 refine FC.of' (rs := [.t 6]) (H := wMd h_r06_Valid sMd) (lc := c_r06_Valid sF) (n := 3) Try.func43 Try.mx ?a ?b ?c ?d ?e ?f
 case f => have hw := w_r06_Valid k_r05_Valid a b m; assumption
 case a | b | c => kernel_rfl
 case d | e => rfl
theorem k_r05_Copied : K_r05_Copied Try.prog sF := by
 unfold K_r05_Copied
 rw [show sF "r05.Copied" = 52 by kernel_rfl]
 intro g h0 h1
 refine FC.of' (rs := [.c 2 true 2]) (H := wMd h_r05_Copied sMd) (lc := c_r05_Copied sF) (n := 1) Try.func52 Try.mx ?a ?b ?c ?d ?e ?f
 case f => have hw := w_r05_Copied (P := Try.prog) (F := sF) g h0 h1; assumption
 case a | b | c => kernel_rfl
 case d | e => rfl
theorem k_r02_Finest : K_r02_Finest Try.prog sF := by
 unfold K_r02_Finest
 rw [show sF "r02.Finest" = 78 by kernel_rfl]
 intro n h2
 refine FC.of' (rs := [.t 2]) (H := wMd h_r02_Finest sMd) (lc := c_r02_Finest sF) (n := 1) Try.func78 Try.mx ?a ?b ?c ?d ?e ?f
 case f => have hw := w_r02_Finest (P := Try.prog) (F := sF) n h2; assumption
 case a | b | c => kernel_rfl
 case d | e => rfl
theorem k_r06_Of : K_r06_Of Try.prog sF := by
 unfold K_r06_Of
 rw [show sF "r06.Of" = 53 by kernel_rfl]
 intro g h1 h2
 refine FC.of' (rs := [.c 2 true 2]) (H := wMd h_r06_Of sMd) (lc := c_r06_Of sF) (n := 1) Try.func53 Try.mx ?a ?b ?c ?d ?e ?f
 case f => have hw := w_r06_Of k_r02_Finest g h1 h2; assumption
 case a | b | c => kernel_rfl
 case d | e => rfl
theorem k_r06_Through : K_r06_Through Try.prog sF := by
 unfold K_r06_Through
 rw [show sF "r06.Through" = 63 by kernel_rfl]
 intro l b hl hb
 refine FC.of' (rs := [.t 4]) (H := wMd h_r06_Through sMd) (lc := c_r06_Through sF) (n := 2) Try.func63 Try.mx ?a ?b ?c ?d ?e ?f
 case f => have hw := w_r06_Through (P := Try.prog) (F := sF) l b hl hb; assumption
 case a | b | c => kernel_rfl
 case d | e => rfl
theorem k_r06_Then : K_r06_Then Try.prog sF := by
 unfold K_r06_Then
 rw [show sF "r06.Then" = 31 by kernel_rfl]
 intro m n h1 h2 h3 h4
 refine FC.of' (rs := [.c 4 true 2]) (H := wMd h_r06_Then sMd) (lc := c_r06_Then sF) (n := 2) Try.func31 Try.mx ?a ?b ?c ?d ?e ?f
 case f => have hw := w_r06_Then k_r06_Through m n h1 h2 h3 h4; assumption
 case a | b | c => kernel_rfl
 case d | e => rfl
theorem k_r10_Span : K_r10_Span Try.prog sF := by
 unfold K_r10_Span
 rw [show sF "r10.Span" = 65 by kernel_rfl]
 intro s
 refine FC.of' (rs := [.t 2]) (H := wMd h_r10_Span sMd) (lc := c_r10_Span sF) (n := 1) Try.func65 Try.mx ?a ?b ?c ?d ?e ?f
 case f => have hw := w_r10_Span k_r06_Valid s; assumption
 case a | b | c => kernel_rfl
 case d | e => rfl
theorem k_r05_Numbers : K_r05_Numbers Try.prog sF := by
 unfold K_r05_Numbers
 rw [show sF "r05.Numbers" = 68 by kernel_rfl]
 intro f n h0 h1 h2
 refine FC.of' (rs := [.t 4]) (H := wMd h_r05_Numbers sMd) (lc := c_r05_Numbers sF) (n := 2) Try.func68 Try.mx ?a ?b ?c ?d ?e ?f
 case f => have hw := w_r05_Numbers (P := Try.prog) (F := sF) f n h0 h1 h2; assumption
 case a | b | c => kernel_rfl
 case d | e => rfl
theorem k_r05_Union : K_r05_Union Try.prog sF := by
 unfold K_r05_Union
 rw [show sF "r05.Union" = 66 by kernel_rfl]
 intro a b
 refine FC.of' (rs := [.c 4 true 2, .c 5 true 2, .c 6 true 2, .t 7]) (H := wMd h_r05_Union sMd) (lc := c_r05_Union sF) (n := 2) Try.func66 Try.mx ?a ?b ?c ?d ?e ?f
 case f => have hw := w_r05_Union k_r05_Valid k_r05_Copied k_r05_Numbers a b; assumption
 case a | b | c => kernel_rfl
 case d | e => rfl
theorem k_r10_pairs : K_r10_pairs Try.prog sF := by
 unfold K_r10_pairs
 rw [show sF "r10.pairs" = 74 by kernel_rfl]
 intro f g hf hg
 refine FC.of' (rs := [.t 4]) (H := wMd h_r10_pairs sMd) (lc := c_r10_pairs sF) (n := 2) Try.func74 Try.mx ?a ?b ?c ?d ?e ?f
 case f => have hw := w_r10_pairs (P := Try.prog) (F := sF) f g hf hg; assumption
 case a | b | c => kernel_rfl
 case d | e => rfl
theorem k_r02_Merge : K_r02_Merge Try.prog sF := by
 unfold K_r02_Merge
 rw [show sF "r02.Merge" = 89 by kernel_rfl]
 intro p a b hl ha hb
 refine FC.of' (rs := [.t 6]) (H := wMd h_r02_Merge sMd) (lc := c_r02_Merge sF) (n := 3) Try.func89 Try.mx ?a ?b ?c ?d ?e ?f
 case f => have hw := w_r02_Merge (P := Try.prog) (F := sF) p a b hl ha hb; assumption
 case a | b | c => kernel_rfl
 case d | e => rfl
theorem k_r02_Generate : K_r02_Generate Try.prog sF := by
 unfold K_r02_Generate
 rw [show sF "r02.Generate" = 73 by kernel_rfl]
 intro n l hn hl hp
 refine FC.of' (rs := [.t 4, .t 5]) (H := wMd h_r02_Generate sMd) (lc := c_r02_Generate sF) (n := 2) Try.func73 Try.mx ?a ?b ?c ?d ?e ?f
 case f => have hw := w_r02_Generate k_r02_Finest k_r02_Merge n l hn hl hp; assumption
 case a | b | c => kernel_rfl
 case d | e => rfl
theorem k_r02_Valid : K_r02_Valid Try.prog sF := by
 unfold K_r02_Valid
 rw [show sF "r02.Valid" = 112 by kernel_rfl]
 intro p hp
 refine FC.of' (rs := [.t 2]) (H := wMd h_r02_Valid sMd) (lc := c_r02_Valid sF) (n := 1) Try.func112 Try.mx ?a ?b ?c ?d ?e ?f
 case f => have hw := w_r02_Valid (P := Try.prog) (F := sF) p hp; assumption
 case a | b | c => kernel_rfl
 case d | e => rfl
theorem k_r02_one : K_r02_one Try.prog sF := by
 unfold K_r02_one
 rw [show sF "r02.one" = 105 by kernel_rfl]
 intro p hp
 refine FC.of' (rs := [.t 2]) (H := wMd h_r02_one sMd) (lc := c_r02_one sF) (n := 1) Try.func105 Try.mx ?a ?b ?c ?d ?e ?f
 case f => have hw := w_r02_one k_r02_Valid p hp; assumption
 case a | b | c => kernel_rfl
 case d | e => rfl
theorem k_r02_Quotient : K_r02_Quotient Try.prog sF := by
 unfold K_r02_Quotient
 rw [show sF "r02.Quotient" = 90 by kernel_rfl]
 intro p hp
 refine FC.of' (rs := [.t 2, .t 3, .t 4]) (H := wMd h_r02_Quotient sMd) (lc := c_r02_Quotient sF) (n := 1) Try.func90 Try.mx ?a ?b ?c ?d ?e ?f
 case f => have hw := w_r02_Quotient k_r02_one p hp; assumption
 case a | b | c => kernel_rfl
 case d | e => rfl
theorem k_r10_Quotient : K_r10_Quotient Try.prog sF := by
 unfold K_r10_Quotient
 rw [show sF "r10.Quotient" = 75 by kernel_rfl]
 intro g p r hv hc
 refine FC.of' (rs := [.c 6 true 2, .c 7 true 2]) (H := wMd h_r10_Quotient sMd) (lc := c_r10_Quotient sF) (n := 3) Try.func75 Try.mx ?a ?b ?c ?d ?e ?f
 case f => have hw := w_r10_Quotient k_r02_Quotient g p r hv hc; assumption
 case a | b | c => kernel_rfl
 case d | e => rfl
theorem k_r10_glue : K_r10_glue Try.prog sF := by
 unfold K_r10_glue
 rw [show sF "r10.glue" = 44 by kernel_rfl]
 intro a g f h hf hh
 refine FC.of' (rs := [.c 6 true 2, .c 7 true 2]) (H := wMd h_r10_glue sMd) (lc := c_r10_glue sF) (n := 3) Try.func44 Try.mx ?a ?b ?c ?d ?e ?f
 case f => have hw := w_r10_glue k_r10_pairs k_r02_Generate k_r10_Quotient a g f h hf hh; assumption
 case a | b | c => kernel_rfl
 case d | e => rfl
theorem k_r10_Of : K_r10_Of Try.prog sF := by
 unfold K_r10_Of
 rw [show sF "r10.Of" = 33 by kernel_rfl]
 intro s
 refine FC.of' (rs := [.c 2 true 2, .c 3 true 2, .c 4 true 2, .t 5]) (H := wMd h_r10_Of sMd) (lc := c_r10_Of sF) (n := 1) Try.func33 Try.mx ?a ?b ?c ?d ?e ?f
 case f => have hw := w_r10_Of k_r10_Span k_r05_Union k_r06_Then k_r10_glue s; assumption
 case a | b | c => kernel_rfl
 case d | e => rfl
theorem k_r10_Several : K_r10_Several Try.prog sF := by
 unfold K_r10_Several
 rw [show sF "r10.Several" = 22 by kernel_rfl]
 intro a l m hl hm
 refine FC.of' (rs := [.c 6 true 2, .t 7, .t 8]) (H := wMd h_r10_Several sMd) (lc := c_r10_Several sF) (n := 3) Try.func22 Try.mx ?a ?b ?c ?d ?e ?f
 case f => have hw := w_r10_Several k_r06_Valid k_r05_Copied k_r06_Of k_r06_Then k_r10_Of a l m hl hm; assumption
 case a | b | c => kernel_rfl
 case d | e => rfl
theorem k_r06_SameAll : K_r06_SameAll Try.prog sF := by
 unfold K_r06_SameAll
 rw [show sF "r06.SameAll" = 23 by kernel_rfl]
 intro l m hl hsm
 refine FC.of' (rs := [.t 4]) (H := wMd h_r06_SameAll sMd) (lc := c_r06_SameAll sF) (n := 2) Try.func23 Try.mx ?a ?b ?c ?d ?e ?f
 case f => have hw := w_r06_SameAll k_r06_Same l m hl hsm; assumption
 case a | b | c => kernel_rfl
 case d | e => rfl
theorem k_l10_PushoutSeveral : K_l10_PushoutSeveral Try.prog sF := by
 unfold K_l10_PushoutSeveral
 rw [show sF "l10.PushoutSeveral" = 4 by kernel_rfl]
 intro a l m hl hm hsm
 refine FC.of' (rs := [.t 6]) (H := wMd h_l10_PushoutSeveral sMd) (lc := c_l10_PushoutSeveral sF) (n := 3) Try.func4 Try.mx ?a ?b ?c ?d ?e ?f
 case f => have hw := w_l10_PushoutSeveral k_l10_awake k_r05_Few k_r06_Few k_slices_Clone_apiGraph k_slices_Clone_apiMorphism k_pushout_Several k_r10_Several k_r05_Same k_r06_SameAll a l m hl hm hsm; assumption
 case a | b | c => kernel_rfl
 case d | e => rfl
end Go.Proofs.Ytpdjpdfkacpnnaa
