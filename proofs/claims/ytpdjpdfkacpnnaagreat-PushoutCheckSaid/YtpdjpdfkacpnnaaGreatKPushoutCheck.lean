/- The functions of this seat, their contracts. Printed by seat.py. -/
import Derived.Shelf.Sort.Plain
import Derived.Shelf.Slices.In.SortNone
import Derived.Test.YtpdjpdfkacpnnaaGreatRows
import Derived.Test.YtpdjpdfkacpnnaaGreatSoI
import Derived.KernelRfl
namespace Go.Proofs.YtpdjpdfkacpnnaaGreat
open Go Go.Am
attribute [local irreducible] W
set_option linter.unusedVariables false
set_option linter.unusedSimpArgs false
def sF : String → Nat := lkS [("l10.PushoutCheck", 3), ("l10.awake", 4), ("r10.Few", 5), ("l10.few", 6), ("pushout.Check", 7), ("r10.Check", 8), ("l10.path", 9), ("pushout.Of", 10), ("r05.Same", 11), ("r06.Same", 12), ("slices.Equal.E", 13), ("r05.Few", 14), ("r06.Few", 15), ("pushout.Mediate", 16), ("pushout.glue", 17), ("morphism.Injective", 18), ("morphism.Surjective", 19), ("r10.Mediate", 20), ("r10.Of", 21), ("r06.Inverse", 22), ("pushout.span", 23), ("r05.SameInts", 24), ("r02.SameInts", 25), ("morphism.Valid", 26), ("morphism.Same", 27), ("pushout.then", 28), ("pushout.filled", 29), ("graph.Union", 30), ("pushout.quotient", 31), ("pushout.pairs", 32), ("morphism.images", 33), ("r10.Cocone", 34), ("r10.onto", 35), ("r10.Span", 36), ("r05.Union", 37), ("r10.glue", 38), ("r06.Then", 39), ("r06.Valid", 40), ("r06.Injective", 41), ("r06.Surjective", 42), ("r06.Back", 43), ("graph.Valid", 44), ("slices.Equal.I", 45), ("pushout.follow", 46), ("slices.Concat.I", 47), ("slices.Clone.E", 48), ("graph.numbers", 49), ("partition.Generate", 50), ("partition.Quotient", 51), ("slices.Clone.I", 52), ("slices.Sort.I", 53), ("slices.Compact.I", 54), ("r05.Valid", 55), ("r05.Copied", 56), ("r05.Numbers", 57), ("r02.Generate", 58), ("r10.pairs", 59), ("r10.Quotient", 60), ("r06.Through", 61), ("r06.Distinct", 62), ("r06.Covers", 63), ("slices.ContainsFunc.I", 64), ("graph.Valid.1", 65), ("graph.within", 66), ("slices.ContainsFunc.E", 67), ("graph.Valid.2", 68), ("graph.fits", 69), ("slices.Grow.I", 70), ("partition.finest", 71), ("partition.unite", 72), ("partition.flat", 73), ("partition.one", 74), ("r05.kind", 77), ("r05.right", 78), ("r02.Finest", 79), ("r02.Merge", 80), ("r02.Quotient", 81), ("slices.IndexFunc.I", 82), ("slices.IndexFunc.E", 83), ("partition.root", 84), ("partition.right", 85), ("r02.one", 97), ("r02.Valid", 104)]
def sMd : Nat → List Md := lkM [(53, [.mu]), (54, [.ow]), (72, [.mu, .rd, .rd]), (73, [.ow])]
theorem Tryz.mx : Tryz.prog.follows .mixedOrders = true := by kernel_rfl
theorem k_l10_path : K_l10_path Tryz.prog sF := by
  unfold K_l10_path
  rw [show sF "l10.path" = 9 by kernel_rfl]
  intro n h1 h2
  refine FC.of' (rs := [.c 2 true 2]) (H := wMd h_l10_path sMd) (lc := c_l10_path sF) (n := 1) Tryz.func9 Tryz.mx ?a ?b ?c ?d ?e ?f
  case f =>
    have hw := w_l10_path (P := Tryz.prog) (F := sF) n h1 h2
    assumption
  case a => kernel_rfl
  case b => kernel_rfl
  case c => kernel_rfl
  case d => rfl
  case e => first | rfl | (simp only [List.all_cons, List.all_nil, Bool.and_true]; first | rfl | assumption | exact caps_ok hcs)
theorem k_slices_IndexFunc_I : K_slices_IndexFunc_I Tryz.prog sF := by
  unfold K_slices_IndexFunc_I
  rw [show sF "slices.IndexFunc.I" = 82 by kernel_rfl]
  intro l hl g cs hcs p hg
  refine FC.of' (rs := [.t 4]) (H := wMd h_slices_IndexFunc_I sMd) (lc := c_slices_IndexFunc_I sF) (n := 2) Tryz.func82 Tryz.mx ?a ?b ?c ?d ?e ?f
  case f =>
    have hw := w_slices_IndexFunc_I (P := Tryz.prog) (F := sF) l hl g cs hcs p hg
    assumption
  case a => kernel_rfl
  case b => kernel_rfl
  case c => kernel_rfl
  case d => rfl
  case e => first | rfl | (simp only [List.all_cons, List.all_nil, Bool.and_true]; first | rfl | assumption | exact caps_ok hcs)
theorem k_slices_ContainsFunc_I : K_slices_ContainsFunc_I Tryz.prog sF := by
  unfold K_slices_ContainsFunc_I
  rw [show sF "slices.ContainsFunc.I" = 64 by kernel_rfl]
  intro l hl g cs hcs p hg
  refine FC.of' (rs := [.t 4]) (H := wMd h_slices_ContainsFunc_I sMd) (lc := c_slices_ContainsFunc_I sF) (n := 2) Tryz.func64 Tryz.mx ?a ?b ?c ?d ?e ?f
  case f =>
    have hw := w_slices_ContainsFunc_I (P := Tryz.prog) (F := sF) k_slices_IndexFunc_I l hl g cs hcs p hg
    assumption
  case a => kernel_rfl
  case b => kernel_rfl
  case c => kernel_rfl
  case d => rfl
  case e => first | rfl | (simp only [List.all_cons, List.all_nil, Bool.and_true]; first | rfl | assumption | exact caps_ok hcs)
theorem k_slices_IndexFunc_E : K_slices_IndexFunc_E Tryz.prog sF := by
  unfold K_slices_IndexFunc_E
  rw [show sF "slices.IndexFunc.E" = 83 by kernel_rfl]
  intro l hl g cs hcs p hg
  refine FC.of' (rs := [.t 4]) (H := wMd h_slices_IndexFunc_E sMd) (lc := c_slices_IndexFunc_E sF) (n := 2) Tryz.func83 Tryz.mx ?a ?b ?c ?d ?e ?f
  case f =>
    have hw := w_slices_IndexFunc_E (P := Tryz.prog) (F := sF) l hl g cs hcs p hg
    assumption
  case a => kernel_rfl
  case b => kernel_rfl
  case c => kernel_rfl
  case d => rfl
  case e => first | rfl | (simp only [List.all_cons, List.all_nil, Bool.and_true]; first | rfl | assumption | exact caps_ok hcs)
theorem k_slices_ContainsFunc_E : K_slices_ContainsFunc_E Tryz.prog sF := by
  unfold K_slices_ContainsFunc_E
  rw [show sF "slices.ContainsFunc.E" = 67 by kernel_rfl]
  intro l hl g cs hcs p hg
  refine FC.of' (rs := [.t 4]) (H := wMd h_slices_ContainsFunc_E sMd) (lc := c_slices_ContainsFunc_E sF) (n := 2) Tryz.func67 Tryz.mx ?a ?b ?c ?d ?e ?f
  case f =>
    have hw := w_slices_ContainsFunc_E (P := Tryz.prog) (F := sF) k_slices_IndexFunc_E l hl g cs hcs p hg
    assumption
  case a => kernel_rfl
  case b => kernel_rfl
  case c => kernel_rfl
  case d => rfl
  case e => first | rfl | (simp only [List.all_cons, List.all_nil, Bool.and_true]; first | rfl | assumption | exact caps_ok hcs)
theorem k_graph_within : K_graph_within Tryz.prog sF := by
  unfold K_graph_within
  rw [show sF "graph.within" = 66 by kernel_rfl]
  intro n m
  refine FC.of' (rs := [.t 4]) (H := wMd h_graph_within sMd) (lc := c_graph_within sF) (n := 2) Tryz.func66 Tryz.mx ?a ?b ?c ?d ?e ?f
  case f =>
    have hw := w_graph_within (P := Tryz.prog) (F := sF) n m
    assumption
  case a => kernel_rfl
  case b => kernel_rfl
  case c => kernel_rfl
  case d => rfl
  case e => first | rfl | (simp only [List.all_cons, List.all_nil, Bool.and_true]; first | rfl | assumption | exact caps_ok hcs)
theorem k_graph_Valid_1 : K_graph_Valid_1 Tryz.prog sF := by
  unfold K_graph_Valid_1
  rw [show sF "graph.Valid.1" = 65 by kernel_rfl]
  intro x
  refine FC.of' (rs := [.t 2]) (H := wMd h_graph_Valid_1 sMd) (lc := c_graph_Valid_1 sF) (n := 1) Tryz.func65 Tryz.mx ?a ?b ?c ?d ?e ?f
  case f =>
    have hw := w_graph_Valid_1 (P := Tryz.prog) (F := sF) k_graph_within x
    assumption
  case a => kernel_rfl
  case b => kernel_rfl
  case c => kernel_rfl
  case d => rfl
  case e => first | rfl | (simp only [List.all_cons, List.all_nil, Bool.and_true]; first | rfl | assumption | exact caps_ok hcs)
theorem k_graph_fits : K_graph_fits Tryz.prog sF := by
  unfold K_graph_fits
  rw [show sF "graph.fits" = 69 by kernel_rfl]
  intro x n hn
  refine FC.of' (rs := [.t 4]) (H := wMd h_graph_fits sMd) (lc := c_graph_fits sF) (n := 2) Tryz.func69 Tryz.mx ?a ?b ?c ?d ?e ?f
  case f =>
    have hw := w_graph_fits (P := Tryz.prog) (F := sF) k_graph_within x n hn
    assumption
  case a => kernel_rfl
  case b => kernel_rfl
  case c => kernel_rfl
  case d => rfl
  case e => first | rfl | (simp only [List.all_cons, List.all_nil, Bool.and_true]; first | rfl | assumption | exact caps_ok hcs)
theorem k_graph_Valid_2 : K_graph_Valid_2 Tryz.prog sF := by
  unfold K_graph_Valid_2
  rw [show sF "graph.Valid.2" = 68 by kernel_rfl]
  intro x ns es hn
  refine FC.of' (rs := [.t 3]) (H := wMd h_graph_Valid_2 sMd) (lc := c_graph_Valid_2 sF) (n := 2) Tryz.func68 Tryz.mx ?a ?b ?c ?d ?e ?f
  case f =>
    have hw := w_graph_Valid_2 (P := Tryz.prog) (F := sF) k_graph_fits x ns es hn
    assumption
  case a => kernel_rfl
  case b => kernel_rfl
  case c => kernel_rfl
  case d => rfl
  case e => first | rfl | (simp only [List.all_cons, List.all_nil, Bool.and_true]; first | rfl | assumption | exact caps_ok hcs)
theorem k_graph_Valid : K_graph_Valid Tryz.prog sF := by
  unfold K_graph_Valid
  rw [show sF "graph.Valid" = 44 by kernel_rfl]
  intro g
  refine FC.of' (rs := [.t 2]) (H := wMd h_graph_Valid sMd) (lc := c_graph_Valid sF) (n := 1) Tryz.func44 Tryz.mx ?a ?b ?c ?d ?e ?f
  case f =>
    have hw := w_graph_Valid (P := Tryz.prog) (F := sF) k_slices_ContainsFunc_I k_slices_ContainsFunc_E k_graph_Valid_1 k_graph_Valid_2 g
    assumption
  case a => kernel_rfl
  case b => kernel_rfl
  case c => kernel_rfl
  case d => rfl
  case e => first | rfl | (simp only [List.all_cons, List.all_nil, Bool.and_true]; first | rfl | assumption | exact caps_ok hcs)
theorem k_morphism_Valid : K_morphism_Valid Tryz.prog sF := by
  unfold K_morphism_Valid
  rw [show sF "morphism.Valid" = 26 by kernel_rfl]
  intro a b m
  refine FC.of' (rs := [.t 6]) (H := wMd h_morphism_Valid sMd) (lc := c_morphism_Valid sF) (n := 3) Tryz.func26 Tryz.mx ?a ?b ?c ?d ?e ?f
  case f =>
    have hw := w_morphism_Valid (P := Tryz.prog) (F := sF) k_graph_Valid a b m
    assumption
  case a => kernel_rfl
  case b => kernel_rfl
  case c => kernel_rfl
  case d => rfl
  case e => first | rfl | (simp only [List.all_cons, List.all_nil, Bool.and_true]; first | rfl | assumption | exact caps_ok hcs)
theorem k_pushout_span : K_pushout_span Tryz.prog sF := by
  unfold K_pushout_span
  rw [show sF "pushout.span" = 23 by kernel_rfl]
  intro s
  refine FC.of' (rs := [.t 2]) (H := wMd h_pushout_span sMd) (lc := c_pushout_span sF) (n := 1) Tryz.func23 Tryz.mx ?a ?b ?c ?d ?e ?f
  case f =>
    have hw := w_pushout_span (P := Tryz.prog) (F := sF) k_morphism_Valid s
    assumption
  case a => kernel_rfl
  case b => kernel_rfl
  case c => kernel_rfl
  case d => rfl
  case e => first | rfl | (simp only [List.all_cons, List.all_nil, Bool.and_true]; first | rfl | assumption | exact caps_ok hcs)
theorem k_slices_Grow_I : K_slices_Grow_I Tryz.prog sF := by
  unfold K_slices_Grow_I
  rw [show sF "slices.Grow.I" = 70 by kernel_rfl]
  intro n hn
  refine FC.of' (rs := [.t 4]) (H := wMd h_slices_Grow_I sMd) (lc := c_slices_Grow_I sF) (n := 2) Tryz.func70 Tryz.mx ?a ?b ?c ?d ?e ?f
  case f =>
    have hw := w_slices_Grow_I (P := Tryz.prog) (F := sF) n hn
    assumption
  case a => kernel_rfl
  case b => kernel_rfl
  case c => kernel_rfl
  case d => rfl
  case e => first | rfl | (simp only [List.all_cons, List.all_nil, Bool.and_true]; first | rfl | assumption | exact caps_ok hcs)
theorem k_slices_Concat_I : K_slices_Concat_I Tryz.prog sF := by
  unfold K_slices_Concat_I
  rw [show sF "slices.Concat.I" = 47 by kernel_rfl]
  intro a b ha hb
  refine FC.of' (rs := [.t 2]) (H := wMd h_slices_Concat_I sMd) (lc := c_slices_Concat_I sF) (n := 1) Tryz.func47 Tryz.mx ?a ?b ?c ?d ?e ?f
  case f =>
    have hw := w_slices_Concat_I (P := Tryz.prog) (F := sF) k_slices_Grow_I a b ha hb
    assumption
  case a => kernel_rfl
  case b => kernel_rfl
  case c => kernel_rfl
  case d => rfl
  case e => first | rfl | (simp only [List.all_cons, List.all_nil, Bool.and_true]; first | rfl | assumption | exact caps_ok hcs)
theorem k_slices_Clone_E : K_slices_Clone_E Tryz.prog sF := by
  unfold K_slices_Clone_E
  rw [show sF "slices.Clone.E" = 48 by kernel_rfl]
  intro l hl
  refine FC.of' (rs := [.t 2]) (H := wMd h_slices_Clone_E sMd) (lc := c_slices_Clone_E sF) (n := 1) Tryz.func48 Tryz.mx ?a ?b ?c ?d ?e ?f
  case f =>
    have hw := w_slices_Clone_E (P := Tryz.prog) (F := sF) l hl
    assumption
  case a => kernel_rfl
  case b => kernel_rfl
  case c => kernel_rfl
  case d => rfl
  case e => first | rfl | (simp only [List.all_cons, List.all_nil, Bool.and_true]; first | rfl | assumption | exact caps_ok hcs)
theorem k_graph_numbers : K_graph_numbers Tryz.prog sF := by
  unfold K_graph_numbers
  rw [show sF "graph.numbers" = 49 by kernel_rfl]
  intro f n h0 h1 h2
  refine FC.of' (rs := [.t 4]) (H := wMd h_graph_numbers sMd) (lc := c_graph_numbers sF) (n := 2) Tryz.func49 Tryz.mx ?a ?b ?c ?d ?e ?f
  case f =>
    have hw := w_graph_numbers (P := Tryz.prog) (F := sF) f n h0 h1 h2
    assumption
  case a => kernel_rfl
  case b => kernel_rfl
  case c => kernel_rfl
  case d => rfl
  case e => first | rfl | (simp only [List.all_cons, List.all_nil, Bool.and_true]; first | rfl | assumption | exact caps_ok hcs)
theorem k_graph_Union : K_graph_Union Tryz.prog sF := by
  unfold K_graph_Union
  rw [show sF "graph.Union" = 30 by kernel_rfl]
  intro a b
  refine FC.of' (rs := [.c 4 true 2, .c 5 true 2, .c 6 true 2, .t 7]) (H := wMd h_graph_Union sMd) (lc := c_graph_Union sF) (n := 2) Tryz.func30 Tryz.mx ?a ?b ?c ?d ?e ?f
  case f =>
    have hw := w_graph_Union (P := Tryz.prog) (F := sF) k_graph_Valid k_slices_Concat_I k_slices_Clone_E k_graph_numbers a b
    assumption
  case a => kernel_rfl
  case b => kernel_rfl
  case c => kernel_rfl
  case d => rfl
  case e => first | rfl | (simp only [List.all_cons, List.all_nil, Bool.and_true]; first | rfl | assumption | exact caps_ok hcs)
theorem k_pushout_pairs : K_pushout_pairs Tryz.prog sF := by
  unfold K_pushout_pairs
  rw [show sF "pushout.pairs" = 32 by kernel_rfl]
  intro f g l r hf hg h1 h2
  refine FC.of' (rs := [.t 8]) (H := wMd h_pushout_pairs sMd) (lc := c_pushout_pairs sF) (n := 4) Tryz.func32 Tryz.mx ?a ?b ?c ?d ?e ?f
  case f =>
    have hw := w_pushout_pairs (P := Tryz.prog) (F := sF) f g l r hf hg h1 h2
    assumption
  case a => kernel_rfl
  case b => kernel_rfl
  case c => kernel_rfl
  case d => rfl
  case e => first | rfl | (simp only [List.all_cons, List.all_nil, Bool.and_true]; first | rfl | assumption | exact caps_ok hcs)
theorem k_partition_finest : K_partition_finest Tryz.prog sF := by
  unfold K_partition_finest
  rw [show sF "partition.finest" = 71 by kernel_rfl]
  intro n hn
  refine FC.of' (rs := [.t 2]) (H := wMd h_partition_finest sMd) (lc := c_partition_finest sF) (n := 1) Tryz.func71 Tryz.mx ?a ?b ?c ?d ?e ?f
  case f =>
    have hw := w_partition_finest (P := Tryz.prog) (F := sF) n hn
    assumption
  case a => kernel_rfl
  case b => kernel_rfl
  case c => kernel_rfl
  case d => rfl
  case e => first | rfl | (simp only [List.all_cons, List.all_nil, Bool.and_true]; first | rfl | assumption | exact caps_ok hcs)
theorem k_partition_root : K_partition_root Tryz.prog sF := by
  unfold K_partition_root
  rw [show sF "partition.root" = 84 by kernel_rfl]
  intro p r i h hl hi
  refine FC.of' (rs := [.t 4]) (H := wMd h_partition_root sMd) (lc := c_partition_root sF) (n := 2) Tryz.func84 Tryz.mx ?a ?b ?c ?d ?e ?f
  case f =>
    have hw := w_partition_root (P := Tryz.prog) (F := sF) p r i h hl hi
    assumption
  case a => kernel_rfl
  case b => kernel_rfl
  case c => kernel_rfl
  case d => rfl
  case e => first | rfl | (simp only [List.all_cons, List.all_nil, Bool.and_true]; first | rfl | assumption | exact caps_ok hcs)
theorem k_partition_unite : K_partition_unite Tryz.prog sF := by
  unfold K_partition_unite
  rw [show sF "partition.unite" = 72 by kernel_rfl]
  intro p r a b h hl ha hb
  refine FC.ofO (rs := []) (H := wMd h_partition_unite sMd) (lc := c_partition_unite sF) (n := 3) (outs := [0]) Tryz.func72 Tryz.mx ?a ?b ?c ?d ?e ?f
  case f =>
    have hw := w_partition_unite (P := Tryz.prog) (F := sF) k_partition_root p r a b h hl ha hb
    assumption
  case a => kernel_rfl
  case b => kernel_rfl
  case c => kernel_rfl
  case d => rfl
  case e => first | rfl | (simp only [List.all_cons, List.all_nil, Bool.and_true]; first | rfl | assumption | exact caps_ok hcs)
theorem k_partition_flat : K_partition_flat Tryz.prog sF := by
  unfold K_partition_flat
  rw [show sF "partition.flat" = 73 by kernel_rfl]
  intro p r h hl
  refine FC.of' (rs := [.t 2]) (H := wMd h_partition_flat sMd) (lc := c_partition_flat sF) (n := 1) Tryz.func73 Tryz.mx ?a ?b ?c ?d ?e ?f
  case f =>
    have hw := w_partition_flat (P := Tryz.prog) (F := sF) k_partition_root p r h hl
    assumption
  case a => kernel_rfl
  case b => kernel_rfl
  case c => kernel_rfl
  case d => rfl
  case e => first | rfl | (simp only [List.all_cons, List.all_nil, Bool.and_true]; first | rfl | assumption | exact caps_ok hcs)
theorem k_partition_Generate : K_partition_Generate Tryz.prog sF := by
  unfold K_partition_Generate
  rw [show sF "partition.Generate" = 50 by kernel_rfl]
  intro n l hn hl hp
  refine FC.of' (rs := [.t 4, .t 5]) (H := wMd h_partition_Generate sMd) (lc := c_partition_Generate sF) (n := 2) Tryz.func50 Tryz.mx ?a ?b ?c ?d ?e ?f
  case f =>
    have hw := w_partition_Generate (P := Tryz.prog) (F := sF) k_partition_finest k_partition_unite k_partition_flat n l hn hl hp
    assumption
  case a => kernel_rfl
  case b => kernel_rfl
  case c => kernel_rfl
  case d => rfl
  case e => first | rfl | (simp only [List.all_cons, List.all_nil, Bool.and_true]; first | rfl | assumption | exact caps_ok hcs)
theorem k_partition_right : K_partition_right Tryz.prog sF := by
  unfold K_partition_right
  rw [show sF "partition.right" = 85 by kernel_rfl]
  intro p hp hl
  refine FC.of' (rs := [.t 2]) (H := wMd h_partition_right sMd) (lc := c_partition_right sF) (n := 1) Tryz.func85 Tryz.mx ?a ?b ?c ?d ?e ?f
  case f =>
    have hw := w_partition_right (P := Tryz.prog) (F := sF) p hp hl
    assumption
  case a => kernel_rfl
  case b => kernel_rfl
  case c => kernel_rfl
  case d => rfl
  case e => first | rfl | (simp only [List.all_cons, List.all_nil, Bool.and_true]; first | rfl | assumption | exact caps_ok hcs)
theorem k_partition_one : K_partition_one Tryz.prog sF := by
  unfold K_partition_one
  rw [show sF "partition.one" = 74 by kernel_rfl]
  intro p hp hl
  refine FC.of' (rs := [.t 2]) (H := wMd h_partition_one sMd) (lc := c_partition_one sF) (n := 1) Tryz.func74 Tryz.mx ?a ?b ?c ?d ?e ?f
  case f =>
    have hw := w_partition_one (P := Tryz.prog) (F := sF) k_partition_right p hp hl
    assumption
  case a => kernel_rfl
  case b => kernel_rfl
  case c => kernel_rfl
  case d => rfl
  case e => first | rfl | (simp only [List.all_cons, List.all_nil, Bool.and_true]; first | rfl | assumption | exact caps_ok hcs)
theorem k_partition_Quotient : K_partition_Quotient Tryz.prog sF := by
  unfold K_partition_Quotient
  rw [show sF "partition.Quotient" = 51 by kernel_rfl]
  intro p hp hl
  refine FC.of' (rs := [.t 2, .t 3, .t 4]) (H := wMd h_partition_Quotient sMd) (lc := c_partition_Quotient sF) (n := 1) Tryz.func51 Tryz.mx ?a ?b ?c ?d ?e ?f
  case f =>
    have hw := w_partition_Quotient (P := Tryz.prog) (F := sF) k_partition_one p hp hl
    assumption
  case a => kernel_rfl
  case b => kernel_rfl
  case c => kernel_rfl
  case d => rfl
  case e => first | rfl | (simp only [List.all_cons, List.all_nil, Bool.and_true]; first | rfl | assumption | exact caps_ok hcs)
theorem k_pushout_quotient : K_pushout_quotient Tryz.prog sF := by
  unfold K_pushout_quotient
  rw [show sF "pushout.quotient" = 31 by kernel_rfl]
  intro g ns es hv l1 l2 p1 p2
  refine FC.of' (rs := [.c 6 true 2, .c 7 true 2, .t 8]) (H := wMd h_pushout_quotient sMd) (lc := c_pushout_quotient sF) (n := 3) Tryz.func31 Tryz.mx ?a ?b ?c ?d ?e ?f
  case f =>
    have hw := w_pushout_quotient (P := Tryz.prog) (F := sF) k_partition_Generate k_partition_Quotient g ns es hv l1 l2 p1 p2
    assumption
  case a => kernel_rfl
  case b => kernel_rfl
  case c => kernel_rfl
  case d => rfl
  case e => first | rfl | (simp only [List.all_cons, List.all_nil, Bool.and_true]; first | rfl | assumption | exact caps_ok hcs)
theorem k_pushout_follow : K_pushout_follow Tryz.prog sF := by
  unfold K_pushout_follow
  rw [show sF "pushout.follow" = 46 by kernel_rfl]
  intro l b hl hb
  refine FC.of' (rs := [.t 4]) (H := wMd h_pushout_follow sMd) (lc := c_pushout_follow sF) (n := 2) Tryz.func46 Tryz.mx ?a ?b ?c ?d ?e ?f
  case f =>
    have hw := w_pushout_follow (P := Tryz.prog) (F := sF) l b hl hb
    assumption
  case a => kernel_rfl
  case b => kernel_rfl
  case c => kernel_rfl
  case d => rfl
  case e => first | rfl | (simp only [List.all_cons, List.all_nil, Bool.and_true]; first | rfl | assumption | exact caps_ok hcs)
theorem k_pushout_then : K_pushout_then Tryz.prog sF := by
  unfold K_pushout_then
  rw [show sF "pushout.then" = 28 by kernel_rfl]
  intro m n h1 h2 h3 h4
  refine FC.of' (rs := [.c 4 true 2]) (H := wMd h_pushout_then sMd) (lc := c_pushout_then sF) (n := 2) Tryz.func28 Tryz.mx ?a ?b ?c ?d ?e ?f
  case f =>
    have hw := w_pushout_then (P := Tryz.prog) (F := sF) k_pushout_follow m n h1 h2 h3 h4
    assumption
  case a => kernel_rfl
  case b => kernel_rfl
  case c => kernel_rfl
  case d => rfl
  case e => first | rfl | (simp only [List.all_cons, List.all_nil, Bool.and_true]; first | rfl | assumption | exact caps_ok hcs)
theorem k_pushout_glue : K_pushout_glue Tryz.prog sF := by
  unfold K_pushout_glue
  rw [show sF "pushout.glue" = 17 by kernel_rfl]
  intro s he
  refine FC.of' (rs := [.c 2 true 2, .c 3 true 2, .c 4 true 2, .t 5]) (H := wMd h_pushout_glue sMd) (lc := c_pushout_glue sF) (n := 1) Tryz.func17 Tryz.mx ?a ?b ?c ?d ?e ?f
  case f =>
    have hw := w_pushout_glue (P := Tryz.prog) (F := sF) k_graph_Union k_pushout_pairs k_pushout_quotient k_pushout_then s he
    assumption
  case a => kernel_rfl
  case b => kernel_rfl
  case c => kernel_rfl
  case d => rfl
  case e => first | rfl | (simp only [List.all_cons, List.all_nil, Bool.and_true]; first | rfl | assumption | exact caps_ok hcs)
theorem k_pushout_Of : K_pushout_Of Tryz.prog sF := by
  unfold K_pushout_Of
  rw [show sF "pushout.Of" = 10 by kernel_rfl]
  intro s
  refine FC.of' (rs := [.c 2 true 2, .c 3 true 2, .c 4 true 2, .t 5]) (H := wMd h_pushout_Of sMd) (lc := c_pushout_Of sF) (n := 1) Tryz.func10 Tryz.mx ?a ?b ?c ?d ?e ?f
  case f =>
    have hw := w_pushout_Of (P := Tryz.prog) (F := sF) k_pushout_span k_pushout_glue s
    assumption
  case a => kernel_rfl
  case b => kernel_rfl
  case c => kernel_rfl
  case d => rfl
  case e => first | rfl | (simp only [List.all_cons, List.all_nil, Bool.and_true]; first | rfl | assumption | exact caps_ok hcs)
theorem k_r05_SameInts : K_r05_SameInts Tryz.prog sF := by
  unfold K_r05_SameInts
  rw [show sF "r05.SameInts" = 24 by kernel_rfl]
  intro a b hl
  refine FC.of' (rs := [.t 4]) (H := wMd h_r05_SameInts sMd) (lc := c_r05_SameInts sF) (n := 2) Tryz.func24 Tryz.mx ?a ?b ?c ?d ?e ?f
  case f =>
    have hw := w_r05_SameInts (P := Tryz.prog) (F := sF) a b hl
    assumption
  case a => kernel_rfl
  case b => kernel_rfl
  case c => kernel_rfl
  case d => rfl
  case e => first | rfl | (simp only [List.all_cons, List.all_nil, Bool.and_true]; first | rfl | assumption | exact caps_ok hcs)
theorem k_r05_Same : K_r05_Same Tryz.prog sF := by
  unfold K_r05_Same
  rw [show sF "r05.Same" = 11 by kernel_rfl]
  intro a b h1 h2
  refine FC.of' (rs := [.t 4]) (H := wMd h_r05_Same sMd) (lc := c_r05_Same sF) (n := 2) Tryz.func11 Tryz.mx ?a ?b ?c ?d ?e ?f
  case f =>
    have hw := w_r05_Same (P := Tryz.prog) (F := sF) k_r05_SameInts a b h1 h2
    assumption
  case a => kernel_rfl
  case b => kernel_rfl
  case c => kernel_rfl
  case d => rfl
  case e => first | rfl | (simp only [List.all_cons, List.all_nil, Bool.and_true]; first | rfl | assumption | exact caps_ok hcs)
theorem k_r02_SameInts : K_r02_SameInts Tryz.prog sF := by
  unfold K_r02_SameInts
  rw [show sF "r02.SameInts" = 25 by kernel_rfl]
  intro a b hl
  refine FC.of' (rs := [.t 4]) (H := wMd h_r02_SameInts sMd) (lc := c_r02_SameInts sF) (n := 2) Tryz.func25 Tryz.mx ?a ?b ?c ?d ?e ?f
  case f =>
    have hw := w_r02_SameInts (P := Tryz.prog) (F := sF) a b hl
    assumption
  case a => kernel_rfl
  case b => kernel_rfl
  case c => kernel_rfl
  case d => rfl
  case e => first | rfl | (simp only [List.all_cons, List.all_nil, Bool.and_true]; first | rfl | assumption | exact caps_ok hcs)
theorem k_r06_Same : K_r06_Same Tryz.prog sF := by
  unfold K_r06_Same
  rw [show sF "r06.Same" = 12 by kernel_rfl]
  intro a b h1 h2
  refine FC.of' (rs := [.t 4]) (H := wMd h_r06_Same sMd) (lc := c_r06_Same sF) (n := 2) Tryz.func12 Tryz.mx ?a ?b ?c ?d ?e ?f
  case f =>
    have hw := w_r06_Same (P := Tryz.prog) (F := sF) k_r02_SameInts a b h1 h2
    assumption
  case a => kernel_rfl
  case b => kernel_rfl
  case c => kernel_rfl
  case d => rfl
  case e => first | rfl | (simp only [List.all_cons, List.all_nil, Bool.and_true]; first | rfl | assumption | exact caps_ok hcs)
theorem k_slices_Equal_E : K_slices_Equal_E Tryz.prog sF := by
  unfold K_slices_Equal_E
  rw [show sF "slices.Equal.E" = 13 by kernel_rfl]
  intro a b hl
  refine FC.of' (rs := [.t 4]) (H := wMd h_slices_Equal_E sMd) (lc := c_slices_Equal_E sF) (n := 2) Tryz.func13 Tryz.mx ?a ?b ?c ?d ?e ?f
  case f =>
    have hw := w_slices_Equal_E (P := Tryz.prog) (F := sF) a b hl
    assumption
  case a => kernel_rfl
  case b => kernel_rfl
  case c => kernel_rfl
  case d => rfl
  case e => first | rfl | (simp only [List.all_cons, List.all_nil, Bool.and_true]; first | rfl | assumption | exact caps_ok hcs)
theorem k_l10_awake : K_l10_awake Tryz.prog sF := by
  unfold K_l10_awake
  rw [show sF "l10.awake" = 4 by kernel_rfl]
  refine FC.of' (rs := [.t 0]) (H := wMd h_l10_awake sMd) (lc := c_l10_awake sF) (n := 0) Tryz.func4 Tryz.mx ?a ?b ?c ?d ?e ?f
  case f =>
    have hw := w_l10_awake (P := Tryz.prog) (F := sF) k_l10_path k_pushout_Of k_r05_Same k_r06_Same k_slices_Equal_E
    assumption
  case a => kernel_rfl
  case b => kernel_rfl
  case c => kernel_rfl
  case d => rfl
  case e => first | rfl | (simp only [List.all_cons, List.all_nil, Bool.and_true]; first | rfl | assumption | exact caps_ok hcs)
theorem k_r05_Few : K_r05_Few Tryz.prog sF := by
  unfold K_r05_Few
  rw [show sF "r05.Few" = 14 by kernel_rfl]
  intro g
  refine FC.of' (rs := [.t 2]) (H := wMd h_r05_Few sMd) (lc := c_r05_Few sF) (n := 1) Tryz.func14 Tryz.mx ?a ?b ?c ?d ?e ?f
  case f =>
    have hw := w_r05_Few (P := Tryz.prog) (F := sF) g
    assumption
  case a => kernel_rfl
  case b => kernel_rfl
  case c => kernel_rfl
  case d => rfl
  case e => first | rfl | (simp only [List.all_cons, List.all_nil, Bool.and_true]; first | rfl | assumption | exact caps_ok hcs)
theorem k_r06_Few : K_r06_Few Tryz.prog sF := by
  unfold K_r06_Few
  rw [show sF "r06.Few" = 15 by kernel_rfl]
  intro m n h1 h2
  refine FC.of' (rs := [.t 4]) (H := wMd h_r06_Few sMd) (lc := c_r06_Few sF) (n := 2) Tryz.func15 Tryz.mx ?a ?b ?c ?d ?e ?f
  case f =>
    have hw := w_r06_Few (P := Tryz.prog) (F := sF) m n h1 h2
    assumption
  case a => kernel_rfl
  case b => kernel_rfl
  case c => kernel_rfl
  case d => rfl
  case e => first | rfl | (simp only [List.all_cons, List.all_nil, Bool.and_true]; first | rfl | assumption | exact caps_ok hcs)
theorem k_r10_Few : K_r10_Few Tryz.prog sF := by
  unfold K_r10_Few
  rw [show sF "r10.Few" = 5 by kernel_rfl]
  intro s hs
  refine FC.of' (rs := [.t 2]) (H := wMd h_r10_Few sMd) (lc := c_r10_Few sF) (n := 1) Tryz.func5 Tryz.mx ?a ?b ?c ?d ?e ?f
  case f =>
    have hw := w_r10_Few (P := Tryz.prog) (F := sF) k_r05_Few k_r06_Few s hs
    assumption
  case a => kernel_rfl
  case b => kernel_rfl
  case c => kernel_rfl
  case d => rfl
  case e => first | rfl | (simp only [List.all_cons, List.all_nil, Bool.and_true]; first | rfl | assumption | exact caps_ok hcs)
theorem k_l10_few : K_l10_few Tryz.prog sF := by
  unfold K_l10_few
  rw [show sF "l10.few" = 6 by kernel_rfl]
  intro x h k h1 h2
  refine FC.of' (rs := [.t 2]) (H := wMd h_l10_few sMd) (lc := c_l10_few sF) (n := 1) Tryz.func6 Tryz.mx ?a ?b ?c ?d ?e ?f
  case f =>
    have hw := w_l10_few (P := Tryz.prog) (F := sF) k_r05_Few k_r06_Few x h k h1 h2
    assumption
  case a => kernel_rfl
  case b => kernel_rfl
  case c => kernel_rfl
  case d => rfl
  case e => first | rfl | (simp only [List.all_cons, List.all_nil, Bool.and_true]; first | rfl | assumption | exact caps_ok hcs)
theorem k_slices_Equal_I : K_slices_Equal_I Tryz.prog sF := by
  unfold K_slices_Equal_I
  rw [show sF "slices.Equal.I" = 45 by kernel_rfl]
  intro a b hl
  refine FC.of' (rs := [.t 4]) (H := wMd h_slices_Equal_I sMd) (lc := c_slices_Equal_I sF) (n := 2) Tryz.func45 Tryz.mx ?a ?b ?c ?d ?e ?f
  case f =>
    have hw := w_slices_Equal_I (P := Tryz.prog) (F := sF) a b hl
    assumption
  case a => kernel_rfl
  case b => kernel_rfl
  case c => kernel_rfl
  case d => rfl
  case e => first | rfl | (simp only [List.all_cons, List.all_nil, Bool.and_true]; first | rfl | assumption | exact caps_ok hcs)
theorem k_morphism_Same : K_morphism_Same Tryz.prog sF := by
  unfold K_morphism_Same
  rw [show sF "morphism.Same" = 27 by kernel_rfl]
  intro a b h1 h2
  refine FC.of' (rs := [.t 4]) (H := wMd h_morphism_Same sMd) (lc := c_morphism_Same sF) (n := 2) Tryz.func27 Tryz.mx ?a ?b ?c ?d ?e ?f
  case f =>
    have hw := w_morphism_Same (P := Tryz.prog) (F := sF) k_slices_Equal_I a b h1 h2
    assumption
  case a => kernel_rfl
  case b => kernel_rfl
  case c => kernel_rfl
  case d => rfl
  case e => first | rfl | (simp only [List.all_cons, List.all_nil, Bool.and_true]; first | rfl | assumption | exact caps_ok hcs)
theorem k_pushout_filled : K_pushout_filled Tryz.prog sF := by
  unfold K_pushout_filled
  rw [show sF "pushout.filled" = 29 by kernel_rfl]
  intro n p h q k hn h1 h2
  refine FC.of' (rs := [.t 6]) (H := wMd h_pushout_filled sMd) (lc := c_pushout_filled sF) (n := 3) Tryz.func29 Tryz.mx ?a ?b ?c ?d ?e ?f
  case f =>
    have hw := w_pushout_filled (P := Tryz.prog) (F := sF) n p h q k hn h1 h2
    assumption
  case a => kernel_rfl
  case b => kernel_rfl
  case c => kernel_rfl
  case d => rfl
  case e => first | rfl | (simp only [List.all_cons, List.all_nil, Bool.and_true]; first | rfl | assumption | exact caps_ok hcs)
theorem k_pushout_Mediate : K_pushout_Mediate Tryz.prog sF := by
  unfold K_pushout_Mediate
  rw [show sF "pushout.Mediate" = 16 by kernel_rfl]
  intro s x h k
  refine FC.of' (rs := [.c 8 true 2, .t 9]) (H := wMd h_pushout_Mediate sMd) (lc := c_pushout_Mediate sF) (n := 4) Tryz.func16 Tryz.mx ?a ?b ?c ?d ?e ?f
  case f =>
    have hw := w_pushout_Mediate (P := Tryz.prog) (F := sF) k_pushout_span k_morphism_Valid k_pushout_glue k_pushout_then k_morphism_Same k_pushout_filled s x h k
    assumption
  case a => kernel_rfl
  case b => kernel_rfl
  case c => kernel_rfl
  case d => rfl
  case e => first | rfl | (simp only [List.all_cons, List.all_nil, Bool.and_true]; first | rfl | assumption | exact caps_ok hcs)
theorem k_slices_Clone_I : K_slices_Clone_I Tryz.prog sF := by
  unfold K_slices_Clone_I
  rw [show sF "slices.Clone.I" = 52 by kernel_rfl]
  intro l hl
  refine FC.of' (rs := [.t 2]) (H := wMd h_slices_Clone_I sMd) (lc := c_slices_Clone_I sF) (n := 1) Tryz.func52 Tryz.mx ?a ?b ?c ?d ?e ?f
  case f =>
    have hw := w_slices_Clone_I (P := Tryz.prog) (F := sF) l hl
    assumption
  case a => kernel_rfl
  case b => kernel_rfl
  case c => kernel_rfl
  case d => rfl
  case e => first | rfl | (simp only [List.all_cons, List.all_nil, Bool.and_true]; first | rfl | assumption | exact caps_ok hcs)
def SortL_ren : Go.Shelf.Ren := ⟨fun | 189 => 53 | 125 => 76 | 257 => 75 | 128 => 95 | 129 => 96 | 294 => 86 | 295 => 87 | 296 => 88 | 297 => 89 | 298 => 90 | 299 => 91 | 216 => 92 | 300 => 93 | 301 => 94 | 328 => 98 | 329 => 99 | 330 => 100 | 331 => 101 | 332 => 102 | 215 => 103 | 343 => 105 | n => n, fun | 28 => 22 | 3 => 3 | 46 => 99 | 0 => 0 | 51 => 112 | 53 => 114 | 4 => 4 | 183 => 105 | 182 => 104 | 131 => 109 | 5 => 5 | 9 => 9 | 218 => 115 | 222 => 119 | 228 => 121 | 229 => 122 | n => n, fun | n => n⟩
theorem SortL : Go.Proofs.Lays.n189 Tryz.prog SortL_ren := {
  mixed := by kernel_rfl,
  f125 := Tryz.func76.trans (congrArg some (by kernel_rfl)),
  f128 := Tryz.func95.trans (congrArg some (by kernel_rfl)),
  f129 := Tryz.func96.trans (congrArg some (by kernel_rfl)),
  f189 := Tryz.func53.trans (congrArg some (by kernel_rfl)),
  f215 := Tryz.func103.trans (congrArg some (by kernel_rfl)),
  f216 := Tryz.func92.trans (congrArg some (by kernel_rfl)),
  f257 := Tryz.func75.trans (congrArg some (by kernel_rfl)),
  f294 := Tryz.func86.trans (congrArg some (by kernel_rfl)),
  f295 := Tryz.func87.trans (congrArg some (by kernel_rfl)),
  f296 := Tryz.func88.trans (congrArg some (by kernel_rfl)),
  f297 := Tryz.func89.trans (congrArg some (by kernel_rfl)),
  f298 := Tryz.func90.trans (congrArg some (by kernel_rfl)),
  f299 := Tryz.func91.trans (congrArg some (by kernel_rfl)),
  f300 := Tryz.func93.trans (congrArg some (by kernel_rfl)),
  f301 := Tryz.func94.trans (congrArg some (by kernel_rfl)),
  f328 := Tryz.func98.trans (congrArg some (by kernel_rfl)),
  f329 := Tryz.func99.trans (congrArg some (by kernel_rfl)),
  f330 := Tryz.func100.trans (congrArg some (by kernel_rfl)),
  f331 := Tryz.func101.trans (congrArg some (by kernel_rfl)),
  f332 := Tryz.func102.trans (congrArg some (by kernel_rfl)),
  f343 := Tryz.func105.trans (congrArg some (by kernel_rfl)),
  t0 := Tryz.underlying0,
  a0 := Tryz.isAgg0,
  z0 := Tryz.sizeOf0,
  v0 := Tryz.zeroValue0,
  t3 := Tryz.underlying3,
  a3 := Tryz.isAgg3,
  z3 := Tryz.sizeOf3,
  v3 := Tryz.zeroValue3,
  t4 := Tryz.underlying4,
  a4 := Tryz.isAgg4,
  z4 := Tryz.sizeOf4,
  v4 := Tryz.zeroValue4,
  t5 := Tryz.underlying5,
  a5 := Tryz.isAgg5,
  z5 := Tryz.sizeOf5,
  v5 := Tryz.zeroValue5,
  t9 := Tryz.underlying9,
  a9 := Tryz.isAgg9,
  z9 := Tryz.sizeOf9,
  v9 := Tryz.zeroValue9,
  t28 := Tryz.underlying22,
  a28 := Tryz.isAgg22,
  z28 := Tryz.sizeOf22,
  v28 := Tryz.zeroValue22,
  t46 := Tryz.underlying99,
  a46 := Tryz.isAgg99,
  z46 := Tryz.sizeOf99,
  v46 := Tryz.zeroValue99,
  t51 := Tryz.underlying112,
  a51 := Tryz.isAgg112,
  z51 := Tryz.sizeOf112,
  v51 := Tryz.zeroValue112,
  t53 := Tryz.underlying114,
  a53 := Tryz.isAgg114,
  z53 := Tryz.sizeOf114,
  v53 := Tryz.zeroValue114,
  t131 := Tryz.underlying109,
  a131 := Tryz.isAgg109,
  z131 := Tryz.sizeOf109,
  v131 := Tryz.zeroValue109,
  t182 := Tryz.underlying104,
  a182 := Tryz.isAgg104,
  z182 := Tryz.sizeOf104,
  v182 := Tryz.zeroValue104,
  t183 := Tryz.underlying105,
  a183 := Tryz.isAgg105,
  z183 := Tryz.sizeOf105,
  v183 := Tryz.zeroValue105,
  t218 := Tryz.underlying115,
  a218 := Tryz.isAgg115,
  z218 := Tryz.sizeOf115,
  v218 := Tryz.zeroValue115,
  t222 := Tryz.underlying119,
  a222 := Tryz.isAgg119,
  z222 := Tryz.sizeOf119,
  v222 := Tryz.zeroValue119,
  t228 := Tryz.underlying121,
  a228 := Tryz.isAgg121,
  z228 := Tryz.sizeOf121,
  v228 := Tryz.zeroValue121,
  t229 := Tryz.underlying122,
  a229 := Tryz.isAgg122,
  z229 := Tryz.sizeOf122,
  v229 := Tryz.zeroValue122 }
theorem k_slices_Sort_I : K_slices_Sort_I Tryz.prog sF := by
  unfold K_slices_Sort_I
  rw [show sF "slices.Sort.I" = 53 by kernel_rfl]
  intro l hl
  have hb : (Tryz.f53.body.isSome) = true := by kernel_rfl
  obtain ⟨body, hb⟩ := Option.isSome_iff_exists.1 hb
  exact sort_FC (callFunc_enter Tryz.func53 (by kernel_rfl) hb) (fun blk off cap zs w h1 h2 h3 => Go.Proofs.Any.slices_Sort_int SortL blk off cap zs w h1 h2 h3) (fun p cap w => Go.Proofs.Any.slices_Sort_int_none SortL p cap w) l hl
theorem k_slices_Compact_I : K_slices_Compact_I Tryz.prog sF := by
  unfold K_slices_Compact_I
  rw [show sF "slices.Compact.I" = 54 by kernel_rfl]
  intro l hl
  refine FC.of' (rs := [.t 2]) (H := wMd h_slices_Compact_I sMd) (lc := c_slices_Compact_I sF) (n := 1) Tryz.func54 Tryz.mx ?a ?b ?c ?d ?e ?f
  case f =>
    have hw := w_slices_Compact_I (P := Tryz.prog) (F := sF) l hl
    assumption
  case a => kernel_rfl
  case b => kernel_rfl
  case c => kernel_rfl
  case d => rfl
  case e => first | rfl | (simp only [List.all_cons, List.all_nil, Bool.and_true]; first | rfl | assumption | exact caps_ok hcs)
theorem k_morphism_images : K_morphism_images Tryz.prog sF := by
  unfold K_morphism_images
  rw [show sF "morphism.images" = 33 by kernel_rfl]
  intro l hl
  refine FC.of' (rs := [.t 2]) (H := wMd h_morphism_images sMd) (lc := c_morphism_images sF) (n := 1) Tryz.func33 Tryz.mx ?a ?b ?c ?d ?e ?f
  case f =>
    have hw := w_morphism_images (P := Tryz.prog) (F := sF) k_slices_Clone_I k_slices_Sort_I k_slices_Compact_I l hl
    assumption
  case a => kernel_rfl
  case b => kernel_rfl
  case c => kernel_rfl
  case d => rfl
  case e => first | rfl | (simp only [List.all_cons, List.all_nil, Bool.and_true]; first | rfl | assumption | exact caps_ok hcs)
theorem k_morphism_Injective : K_morphism_Injective Tryz.prog sF := by
  unfold K_morphism_Injective
  rw [show sF "morphism.Injective" = 18 by kernel_rfl]
  intro a b m
  refine FC.of' (rs := [.t 6]) (H := wMd h_morphism_Injective sMd) (lc := c_morphism_Injective sF) (n := 3) Tryz.func18 Tryz.mx ?a ?b ?c ?d ?e ?f
  case f =>
    have hw := w_morphism_Injective (P := Tryz.prog) (F := sF) k_morphism_Valid k_morphism_images a b m
    assumption
  case a => kernel_rfl
  case b => kernel_rfl
  case c => kernel_rfl
  case d => rfl
  case e => first | rfl | (simp only [List.all_cons, List.all_nil, Bool.and_true]; first | rfl | assumption | exact caps_ok hcs)
theorem k_morphism_Surjective : K_morphism_Surjective Tryz.prog sF := by
  unfold K_morphism_Surjective
  rw [show sF "morphism.Surjective" = 19 by kernel_rfl]
  intro a b m
  refine FC.of' (rs := [.t 6]) (H := wMd h_morphism_Surjective sMd) (lc := c_morphism_Surjective sF) (n := 3) Tryz.func19 Tryz.mx ?a ?b ?c ?d ?e ?f
  case f =>
    have hw := w_morphism_Surjective (P := Tryz.prog) (F := sF) k_morphism_Valid k_morphism_images a b m
    assumption
  case a => kernel_rfl
  case b => kernel_rfl
  case c => kernel_rfl
  case d => rfl
  case e => first | rfl | (simp only [List.all_cons, List.all_nil, Bool.and_true]; first | rfl | assumption | exact caps_ok hcs)
theorem k_pushout_Check : K_pushout_Check Tryz.prog sF := by
  unfold K_pushout_Check
  rw [show sF "pushout.Check" = 7 by kernel_rfl]
  intro s x h k
  refine FC.of' (rs := [.t 8]) (H := wMd h_pushout_Check sMd) (lc := c_pushout_Check sF) (n := 4) Tryz.func7 Tryz.mx ?a ?b ?c ?d ?e ?f
  case f =>
    have hw := w_pushout_Check (P := Tryz.prog) (F := sF) k_pushout_Mediate k_pushout_glue k_morphism_Injective k_morphism_Surjective s x h k
    assumption
  case a => kernel_rfl
  case b => kernel_rfl
  case c => kernel_rfl
  case d => rfl
  case e => first | rfl | (simp only [List.all_cons, List.all_nil, Bool.and_true]; first | rfl | assumption | exact caps_ok hcs)
theorem k_r05_kind : K_r05_kind Tryz.prog sF := by
  unfold K_r05_kind
  rw [show sF "r05.kind" = 77 by kernel_rfl]
  intro n
  refine FC.of' (rs := [.t 2]) (H := wMd h_r05_kind sMd) (lc := c_r05_kind sF) (n := 1) Tryz.func77 Tryz.mx ?a ?b ?c ?d ?e ?f
  case f =>
    have hw := w_r05_kind (P := Tryz.prog) (F := sF) n
    assumption
  case a => kernel_rfl
  case b => kernel_rfl
  case c => kernel_rfl
  case d => rfl
  case e => first | rfl | (simp only [List.all_cons, List.all_nil, Bool.and_true]; first | rfl | assumption | exact caps_ok hcs)
theorem k_r05_right : K_r05_right Tryz.prog sF := by
  unfold K_r05_right
  rw [show sF "r05.right" = 78 by kernel_rfl]
  intro x n
  refine FC.of' (rs := [.t 4]) (H := wMd h_r05_right sMd) (lc := c_r05_right sF) (n := 2) Tryz.func78 Tryz.mx ?a ?b ?c ?d ?e ?f
  case f =>
    have hw := w_r05_right (P := Tryz.prog) (F := sF) k_r05_kind x n
    assumption
  case a => kernel_rfl
  case b => kernel_rfl
  case c => kernel_rfl
  case d => rfl
  case e => first | rfl | (simp only [List.all_cons, List.all_nil, Bool.and_true]; first | rfl | assumption | exact caps_ok hcs)
theorem k_r05_Valid : K_r05_Valid Tryz.prog sF := by
  unfold K_r05_Valid
  rw [show sF "r05.Valid" = 55 by kernel_rfl]
  intro g
  refine FC.of' (rs := [.t 2]) (H := wMd h_r05_Valid sMd) (lc := c_r05_Valid sF) (n := 1) Tryz.func55 Tryz.mx ?a ?b ?c ?d ?e ?f
  case f =>
    have hw := w_r05_Valid (P := Tryz.prog) (F := sF) k_r05_kind k_r05_right g
    assumption
  case a => kernel_rfl
  case b => kernel_rfl
  case c => kernel_rfl
  case d => rfl
  case e => first | rfl | (simp only [List.all_cons, List.all_nil, Bool.and_true]; first | rfl | assumption | exact caps_ok hcs)
theorem k_r06_Valid : K_r06_Valid Tryz.prog sF := by
  unfold K_r06_Valid
  rw [show sF "r06.Valid" = 40 by kernel_rfl]
  intro a b m
  refine FC.of' (rs := [.t 6]) (H := wMd h_r06_Valid sMd) (lc := c_r06_Valid sF) (n := 3) Tryz.func40 Tryz.mx ?a ?b ?c ?d ?e ?f
  case f =>
    have hw := w_r06_Valid (P := Tryz.prog) (F := sF) k_r05_Valid a b m
    assumption
  case a => kernel_rfl
  case b => kernel_rfl
  case c => kernel_rfl
  case d => rfl
  case e => first | rfl | (simp only [List.all_cons, List.all_nil, Bool.and_true]; first | rfl | assumption | exact caps_ok hcs)
theorem k_r10_Span : K_r10_Span Tryz.prog sF := by
  unfold K_r10_Span
  rw [show sF "r10.Span" = 36 by kernel_rfl]
  intro s
  refine FC.of' (rs := [.t 2]) (H := wMd h_r10_Span sMd) (lc := c_r10_Span sF) (n := 1) Tryz.func36 Tryz.mx ?a ?b ?c ?d ?e ?f
  case f =>
    have hw := w_r10_Span (P := Tryz.prog) (F := sF) k_r06_Valid s
    assumption
  case a => kernel_rfl
  case b => kernel_rfl
  case c => kernel_rfl
  case d => rfl
  case e => first | rfl | (simp only [List.all_cons, List.all_nil, Bool.and_true]; first | rfl | assumption | exact caps_ok hcs)
theorem k_r05_Copied : K_r05_Copied Tryz.prog sF := by
  unfold K_r05_Copied
  rw [show sF "r05.Copied" = 56 by kernel_rfl]
  intro g h0 h1
  refine FC.of' (rs := [.c 2 true 2]) (H := wMd h_r05_Copied sMd) (lc := c_r05_Copied sF) (n := 1) Tryz.func56 Tryz.mx ?a ?b ?c ?d ?e ?f
  case f =>
    have hw := w_r05_Copied (P := Tryz.prog) (F := sF) g h0 h1
    assumption
  case a => kernel_rfl
  case b => kernel_rfl
  case c => kernel_rfl
  case d => rfl
  case e => first | rfl | (simp only [List.all_cons, List.all_nil, Bool.and_true]; first | rfl | assumption | exact caps_ok hcs)
theorem k_r05_Numbers : K_r05_Numbers Tryz.prog sF := by
  unfold K_r05_Numbers
  rw [show sF "r05.Numbers" = 57 by kernel_rfl]
  intro f n h0 h1 h2
  refine FC.of' (rs := [.t 4]) (H := wMd h_r05_Numbers sMd) (lc := c_r05_Numbers sF) (n := 2) Tryz.func57 Tryz.mx ?a ?b ?c ?d ?e ?f
  case f =>
    have hw := w_r05_Numbers (P := Tryz.prog) (F := sF) f n h0 h1 h2
    assumption
  case a => kernel_rfl
  case b => kernel_rfl
  case c => kernel_rfl
  case d => rfl
  case e => first | rfl | (simp only [List.all_cons, List.all_nil, Bool.and_true]; first | rfl | assumption | exact caps_ok hcs)
theorem k_r05_Union : K_r05_Union Tryz.prog sF := by
  unfold K_r05_Union
  rw [show sF "r05.Union" = 37 by kernel_rfl]
  intro a b
  refine FC.of' (rs := [.c 4 true 2, .c 5 true 2, .c 6 true 2, .t 7]) (H := wMd h_r05_Union sMd) (lc := c_r05_Union sF) (n := 2) Tryz.func37 Tryz.mx ?a ?b ?c ?d ?e ?f
  case f =>
    have hw := w_r05_Union (P := Tryz.prog) (F := sF) k_r05_Valid k_r05_Copied k_r05_Numbers a b
    assumption
  case a => kernel_rfl
  case b => kernel_rfl
  case c => kernel_rfl
  case d => rfl
  case e => first | rfl | (simp only [List.all_cons, List.all_nil, Bool.and_true]; first | rfl | assumption | exact caps_ok hcs)
theorem k_r06_Through : K_r06_Through Tryz.prog sF := by
  unfold K_r06_Through
  rw [show sF "r06.Through" = 61 by kernel_rfl]
  intro l b hl hb
  refine FC.of' (rs := [.t 4]) (H := wMd h_r06_Through sMd) (lc := c_r06_Through sF) (n := 2) Tryz.func61 Tryz.mx ?a ?b ?c ?d ?e ?f
  case f =>
    have hw := w_r06_Through (P := Tryz.prog) (F := sF) l b hl hb
    assumption
  case a => kernel_rfl
  case b => kernel_rfl
  case c => kernel_rfl
  case d => rfl
  case e => first | rfl | (simp only [List.all_cons, List.all_nil, Bool.and_true]; first | rfl | assumption | exact caps_ok hcs)
theorem k_r06_Then : K_r06_Then Tryz.prog sF := by
  unfold K_r06_Then
  rw [show sF "r06.Then" = 39 by kernel_rfl]
  intro m n h1 h2 h3 h4
  refine FC.of' (rs := [.c 4 true 2]) (H := wMd h_r06_Then sMd) (lc := c_r06_Then sF) (n := 2) Tryz.func39 Tryz.mx ?a ?b ?c ?d ?e ?f
  case f =>
    have hw := w_r06_Then (P := Tryz.prog) (F := sF) k_r06_Through m n h1 h2 h3 h4
    assumption
  case a => kernel_rfl
  case b => kernel_rfl
  case c => kernel_rfl
  case d => rfl
  case e => first | rfl | (simp only [List.all_cons, List.all_nil, Bool.and_true]; first | rfl | assumption | exact caps_ok hcs)
theorem k_r10_Cocone : K_r10_Cocone Tryz.prog sF := by
  unfold K_r10_Cocone
  rw [show sF "r10.Cocone" = 34 by kernel_rfl]
  intro s x h k
  refine FC.of' (rs := [.t 8]) (H := wMd h_r10_Cocone sMd) (lc := c_r10_Cocone sF) (n := 4) Tryz.func34 Tryz.mx ?a ?b ?c ?d ?e ?f
  case f =>
    have hw := w_r10_Cocone (P := Tryz.prog) (F := sF) k_r10_Span k_r06_Valid k_r05_Union k_r06_Then k_r06_Same s x h k
    assumption
  case a => kernel_rfl
  case b => kernel_rfl
  case c => kernel_rfl
  case d => rfl
  case e => first | rfl | (simp only [List.all_cons, List.all_nil, Bool.and_true]; first | rfl | assumption | exact caps_ok hcs)
theorem k_r10_pairs : K_r10_pairs Tryz.prog sF := by
  unfold K_r10_pairs
  rw [show sF "r10.pairs" = 59 by kernel_rfl]
  intro f g hf hg
  refine FC.of' (rs := [.t 4]) (H := wMd h_r10_pairs sMd) (lc := c_r10_pairs sF) (n := 2) Tryz.func59 Tryz.mx ?a ?b ?c ?d ?e ?f
  case f =>
    have hw := w_r10_pairs (P := Tryz.prog) (F := sF) f g hf hg
    assumption
  case a => kernel_rfl
  case b => kernel_rfl
  case c => kernel_rfl
  case d => rfl
  case e => first | rfl | (simp only [List.all_cons, List.all_nil, Bool.and_true]; first | rfl | assumption | exact caps_ok hcs)
theorem k_r02_Finest : K_r02_Finest Tryz.prog sF := by
  unfold K_r02_Finest
  rw [show sF "r02.Finest" = 79 by kernel_rfl]
  intro n h2
  refine FC.of' (rs := [.t 2]) (H := wMd h_r02_Finest sMd) (lc := c_r02_Finest sF) (n := 1) Tryz.func79 Tryz.mx ?a ?b ?c ?d ?e ?f
  case f =>
    have hw := w_r02_Finest (P := Tryz.prog) (F := sF) n h2
    assumption
  case a => kernel_rfl
  case b => kernel_rfl
  case c => kernel_rfl
  case d => rfl
  case e => first | rfl | (simp only [List.all_cons, List.all_nil, Bool.and_true]; first | rfl | assumption | exact caps_ok hcs)
theorem k_r02_Merge : K_r02_Merge Tryz.prog sF := by
  unfold K_r02_Merge
  rw [show sF "r02.Merge" = 80 by kernel_rfl]
  intro p a b hl ha hb
  refine FC.of' (rs := [.t 6]) (H := wMd h_r02_Merge sMd) (lc := c_r02_Merge sF) (n := 3) Tryz.func80 Tryz.mx ?a ?b ?c ?d ?e ?f
  case f =>
    have hw := w_r02_Merge (P := Tryz.prog) (F := sF) p a b hl ha hb
    assumption
  case a => kernel_rfl
  case b => kernel_rfl
  case c => kernel_rfl
  case d => rfl
  case e => first | rfl | (simp only [List.all_cons, List.all_nil, Bool.and_true]; first | rfl | assumption | exact caps_ok hcs)
theorem k_r02_Generate : K_r02_Generate Tryz.prog sF := by
  unfold K_r02_Generate
  rw [show sF "r02.Generate" = 58 by kernel_rfl]
  intro n l hn hl hp
  refine FC.of' (rs := [.t 4, .t 5]) (H := wMd h_r02_Generate sMd) (lc := c_r02_Generate sF) (n := 2) Tryz.func58 Tryz.mx ?a ?b ?c ?d ?e ?f
  case f =>
    have hw := w_r02_Generate (P := Tryz.prog) (F := sF) k_r02_Finest k_r02_Merge n l hn hl hp
    assumption
  case a => kernel_rfl
  case b => kernel_rfl
  case c => kernel_rfl
  case d => rfl
  case e => first | rfl | (simp only [List.all_cons, List.all_nil, Bool.and_true]; first | rfl | assumption | exact caps_ok hcs)
theorem k_r02_Valid : K_r02_Valid Tryz.prog sF := by
  unfold K_r02_Valid
  rw [show sF "r02.Valid" = 104 by kernel_rfl]
  intro p hp
  refine FC.of' (rs := [.t 2]) (H := wMd h_r02_Valid sMd) (lc := c_r02_Valid sF) (n := 1) Tryz.func104 Tryz.mx ?a ?b ?c ?d ?e ?f
  case f =>
    have hw := w_r02_Valid (P := Tryz.prog) (F := sF) p hp
    assumption
  case a => kernel_rfl
  case b => kernel_rfl
  case c => kernel_rfl
  case d => rfl
  case e => first | rfl | (simp only [List.all_cons, List.all_nil, Bool.and_true]; first | rfl | assumption | exact caps_ok hcs)
theorem k_r02_one : K_r02_one Tryz.prog sF := by
  unfold K_r02_one
  rw [show sF "r02.one" = 97 by kernel_rfl]
  intro p hp
  refine FC.of' (rs := [.t 2]) (H := wMd h_r02_one sMd) (lc := c_r02_one sF) (n := 1) Tryz.func97 Tryz.mx ?a ?b ?c ?d ?e ?f
  case f =>
    have hw := w_r02_one (P := Tryz.prog) (F := sF) k_r02_Valid p hp
    assumption
  case a => kernel_rfl
  case b => kernel_rfl
  case c => kernel_rfl
  case d => rfl
  case e => first | rfl | (simp only [List.all_cons, List.all_nil, Bool.and_true]; first | rfl | assumption | exact caps_ok hcs)
theorem k_r02_Quotient : K_r02_Quotient Tryz.prog sF := by
  unfold K_r02_Quotient
  rw [show sF "r02.Quotient" = 81 by kernel_rfl]
  intro p hp
  refine FC.of' (rs := [.t 2, .t 3, .t 4]) (H := wMd h_r02_Quotient sMd) (lc := c_r02_Quotient sF) (n := 1) Tryz.func81 Tryz.mx ?a ?b ?c ?d ?e ?f
  case f =>
    have hw := w_r02_Quotient (P := Tryz.prog) (F := sF) k_r02_one p hp
    assumption
  case a => kernel_rfl
  case b => kernel_rfl
  case c => kernel_rfl
  case d => rfl
  case e => first | rfl | (simp only [List.all_cons, List.all_nil, Bool.and_true]; first | rfl | assumption | exact caps_ok hcs)
theorem k_r10_Quotient : K_r10_Quotient Tryz.prog sF := by
  unfold K_r10_Quotient
  rw [show sF "r10.Quotient" = 60 by kernel_rfl]
  intro g p r hv hc
  refine FC.of' (rs := [.c 6 true 2, .c 7 true 2]) (H := wMd h_r10_Quotient sMd) (lc := c_r10_Quotient sF) (n := 3) Tryz.func60 Tryz.mx ?a ?b ?c ?d ?e ?f
  case f =>
    have hw := w_r10_Quotient (P := Tryz.prog) (F := sF) k_r02_Quotient g p r hv hc
    assumption
  case a => kernel_rfl
  case b => kernel_rfl
  case c => kernel_rfl
  case d => rfl
  case e => first | rfl | (simp only [List.all_cons, List.all_nil, Bool.and_true]; first | rfl | assumption | exact caps_ok hcs)
theorem k_r10_glue : K_r10_glue Tryz.prog sF := by
  unfold K_r10_glue
  rw [show sF "r10.glue" = 38 by kernel_rfl]
  intro a g f h hf hh
  refine FC.of' (rs := [.c 6 true 2, .c 7 true 2]) (H := wMd h_r10_glue sMd) (lc := c_r10_glue sF) (n := 3) Tryz.func38 Tryz.mx ?a ?b ?c ?d ?e ?f
  case f =>
    have hw := w_r10_glue (P := Tryz.prog) (F := sF) k_r10_pairs k_r02_Generate k_r10_Quotient a g f h hf hh
    assumption
  case a => kernel_rfl
  case b => kernel_rfl
  case c => kernel_rfl
  case d => rfl
  case e => first | rfl | (simp only [List.all_cons, List.all_nil, Bool.and_true]; first | rfl | assumption | exact caps_ok hcs)
theorem k_r10_Of : K_r10_Of Tryz.prog sF := by
  unfold K_r10_Of
  rw [show sF "r10.Of" = 21 by kernel_rfl]
  intro s
  refine FC.of' (rs := [.c 2 true 2, .c 3 true 2, .c 4 true 2, .t 5]) (H := wMd h_r10_Of sMd) (lc := c_r10_Of sF) (n := 1) Tryz.func21 Tryz.mx ?a ?b ?c ?d ?e ?f
  case f =>
    have hw := w_r10_Of (P := Tryz.prog) (F := sF) k_r10_Span k_r05_Union k_r06_Then k_r10_glue s
    assumption
  case a => kernel_rfl
  case b => kernel_rfl
  case c => kernel_rfl
  case d => rfl
  case e => first | rfl | (simp only [List.all_cons, List.all_nil, Bool.and_true]; first | rfl | assumption | exact caps_ok hcs)
theorem k_r10_onto : K_r10_onto Tryz.prog sF := by
  unfold K_r10_onto
  rw [show sF "r10.onto" = 35 by kernel_rfl]
  intro n p h q k hn h1 h2
  refine FC.of' (rs := [.t 10]) (H := wMd h_r10_onto sMd) (lc := c_r10_onto sF) (n := 5) Tryz.func35 Tryz.mx ?a ?b ?c ?d ?e ?f
  case f =>
    have hw := w_r10_onto (P := Tryz.prog) (F := sF) n p h q k hn h1 h2
    assumption
  case a => kernel_rfl
  case b => kernel_rfl
  case c => kernel_rfl
  case d => rfl
  case e => first | rfl | (simp only [List.all_cons, List.all_nil, Bool.and_true]; first | rfl | assumption | exact caps_ok hcs)
theorem k_r10_Mediate : K_r10_Mediate Tryz.prog sF := by
  unfold K_r10_Mediate
  rw [show sF "r10.Mediate" = 20 by kernel_rfl]
  intro s x h k
  refine FC.of' (rs := [.c 8 true 2, .t 9]) (H := wMd h_r10_Mediate sMd) (lc := c_r10_Mediate sF) (n := 4) Tryz.func20 Tryz.mx ?a ?b ?c ?d ?e ?f
  case f =>
    have hw := w_r10_Mediate (P := Tryz.prog) (F := sF) k_r10_Cocone k_r10_Of k_r10_onto s x h k
    assumption
  case a => kernel_rfl
  case b => kernel_rfl
  case c => kernel_rfl
  case d => rfl
  case e => first | rfl | (simp only [List.all_cons, List.all_nil, Bool.and_true]; first | rfl | assumption | exact caps_ok hcs)
theorem k_r06_Distinct : K_r06_Distinct Tryz.prog sF := by
  unfold K_r06_Distinct
  rw [show sF "r06.Distinct" = 62 by kernel_rfl]
  intro l hl
  refine FC.of' (rs := [.t 2]) (H := wMd h_r06_Distinct sMd) (lc := c_r06_Distinct sF) (n := 1) Tryz.func62 Tryz.mx ?a ?b ?c ?d ?e ?f
  case f =>
    have hw := w_r06_Distinct (P := Tryz.prog) (F := sF) l hl
    assumption
  case a => kernel_rfl
  case b => kernel_rfl
  case c => kernel_rfl
  case d => rfl
  case e => first | rfl | (simp only [List.all_cons, List.all_nil, Bool.and_true]; first | rfl | assumption | exact caps_ok hcs)
theorem k_r06_Injective : K_r06_Injective Tryz.prog sF := by
  unfold K_r06_Injective
  rw [show sF "r06.Injective" = 41 by kernel_rfl]
  intro a b m h1 h2
  refine FC.of' (rs := [.t 6]) (H := wMd h_r06_Injective sMd) (lc := c_r06_Injective sF) (n := 3) Tryz.func41 Tryz.mx ?a ?b ?c ?d ?e ?f
  case f =>
    have hw := w_r06_Injective (P := Tryz.prog) (F := sF) k_r06_Valid k_r06_Distinct a b m h1 h2
    assumption
  case a => kernel_rfl
  case b => kernel_rfl
  case c => kernel_rfl
  case d => rfl
  case e => first | rfl | (simp only [List.all_cons, List.all_nil, Bool.and_true]; first | rfl | assumption | exact caps_ok hcs)
theorem k_r06_Covers : K_r06_Covers Tryz.prog sF := by
  unfold K_r06_Covers
  rw [show sF "r06.Covers" = 63 by kernel_rfl]
  intro l n hl hn
  refine FC.of' (rs := [.t 4]) (H := wMd h_r06_Covers sMd) (lc := c_r06_Covers sF) (n := 2) Tryz.func63 Tryz.mx ?a ?b ?c ?d ?e ?f
  case f =>
    have hw := w_r06_Covers (P := Tryz.prog) (F := sF) l n hl hn
    assumption
  case a => kernel_rfl
  case b => kernel_rfl
  case c => kernel_rfl
  case d => rfl
  case e => first | rfl | (simp only [List.all_cons, List.all_nil, Bool.and_true]; first | rfl | assumption | exact caps_ok hcs)
theorem k_r06_Surjective : K_r06_Surjective Tryz.prog sF := by
  unfold K_r06_Surjective
  rw [show sF "r06.Surjective" = 42 by kernel_rfl]
  intro a b m
  refine FC.of' (rs := [.t 6]) (H := wMd h_r06_Surjective sMd) (lc := c_r06_Surjective sF) (n := 3) Tryz.func42 Tryz.mx ?a ?b ?c ?d ?e ?f
  case f =>
    have hw := w_r06_Surjective (P := Tryz.prog) (F := sF) k_r06_Valid k_r06_Covers a b m
    assumption
  case a => kernel_rfl
  case b => kernel_rfl
  case c => kernel_rfl
  case d => rfl
  case e => first | rfl | (simp only [List.all_cons, List.all_nil, Bool.and_true]; first | rfl | assumption | exact caps_ok hcs)
theorem k_r06_Back : K_r06_Back Tryz.prog sF := by
  unfold K_r06_Back
  rw [show sF "r06.Back" = 43 by kernel_rfl]
  intro l n hl hn
  refine FC.of' (rs := [.t 4]) (H := wMd h_r06_Back sMd) (lc := c_r06_Back sF) (n := 2) Tryz.func43 Tryz.mx ?a ?b ?c ?d ?e ?f
  case f =>
    have hw := w_r06_Back (P := Tryz.prog) (F := sF) l n hl hn
    assumption
  case a => kernel_rfl
  case b => kernel_rfl
  case c => kernel_rfl
  case d => rfl
  case e => first | rfl | (simp only [List.all_cons, List.all_nil, Bool.and_true]; first | rfl | assumption | exact caps_ok hcs)
theorem k_r06_Inverse : K_r06_Inverse Tryz.prog sF := by
  unfold K_r06_Inverse
  rw [show sF "r06.Inverse" = 22 by kernel_rfl]
  intro a b m
  refine FC.of' (rs := [.c 6 true 2, .t 7]) (H := wMd h_r06_Inverse sMd) (lc := c_r06_Inverse sF) (n := 3) Tryz.func22 Tryz.mx ?a ?b ?c ?d ?e ?f
  case f =>
    have hw := w_r06_Inverse (P := Tryz.prog) (F := sF) k_r06_Valid k_r06_Injective k_r06_Surjective k_r06_Back a b m
    assumption
  case a => kernel_rfl
  case b => kernel_rfl
  case c => kernel_rfl
  case d => rfl
  case e => first | rfl | (simp only [List.all_cons, List.all_nil, Bool.and_true]; first | rfl | assumption | exact caps_ok hcs)
theorem k_r10_Check : K_r10_Check Tryz.prog sF := by
  unfold K_r10_Check
  rw [show sF "r10.Check" = 8 by kernel_rfl]
  intro s x h k
  refine FC.of' (rs := [.t 8]) (H := wMd h_r10_Check sMd) (lc := c_r10_Check sF) (n := 4) Tryz.func8 Tryz.mx ?a ?b ?c ?d ?e ?f
  case f =>
    have hw := w_r10_Check (P := Tryz.prog) (F := sF) k_r10_Mediate k_r10_Of k_r06_Inverse s x h k
    assumption
  case a => kernel_rfl
  case b => kernel_rfl
  case c => kernel_rfl
  case d => rfl
  case e => first | rfl | (simp only [List.all_cons, List.all_nil, Bool.and_true]; first | rfl | assumption | exact caps_ok hcs)
theorem k_l10_PushoutCheck : K_l10_PushoutCheck Tryz.prog sF := by
  unfold K_l10_PushoutCheck
  rw [show sF "l10.PushoutCheck" = 3 by kernel_rfl]
  intro s x h k h1 h2 h3
  refine FC.of' (rs := [.t 4]) (H := wMd h_l10_PushoutCheck sMd) (lc := c_l10_PushoutCheck sF) (n := 2) Tryz.func3 Tryz.mx ?a ?b ?c ?d ?e ?f
  case f =>
    have hw := w_l10_PushoutCheck (P := Tryz.prog) (F := sF) k_l10_awake k_r10_Few k_l10_few k_pushout_Check k_r10_Check s x h k h1 h2 h3
    assumption
  case a => kernel_rfl
  case b => kernel_rfl
  case c => kernel_rfl
  case d => rfl
  case e => first | rfl | (simp only [List.all_cons, List.all_nil, Bool.and_true]; first | rfl | assumption | exact caps_ok hcs)
end Go.Proofs.YtpdjpdfkacpnnaaGreat
