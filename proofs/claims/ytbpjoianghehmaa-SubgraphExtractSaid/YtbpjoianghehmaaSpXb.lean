/- Parts: deletion of numbers, intersections, images and preimages: the walks. -/
/- Parts without a boundary and connected components, plain. -/
/- Chapter 07: helpers of the laws; the laws Valid, Close, Join, Image, Adjoint, Extract, Boundary. -/
import Derived.Test.YtbpjoianghehmaaSpPa
import Derived.Test.YtbpjoianghehmaaSpPb
import Derived.Test.YtbpjoianghehmaaSpPc
import Derived.Test.YtbpjoianghehmaaSpXa
namespace Go.Am
open Go
set_option linter.unusedVariables false
set_option linter.unusedSimpArgs false
attribute [local irreducible] W
section
variable (P : Program) (F : String → Nat)
end
section
variable {P : Program} {F : String → Nat} {α : Type}
theorem w_subgraph_Image (hv : K_morphism_Valid P F) (hc : K_slices_Clone_I P F) (hs : K_subgraph_sorted P F) (a b : G) (m : Mo) : W P (c_subgraph_Image F) (Done [.c 6 true 2, .t 7] [] (.tup [mA (imR a b m).1, .int .i64 (imR a b m).2]) []) (init [gD a, gD b, mD m]) := by
  refine W_of ?_
  have r1 := hv a b m
  have hR : imR a b m = if validM a b m ≠ 0 then (m0, validM a b m) else (⟨imgs m.n, imgs m.e⟩, 0) := rfl
  have hl : validM a b m = 0 → _ := fun h => validM_len h
  generalize validM a b m = v at *
  rw [hR]
  clear hR
  obtain ⟨mn, me⟩ := m
  simp only [gD, mD, mA, m0] at *
  simp (config := { maxSteps := 1000000 }) (disch := first | omega | (simp only [go_sem]; omega)) only [go_sem, ↓reduceIte]
  refine call_by r1 ?_
  simp (config := { maxSteps := 1000000 }) (disch := first | omega | (simp only [go_sem]; omega)) only [go_sem, ↓reduceIte]
  refine bran_ndec (fun c => ?_) (fun c => ?_)
  · simp (config := { maxSteps := 1000000 }) (disch := first | omega | (simp only [go_sem]; omega)) only [go_sem, ↓reduceIte]
    simp [c, mA, m0, ints]
  · have l := hl c
    have r2 := hc mn (by omega)
    have r3 := hs mn (by unfold maxL; omega)
    have r4 := hc me (by omega)
    have r5 := hs me (by unfold maxL; omega)
    rw [if_neg (by simp [c])]
    generalize imgs mn = y1 at *
    generalize imgs me = y2 at *
    simp (config := { maxSteps := 1000000 }) (disch := first | omega | (simp only [go_sem]; omega)) only [go_sem, ↓reduceIte]
    refine call_by r2 ?_
    simp (config := { maxSteps := 1000000 }) (disch := first | omega | (simp only [go_sem]; omega)) only [go_sem, ↓reduceIte]
    refine call_by r3 ?_
    simp (config := { maxSteps := 1000000 }) (disch := first | omega | (simp only [go_sem]; omega)) only [go_sem, ↓reduceIte]
    refine call_by r4 ?_
    simp (config := { maxSteps := 1000000 }) (disch := first | omega | (simp only [go_sem]; omega)) only [go_sem, ↓reduceIte]
    refine call_by r5 ?_
    simp (config := { maxSteps := 1000000 }) (disch := first | omega | (simp only [go_sem]; omega)) only [go_sem, ↓reduceIte]
    try rfl
end
end Go.Am
namespace Go.Am
open Go
set_option linter.unusedVariables false
set_option linter.unusedSimpArgs false
/-- The inclusion of a part is injective, and its image is the part. -/
theorem incl_facts {g : G} {p : Mo} (hp : PK g p) : validM (ptG g p) g p = 0 ∧ injM (ptG g p) g p = true ∧ (⟨imgs p.n, imgs p.e⟩ : Mo) = p ∧ (ptG g p).n.length = p.n.length ∧ (ptG g p).e.length = p.e.length := by
  have h := ex_ok hp
  refine ⟨mok.2 h, (injM_ok h).2 ⟨hp.n.p.imp fun h => by omega, hp.e.p.imp fun h => by omega⟩, mo_extP (imgs_asc hp.n.p) (imgs_asc hp.e.p), thr_len _ _, exL_len _ _ _⟩
end Go.Am
namespace Go.Am
open Go
set_option linter.unusedVariables false
set_option linter.unusedSimpArgs false
attribute [local irreducible] W
/- slices.IndexFunc.apiPart -/
def c_slices_IndexFunc_apiPart_r0 (F : String → Nat) : List LI := [⟨some 4, .mov (.k (.int .i64 (0))), none⟩]
def c_slices_IndexFunc_apiPart_r1 (F : String → Nat) : List LI := [⟨some 6, .mov (.t 0), none⟩,
  ⟨some 7, .len (.t 6), none⟩,
  ⟨some 8, .mov (.k (.int .i64 (0))), none⟩]
def c_slices_IndexFunc_apiPart_r2 (F : String → Nat) : List LI := [⟨some 9, .bin .lss (.t 8) (.t 7), none⟩]
def c_slices_IndexFunc_apiPart_r3 (F : String → Nat) : List LI := [⟨some 10, .mov (.t 8), none⟩,
  ⟨some 5, .mov (.t 10), none⟩]
def c_slices_IndexFunc_apiPart_r4 (F : String → Nat) : List LI := [⟨some 11, .mov (.t 1), none⟩,
  ⟨some 12, .mov (.t 0), none⟩,
  ⟨some 13, .mov (.t 5), none⟩,
  ⟨some 14, .iad 2 (.t 12) (.t 13), none⟩,
  ⟨some 15, .load true 2 (.t 14), none⟩,
  ⟨some 16, .callv (.t 11) [.t 15], none⟩]
def c_slices_IndexFunc_apiPart_r5 (F : String → Nat) : List LI := [⟨some 17, .mov (.t 5), none⟩,
  ⟨some 4, .mov (.t 17), none⟩]
def c_slices_IndexFunc_apiPart_r6 (F : String → Nat) : List LI := [⟨some 18, .bin .add (.t 8) (.k (.int .i64 (1))), none⟩,
  ⟨some 8, .mov (.t 18), none⟩]
def c_slices_IndexFunc_apiPart_b7 (F : String → Nat) : LC := (.seq (.reg (c_slices_IndexFunc_apiPart_r2 F) [0, 1, 7, 8, 9]) (.seq (.cond (.t 9) .skip (.exit 0)) (.seq (.block 1 (.seq (.reg (c_slices_IndexFunc_apiPart_r3 F) [0, 1, 5, 7, 8]) (.seq (.reg (c_slices_IndexFunc_apiPart_r4 F) [0, 1, 5, 7, 8, 16]) (.cond (.t 16) (.seq (.reg (c_slices_IndexFunc_apiPart_r5 F) [4]) .ret) .skip)))) (.reg (c_slices_IndexFunc_apiPart_r6 F) [0, 1, 7, 8]))))
def c_slices_IndexFunc_apiPart_r8 (F : String → Nat) : List LI := [⟨some 4, .mov (.k (.int .i64 (-1))), none⟩]
def c_slices_IndexFunc_apiPart (F : String → Nat) : LC := (.seq (.reg (c_slices_IndexFunc_apiPart_r0 F) [0, 1]) (.seq (.seq (.reg (c_slices_IndexFunc_apiPart_r1 F) [0, 1, 7, 8]) (.block 0 (.loop [0, 1, 7, 8] (c_slices_IndexFunc_apiPart_b7 F)))) (.seq (.reg (c_slices_IndexFunc_apiPart_r8 F) [4]) .ret)))
def h_slices_IndexFunc_apiPart : Hints := ⟨[], fun _ => [], tab [(0, [0, 1]), (1, [0, 1, 7, 8]), (2, [0, 1, 7, 8, 9]), (3, [0, 1, 5, 7, 8]), (4, [0, 1, 5, 7, 8, 16]), (5, [4]), (6, [0, 1, 7, 8]), (7, [4])], tab [(2, [0, 1, 7, 8])]⟩

/- slices.ContainsFunc.apiPart -/
def c_slices_ContainsFunc_apiPart_r0 (F : String → Nat) : List LI := [⟨some 4, .mov (.k (.bool false)), none⟩]
def c_slices_ContainsFunc_apiPart_r1 (F : String → Nat) : List LI := [⟨some 5, .mov (.t 0), none⟩,
  ⟨some 6, .mov (.t 1), none⟩,
  ⟨some 7, .call (F "slices.IndexFunc.apiPart") [.t 5, .t 6] [], none⟩,
  ⟨some 8, .bin .geq (.t 7) (.k (.int .i64 (0))), none⟩,
  ⟨some 4, .mov (.t 8), none⟩]
def c_slices_ContainsFunc_apiPart (F : String → Nat) : LC := (.seq (.reg (c_slices_ContainsFunc_apiPart_r0 F) [0, 1]) (.seq (.reg (c_slices_ContainsFunc_apiPart_r1 F) [4]) .ret))
def h_slices_ContainsFunc_apiPart : Hints := ⟨[], fun _ => [], tab [(0, [0, 1]), (1, [4])], tab []⟩

/- l07.small -/
def c_l07_small_r0 (F : String → Nat) : List LI := [⟨some 2, .bx (.t 0), none⟩,
  ⟨some 4, .mov (.k (.bool false)), none⟩]
def c_l07_small_r1 (F : String → Nat) : List LI := [⟨some 5, .load true 2 (.t 2), none⟩,
  ⟨some 6, .call (F "r05.Few") [.t 5] [], none⟩,
  ⟨some 7, .mov (.t 6), none⟩,
  ⟨some 8, .mov (.t 1), some (7, true)⟩,
  ⟨some 9, .call (F "slices.ContainsFunc.apiPart") [.t 8, .k (.clo (F "l07.small.1") [])] [], some (7, true)⟩,
  ⟨some 10, .not (.t 9), some (7, true)⟩,
  ⟨some 11, .pick (.t 7) (.t 10) (.k (.bool false)), none⟩,
  ⟨some 4, .mov (.t 11), none⟩]
def c_l07_small (F : String → Nat) : LC := (.seq (.reg (c_l07_small_r0 F) [1, 2]) (.seq (.reg (c_l07_small_r1 F) [4]) .ret))
def h_l07_small : Hints := ⟨[], fun _ => [], tab [(0, [1, 2]), (1, [4])], tab []⟩

/- l07.small.1 -/
def c_l07_small_1_r0 (F : String → Nat) : List LI := [⟨some 1, .bx (.t 0), none⟩,
  ⟨some 2, .mov (.k (.bool false)), none⟩]
def c_l07_small_1_r1 (F : String → Nat) : List LI := [⟨some 3, .load true 2 (.t 1), none⟩,
  ⟨some 4, .call (F "r07.Few") [.t 3, .k (.int .i64 (150))] [], none⟩,
  ⟨some 5, .not (.t 4), none⟩,
  ⟨some 2, .mov (.t 5), none⟩]
def c_l07_small_1 (F : String → Nat) : LC := (.seq (.reg (c_l07_small_1_r0 F) [1]) (.seq (.reg (c_l07_small_1_r1 F) [2]) .ret))
def h_l07_small_1 : Hints := ⟨[], fun _ => [], tab [(0, [1]), (1, [2])], tab []⟩

/- l07.SubgraphExtract -/
def c_l07_SubgraphExtract_r0 (F : String → Nat) : List LI := [⟨some 2, .bx (.t 0), none⟩,
  ⟨some 4, .mov (.k (.bool false)), none⟩]
def c_l07_SubgraphExtract_r1 (F : String → Nat) : List LI := [⟨some 11, .call (F "l07.awake") [] [], none⟩,
  ⟨some 12, .not (.t 11), none⟩,
  ⟨some 13, .mov (.t 12), none⟩,
  ⟨some 14, .load true 2 (.t 2), some (13, false)⟩,
  ⟨some 15, .call (F "l07.small") [.t 14, .k (.nl 0)] [], some (13, false)⟩,
  ⟨some 16, .not (.t 15), some (13, false)⟩,
  ⟨some 17, .pick (.t 13) (.k (.bool true)) (.t 16), none⟩,
  ⟨some 18, .mov (.t 17), none⟩,
  ⟨some 19, .load true 2 (.t 2), some (18, false)⟩,
  ⟨some 20, .call (F "r05.Valid") [.t 19] [], some (18, false)⟩,
  ⟨some 21, .bin .neq (.t 20) (.k (.int .i64 (0))), some (18, false)⟩,
  ⟨some 22, .pick (.t 18) (.k (.bool true)) (.t 21), none⟩]
def c_l07_SubgraphExtract_r2 (F : String → Nat) : List LI := [⟨some 23, .call (F "l07.awake") [] [], none⟩,
  ⟨some 4, .mov (.t 23), none⟩]
def c_l07_SubgraphExtract_r3 (F : String → Nat) : List LI := [⟨some 24, .load true 2 (.t 2), none⟩,
  ⟨some 25, .mov (.t 1), none⟩,
  ⟨some 26, .call (F "r07.Made") [.t 24, .t 25] [], none⟩,
  ⟨some 5, .alloc [.nl 1, .nl 1], none⟩,
  ⟨none, .store 2 (.t 5) (.t 26), none⟩]
def c_l07_SubgraphExtract_r4 (F : String → Nat) : List LI := [⟨some 28, .load true 2 (.t 2), none⟩,
  ⟨some 29, .load true 2 (.t 5), none⟩,
  ⟨some 30, .call (F "subgraph.Extract") [.t 28, .t 29] [], none⟩,
  ⟨some 27, .mov (.t 30), none⟩,
  ⟨some 31, .ext (.t 27) 0, none⟩,
  ⟨some 32, .ext (.t 27) 1, none⟩,
  ⟨some 33, .ext (.t 27) 2, none⟩,
  ⟨some 6, .alloc [.nl 1, .nl 3], none⟩,
  ⟨some 7, .alloc [.nl 1, .nl 1], none⟩,
  ⟨none, .store 2 (.t 6) (.t 31), none⟩,
  ⟨none, .store 2 (.t 7) (.t 32), none⟩,
  ⟨some 8, .mov (.t 33), none⟩]
def c_l07_SubgraphExtract_r5 (F : String → Nat) : List LI := [⟨some 35, .load true 2 (.t 6), none⟩,
  ⟨some 36, .load true 2 (.t 2), none⟩,
  ⟨some 37, .load true 2 (.t 7), none⟩,
  ⟨some 38, .call (F "subgraph.Image") [.t 35, .t 36, .t 37] [], none⟩,
  ⟨some 34, .mov (.t 38), none⟩,
  ⟨some 39, .ext (.t 34) 0, none⟩,
  ⟨some 40, .ext (.t 34) 1, none⟩,
  ⟨some 9, .alloc [.nl 1, .nl 1], none⟩,
  ⟨none, .store 2 (.t 9) (.t 39), none⟩,
  ⟨some 10, .mov (.t 40), none⟩]
def c_l07_SubgraphExtract_r6 (F : String → Nat) : List LI := [⟨some 41, .mov (.t 8), none⟩,
  ⟨some 42, .bin .eql (.t 41) (.k (.int .i64 (0))), none⟩,
  ⟨some 43, .mov (.t 42), none⟩,
  ⟨some 44, .mov (.t 10), some (43, true)⟩,
  ⟨some 45, .bin .eql (.t 44) (.k (.int .i64 (0))), some (43, true)⟩,
  ⟨some 46, .pick (.t 43) (.t 45) (.k (.bool false)), none⟩,
  ⟨some 47, .mov (.t 46), none⟩,
  ⟨some 48, .load true 2 (.t 5), some (47, true)⟩,
  ⟨some 49, .load true 2 (.t 9), some (47, true)⟩,
  ⟨some 50, .call (F "r07.Same") [.t 48, .t 49] [], some (47, true)⟩,
  ⟨some 51, .pick (.t 47) (.t 50) (.k (.bool false)), none⟩,
  ⟨some 52, .mov (.t 51), none⟩,
  ⟨some 53, .fad 0 (.t 6), some (52, true)⟩,
  ⟨some 54, .load false 1 (.t 53), some (52, true)⟩,
  ⟨some 55, .len (.t 54), some (52, true)⟩,
  ⟨some 56, .fad 0 (.t 5), some (52, true)⟩,
  ⟨some 57, .load false 1 (.t 56), some (52, true)⟩,
  ⟨some 58, .len (.t 57), some (52, true)⟩,
  ⟨some 59, .bin .eql (.t 55) (.t 58), some (52, true)⟩,
  ⟨some 60, .pick (.t 52) (.t 59) (.k (.bool false)), none⟩,
  ⟨some 61, .mov (.t 60), none⟩,
  ⟨some 62, .fad 1 (.t 6), some (61, true)⟩,
  ⟨some 63, .load false 1 (.t 62), some (61, true)⟩,
  ⟨some 64, .len (.t 63), some (61, true)⟩,
  ⟨some 65, .fad 1 (.t 5), some (61, true)⟩,
  ⟨some 66, .load false 1 (.t 65), some (61, true)⟩,
  ⟨some 67, .len (.t 66), some (61, true)⟩,
  ⟨some 68, .bin .eql (.t 64) (.t 67), some (61, true)⟩,
  ⟨some 69, .pick (.t 61) (.t 68) (.k (.bool false)), none⟩,
  ⟨some 70, .mov (.t 69), none⟩,
  ⟨some 71, .load true 2 (.t 6), some (70, true)⟩,
  ⟨some 72, .load true 2 (.t 2), some (70, true)⟩,
  ⟨some 73, .load true 2 (.t 7), some (70, true)⟩,
  ⟨some 74, .call (F "r06.Injective") [.t 71, .t 72, .t 73] [], some (70, true)⟩,
  ⟨some 75, .pick (.t 70) (.t 74) (.k (.bool false)), none⟩,
  ⟨some 4, .mov (.t 75), none⟩]
def c_l07_SubgraphExtract (F : String → Nat) : LC := (.seq (.reg (c_l07_SubgraphExtract_r0 F) [1, 2]) (.seq (.seq (.reg (c_l07_SubgraphExtract_r1 F) [1, 2, 22]) (.cond (.t 22) (.seq (.reg (c_l07_SubgraphExtract_r2 F) [4]) .ret) .skip)) (.seq (.reg (c_l07_SubgraphExtract_r3 F) [2, 5]) (.seq (.reg (c_l07_SubgraphExtract_r4 F) [2, 5, 6, 7, 8]) (.seq (.reg (c_l07_SubgraphExtract_r5 F) [2, 5, 6, 7, 8, 9, 10]) (.seq (.reg (c_l07_SubgraphExtract_r6 F) [4]) .ret))))))
def h_l07_SubgraphExtract : Hints := ⟨[], fun _ => [], tab [(0, [1, 2]), (1, [1, 2, 22]), (2, [4]), (3, [2, 5]), (4, [2, 5, 6, 7, 8]), (5, [2, 5, 6, 7, 8, 9, 10]), (6, [4])], tab []⟩

attribute [go_sem] c_slices_IndexFunc_apiPart_r0 c_slices_IndexFunc_apiPart_r1 c_slices_IndexFunc_apiPart_r2 c_slices_IndexFunc_apiPart_r3 c_slices_IndexFunc_apiPart_r4 c_slices_IndexFunc_apiPart_r5 c_slices_IndexFunc_apiPart_r6 c_slices_IndexFunc_apiPart_r8 c_slices_IndexFunc_apiPart c_slices_ContainsFunc_apiPart_r0 c_slices_ContainsFunc_apiPart_r1 c_slices_ContainsFunc_apiPart c_l07_small_r0 c_l07_small_r1 c_l07_small c_l07_small_1_r0 c_l07_small_1_r1 c_l07_small_1 c_l07_SubgraphExtract_r0 c_l07_SubgraphExtract_r1 c_l07_SubgraphExtract_r2 c_l07_SubgraphExtract_r3 c_l07_SubgraphExtract_r4 c_l07_SubgraphExtract_r5 c_l07_SubgraphExtract_r6 c_l07_SubgraphExtract
def smallL (g : G) (l : List Mo) : Bool := few g && l.all fun m => fewM m 150
section
variable (P : Program) (F : String → Nat)
def K_slices_IndexFunc_apiPart : Prop := ∀ (l : List Mo), l.length ≤ maxL → ∀ (g : Nat) (cs : List D), cs.all okC2 = true → ∀ p : Mo → Bool, (∀ x, x ∈ l → FC P g (mD x :: cs) (.bool (p x)) []) → FC P (F "slices.IndexFunc.apiPart") [.lst 2 (pts l), .clo g cs] (.int .i64 (idx p l 0)) []
def K_slices_ContainsFunc_apiPart : Prop := ∀ (l : List Mo), l.length ≤ maxL → ∀ (g : Nat) (cs : List D), cs.all okC2 = true → ∀ p : Mo → Bool, (∀ x, x ∈ l → FC P g (mD x :: cs) (.bool (p x)) []) → FC P (F "slices.ContainsFunc.apiPart") [.lst 2 (pts l), .clo g cs] (.bool (l.any p)) []
def K_l07_small_1 : Prop := ∀ m : Mo, m.sm → FC P (F "l07.small.1") [mD m] (.bool (!fewM m 150)) []
def K_l07_small : Prop := ∀ (g : G) (l : List Mo), l.length ≤ 1000 → (∀ m ∈ l, m.sm) → FC P (F "l07.small") [gD g, .lst 2 (pts l)] (.bool (smallL g l)) []
def K_l07_SubgraphExtract : Prop := ∀ (g : G) (s : Int), FC P (F "l07.SubgraphExtract") [gD g, .int .u64 s] (.bool true) []
end
section
variable {P : Program} {F : String → Nat} {α : Type}
theorem w_slices_IndexFunc_apiPart (l : List Mo) (hl : l.length ≤ maxL) (g : Nat) (cs : List D) (hcs : cs.all okC2 = true) (p : Mo → Bool) (hg : ∀ x, x ∈ l → FC P g (mD x :: cs) (.bool (p x)) []) : W P (c_slices_IndexFunc_apiPart F) (Done [.t 4] [] (.int .i64 (idx p l 0)) []) (init [.lst 2 (pts l), .clo g cs]) := by
  refine W_of ?_
  unfold maxL at hl
  have e1 := caps_lend2 hcs
  have e2 := caps_ren hcs
  have pl := pts_length l
  simp (config := { maxSteps := 1000000 }) (disch := first | omega | (simp only [go_sem]; omega)) only [go_sem, ↓reduceIte, pl]
  refine W_loop (fun i : Nat => ⟨[(0, .lst 2 (pts l)), (1, .clo g cs), (7, .int .i64 l.length), (8, .int .i64 i)], [], 0⟩) (fun i => i ≤ l.length ∧ idx p l 0 = idx p (l.drop i) i) (fun i => l.length - i) 0 ?_ ?_ ?_
  · simp (config := { maxSteps := 1000000 }) (disch := first | omega | (simp only [go_sem]; omega)) only [go_sem, ↓reduceIte, e2, pl]
    rfl
  · simp
  · intro i hi
    by_cases h : i < l.length
    · have d1 : decide ((i : Int) < l.length) = true := decide_eq_true (by omega)
      have hd := idx_drop p l i (by omega)
      have r := hg _ (gt_mem (l := l) (j := (i : Int)) (by omega) (by omega))
      simp only [mD] at r
      simp (config := { maxSteps := 1000000 }) (disch := first | omega | (simp only [go_sem]; omega)) only [go_sem, ↓reduceIte, c_slices_IndexFunc_apiPart_b7, d1, e1, pl]
      refine call_by r ?_
      simp (config := { maxSteps := 1000000 }) (disch := first | omega | (simp only [go_sem]; omega)) only [go_sem, ↓reduceIte]
      refine bran_by (fun h2 => ?_) (fun h2 => ?_)
      · simp (config := { maxSteps := 1000000 }) (disch := first | omega | (simp only [go_sem]; omega)) only [go_sem, ↓reduceIte]
        rw [hi.2, hd, if_pos h2]
      · simp (config := { maxSteps := 1000000 }) (disch := first | omega | (simp only [go_sem]; omega)) only [go_sem, ↓reduceIte, e2]
        exact ⟨i + 1, by simp, ⟨by omega, by rw [hi.2, hd, if_neg (by simp [h2])]⟩, by omega⟩
    · have d1 : decide ((i : Int) < l.length) = false := decide_eq_false (by omega)
      simp (config := { maxSteps := 1000000 }) (disch := first | omega | (simp only [go_sem]; omega)) only [go_sem, ↓reduceIte, c_slices_IndexFunc_apiPart_b7, d1]
      rw [hi.2, List.drop_of_length_le (by omega)]
      rfl
theorem w_slices_ContainsFunc_apiPart (hi : K_slices_IndexFunc_apiPart P F) (l : List Mo) (hl : l.length ≤ maxL) (g : Nat) (cs : List D) (hcs : cs.all okC2 = true) (p : Mo → Bool) (hg : ∀ x, x ∈ l → FC P g (mD x :: cs) (.bool (p x)) []) : W P (c_slices_ContainsFunc_apiPart F) (Done [.t 4] [] (.bool (l.any p)) []) (init [.lst 2 (pts l), .clo g cs]) := by
  refine W_of ?_
  have r := hi l hl g cs hcs p hg
  have hge := idx_ge p l 0 (by omega)
  have e0 := caps_lend hcs
  generalize idx p l 0 = ix at *
  simp (config := { maxSteps := 1000000 }) (disch := first | omega | (simp only [go_sem]; omega)) only [go_sem, ↓reduceIte, e0]
  refine call_by r ?_
  simp (config := { maxSteps := 1000000 }) (disch := first | omega | (simp only [go_sem]; omega)) only [go_sem, ↓reduceIte]
  try rw [hge]
theorem w_l07_small_1 (hf : K_r07_Few P F) (m : Mo) (h : m.sm) : W P (c_l07_small_1 F) (Done [.t 2] [] (.bool (!fewM m 150)) []) (init [mD m]) := by
  refine W_of ?_
  have r1 := hf m 150 h.1 h.2
  generalize fewM m 150 = b at *
  simp only [mD] at *
  simp (config := { maxSteps := 1000000 }) (disch := first | omega | (simp only [go_sem]; omega)) only [go_sem, ↓reduceIte]
  refine call_by r1 ?_
  simp (config := { maxSteps := 1000000 }) (disch := first | omega | (simp only [go_sem]; omega)) only [go_sem, ↓reduceIte]
theorem w_l07_small (hg : K_r05_Few P F) (hc : K_slices_ContainsFunc_apiPart P F) (h1 : K_l07_small_1 P F) (g : G) (l : List Mo) (hl : l.length ≤ 1000) (hm : ∀ m ∈ l, m.sm) : W P (c_l07_small F) (Done [.t 4] [] (.bool (smallL g l)) []) (init [gD g, .lst 2 (pts l)]) := by
  refine W_of ?_
  have r1 := hg g
  have r2 := hc l (by unfold maxL; omega) (F "l07.small.1") [] rfl _ (fun x hx => h1 x (hm x hx))
  have e : smallL g l = (few g && !l.any fun m => !fewM m 150) := by
    unfold smallL
    rw [List.all_eq_not_any_not]
  rw [e]
  generalize few g = b1 at *
  generalize (l.any fun m => !fewM m 150) = b2 at *
  simp only [gD] at *
  cases b1
  · simp (config := { maxSteps := 1000000 }) (disch := first | omega | (simp only [go_sem]; omega)) only [go_sem, ↓reduceIte]
    refine call_by r1 ?_
    simp (config := { maxSteps := 1000000 }) (disch := first | omega | (simp only [go_sem]; omega)) only [go_sem, ↓reduceIte]
    try simp
  · simp (config := { maxSteps := 1000000 }) (disch := first | omega | (simp only [go_sem]; omega)) only [go_sem, ↓reduceIte]
    refine call_by r1 ?_
    simp (config := { maxSteps := 1000000 }) (disch := first | omega | (simp only [go_sem]; omega)) only [go_sem, ↓reduceIte]
    refine call_by r2 ?_
    simp (config := { maxSteps := 1000000 }) (disch := first | omega | (simp only [go_sem]; omega)) only [go_sem, ↓reduceIte]
    try simp
set_option maxHeartbeats 2000000 in
theorem w_l07_SubgraphExtract (hw : K_l07_awake P F) (hf : K_l07_small P F) (hv : K_r05_Valid P F) (hm : K_r07_Made P F) (he : K_subgraph_Extract P F) (h1 : K_subgraph_Image P F) (hs : K_r07_Same P F) (hj : K_r06_Injective P F)
    (g : G) (s : Int) : W P (c_l07_SubgraphExtract F) (Done [.t 4] [] (.bool true) []) (init [gD g, .int .u64 s]) := by
  refine W_of ?_
  have r1 := FC.nils (a := [gD g, .nl 0]) (hf g [] (by simp) (by simp)) (by simp [NilW, pts])
  have e1 : smallL g [] = few g := by simp [smallL]
  rw [e1] at r1
  cases c : few g
  · rw [c] at r1
    simp only [gD] at *
    simp (config := { maxSteps := 1000000 }) (disch := first | omega | (simp only [go_sem]; omega)) only [go_sem, ↓reduceIte]
    refine call_by hw ?_
    simp (config := { maxSteps := 1000000 }) (disch := first | omega | (simp only [go_sem]; omega)) only [go_sem, ↓reduceIte]
    refine call_by r1 ?_
    simp (config := { maxSteps := 1000000 }) (disch := first | omega | (simp only [go_sem]; omega)) only [go_sem, ↓reduceIte]
    refine call_by hw ?_
    simp (config := { maxSteps := 1000000 }) (disch := first | omega | (simp only [go_sem]; omega)) only [go_sem, ↓reduceIte]
  rw [c] at r1
  have r2 := hv g
  by_cases d : validG g = 0
  case neg =>
    generalize validG g = v at *
    simp only [gD] at *
    simp (config := { maxSteps := 1000000 }) (disch := first | omega | (simp only [go_sem]; omega)) only [go_sem, ↓reduceIte]
    refine call_by hw ?_
    simp (config := { maxSteps := 1000000 }) (disch := first | omega | (simp only [go_sem]; omega)) only [go_sem, ↓reduceIte]
    refine call_by r1 ?_
    simp (config := { maxSteps := 1000000 }) (disch := first | omega | (simp only [go_sem]; omega)) only [go_sem, ↓reduceIte]
    refine call_by r2 ?_
    simp (config := { maxSteps := 1000000 }) (disch := first | omega | (simp only [go_sem]; omega)) only [go_sem, ↓reduceIte, d]
    refine call_by hw ?_
    simp (config := { maxSteps := 1000000 }) (disch := first | omega | (simp only [go_sem]; omega)) only [go_sem, ↓reduceIte]
  have ka := partP_ok (s := s) d
  have r3 := hm g s d
  generalize partP g s = p at *
  have r5 := he g p ka.sm
  have hE : exR g p = (ptG g p, p, 0) := by unfold exR; rw [if_neg (by simp [validP_ok.2 ka])]
  rw [hE] at r5
  obtain ⟨q1, q2, q3, q4, q5⟩ := incl_facts ka
  have r6 := h1 (ptG g p) g p
  have hI : imR (ptG g p) g p = (p, 0) := by
    unfold imR
    rw [if_neg (by simp [q1]), q3]
  rw [hI] at r6
  have r7 := hs p p ka.sm.1 ka.sm.2
  rw [decide_eq_true rfl] at r7
  have r8 := hj (ptG g p) g p ka.sm.1 ka.sm.2
  rw [q2] at r8
  rw [d] at r2
  clear hE hI q1 q2 q3 ka d c e1
  generalize ptG g p = sub at *
  obtain ⟨sn, se⟩ := sub
  obtain ⟨pn, pe⟩ := p
  simp only at q4 q5
  simp only [gD, gA, mD, mA] at *
  simp (config := { maxSteps := 1000000 }) (disch := first | omega | (simp only [go_sem]; omega)) only [go_sem, ↓reduceIte]
  refine call_by hw ?_
  simp (config := { maxSteps := 1000000 }) (disch := first | omega | (simp only [go_sem]; omega)) only [go_sem, ↓reduceIte]
  refine call_by r1 ?_
  simp (config := { maxSteps := 1000000 }) (disch := first | omega | (simp only [go_sem]; omega)) only [go_sem, ↓reduceIte]
  refine call_by r2 ?_
  simp (config := { maxSteps := 1000000 }) (disch := first | omega | (simp only [go_sem]; omega)) only [go_sem, ↓reduceIte]
  refine call_by r3 ?_
  simp (config := { maxSteps := 1000000 }) (disch := first | omega | (simp only [go_sem]; omega)) only [go_sem, ↓reduceIte]
  refine call_by r5 ?_
  simp (config := { maxSteps := 1000000 }) (disch := first | omega | (simp only [go_sem]; omega)) only [go_sem, ↓reduceIte]
  refine call_by r6 ?_
  simp (config := { maxSteps := 1000000 }) (disch := first | omega | (simp only [go_sem]; omega)) only [go_sem, ↓reduceIte]
  refine call_by r7 ?_
  simp (config := { maxSteps := 1000000 }) (disch := first | omega | (simp only [go_sem]; omega)) only [go_sem, ↓reduceIte, q4, q5, decide_true]
  refine call_by r8 ?_
  simp (config := { maxSteps := 1000000 }) (disch := first | omega | (simp only [go_sem]; omega)) only [go_sem, ↓reduceIte]
  try simp
theorem x_l07_SubgraphExtract (h : K_l07_SubgraphExtract P F) (args : List D) (ha : HasEls [shG, shU64] args) : FC P (F "l07.SubgraphExtract") args (.bool true) [] := by
  simp only [HasEls] at ha
  obtain ⟨_, _, rfl, h1, _, _, rfl, h2, rfl⟩ := ha
  obtain ⟨g, rfl⟩ := rd_graph h1
  obtain ⟨s, rfl⟩ := rd_u64 h2
  exact h g s
end
end Go.Am
