/- Chapter 07: helpers of the laws; the laws Valid, Close, Join, Image, Adjoint, Extract, Boundary. -/
import Derived.Test.YtbpjoianghehmaaSpPa
import Derived.Test.YtbpjoianghehmaaSpPb
import Derived.Test.YtbpjoianghehmaaSpPc
import Derived.Test.YtbpjoianghehmaaSpXa
namespace Go.Am
open Go
set_option linter.unusedVariables false
set_option linter.unusedSimpArgs false
attribute [local irreducible] W
/- slices.IndexFunc.apiPart -/
def c_slices_IndexFunc_apiPart_r0 (F : String → Nat) : List LI := [⟨some 4, .mov (.k (.int .i64 (0))), none⟩]
def c_slices_IndexFunc_apiPart_r1 (F : String → Nat) : List LI := [⟨some 6, .mov (.t 0), none⟩,
  ⟨some 7, .len (.t 6), none⟩,
  ⟨some 8, .mov (.k (.int .i64 (0))), none⟩]
def c_slices_IndexFunc_apiPart_r2 (F : String → Nat) : List LI := [⟨some 9, .bin .lss (.t 8) (.t 7), none⟩]
def c_slices_IndexFunc_apiPart_r3 (F : String → Nat) : List LI := [⟨some 10, .mov (.t 8), none⟩,
  ⟨some 5, .mov (.t 10), none⟩]
def c_slices_IndexFunc_apiPart_r4 (F : String → Nat) : List LI := [⟨some 11, .mov (.t 1), none⟩,
  ⟨some 12, .mov (.t 0), none⟩,
  ⟨some 13, .mov (.t 5), none⟩,
  ⟨some 14, .iad 2 (.t 12) (.t 13), none⟩,
  ⟨some 15, .load true 2 (.t 14), none⟩,
  ⟨some 16, .callv (.t 11) [.t 15], none⟩]
def c_slices_IndexFunc_apiPart_r5 (F : String → Nat) : List LI := [⟨some 17, .mov (.t 5), none⟩,
  ⟨some 4, .mov (.t 17), none⟩]
def c_slices_IndexFunc_apiPart_r6 (F : String → Nat) : List LI := [⟨some 18, .bin .add (.t 8) (.k (.int .i64 (1))), none⟩,
  ⟨some 8, .mov (.t 18), none⟩]
def c_slices_IndexFunc_apiPart_b7 (F : String → Nat) : LC := (.seq (.reg (c_slices_IndexFunc_apiPart_r2 F) [0, 1, 7, 8, 9]) (.seq (.cond (.t 9) .skip (.exit 0)) (.seq (.block 1 (.seq (.reg (c_slices_IndexFunc_apiPart_r3 F) [0, 1, 5, 7, 8]) (.seq (.reg (c_slices_IndexFunc_apiPart_r4 F) [0, 1, 5, 7, 8, 16]) (.cond (.t 16) (.seq (.reg (c_slices_IndexFunc_apiPart_r5 F) [4]) .ret) .skip)))) (.reg (c_slices_IndexFunc_apiPart_r6 F) [0, 1, 7, 8]))))
def c_slices_IndexFunc_apiPart_r8 (F : String → Nat) : List LI := [⟨some 4, .mov (.k (.int .i64 (-1))), none⟩]
def c_slices_IndexFunc_apiPart (F : String → Nat) : LC := (.seq (.reg (c_slices_IndexFunc_apiPart_r0 F) [0, 1]) (.seq (.seq (.reg (c_slices_IndexFunc_apiPart_r1 F) [0, 1, 7, 8]) (.block 0 (.loop [0, 1, 7, 8] (c_slices_IndexFunc_apiPart_b7 F)))) (.seq (.reg (c_slices_IndexFunc_apiPart_r8 F) [4]) .ret)))
def h_slices_IndexFunc_apiPart : Hints := ⟨[], fun _ => [], tab [(0, [0, 1]), (1, [0, 1, 7, 8]), (2, [0, 1, 7, 8, 9]), (3, [0, 1, 5, 7, 8]), (4, [0, 1, 5, 7, 8, 16]), (5, [4]), (6, [0, 1, 7, 8]), (7, [4])], tab [(2, [0, 1, 7, 8])]⟩

/- slices.ContainsFunc.apiPart -/
def c_slices_ContainsFunc_apiPart_r0 (F : String → Nat) : List LI := [⟨some 4, .mov (.k (.bool false)), none⟩]
def c_slices_ContainsFunc_apiPart_r1 (F : String → Nat) : List LI := [⟨some 5, .mov (.t 0), none⟩,
  ⟨some 6, .mov (.t 1), none⟩,
  ⟨some 7, .call (F "slices.IndexFunc.apiPart") [.t 5, .t 6] [], none⟩,
  ⟨some 8, .bin .geq (.t 7) (.k (.int .i64 (0))), none⟩,
  ⟨some 4, .mov (.t 8), none⟩]
def c_slices_ContainsFunc_apiPart (F : String → Nat) : LC := (.seq (.reg (c_slices_ContainsFunc_apiPart_r0 F) [0, 1]) (.seq (.reg (c_slices_ContainsFunc_apiPart_r1 F) [4]) .ret))
def h_slices_ContainsFunc_apiPart : Hints := ⟨[], fun _ => [], tab [(0, [0, 1]), (1, [4])], tab []⟩

/- l07.own -/
def c_l07_own_r0 (F : String → Nat) : List LI := [⟨some 1, .bx (.t 0), none⟩,
  ⟨some 2, .alloc [.nl 1, .nl 1], none⟩]
def c_l07_own_r1 (F : String → Nat) : List LI := [⟨some 3, .fad 0 (.t 1), none⟩,
  ⟨some 4, .load false 1 (.t 3), none⟩,
  ⟨some 5, .call (F "slices.Clone.I") [.t 4] [], none⟩,
  ⟨some 6, .fad 1 (.t 1), none⟩,
  ⟨some 7, .load false 1 (.t 6), none⟩,
  ⟨some 8, .call (F "slices.Clone.I") [.t 7] [], none⟩,
  ⟨some 9, .build [.nl 1, .nl 1] [(0, 1, .t 5), (1, 1, .t 8)], none⟩,
  ⟨none, .store 2 (.t 2) (.t 9), none⟩]
def c_l07_own (F : String → Nat) : LC := (.seq (.reg (c_l07_own_r0 F) [1, 2]) (.seq (.dreg [(2, none, [], true), (4, (some 8), [2], false)] (c_l07_own_r1 F) [2]) .ret))
def h_l07_own : Hints := ⟨[], fun _ => [], tab [(0, [1, 2]), (1, [2])], tab []⟩

/- l07.small -/
def c_l07_small_r0 (F : String → Nat) : List LI := [⟨some 2, .bx (.t 0), none⟩,
  ⟨some 4, .mov (.k (.bool false)), none⟩]
def c_l07_small_r1 (F : String → Nat) : List LI := [⟨some 5, .load true 2 (.t 2), none⟩,
  ⟨some 6, .call (F "r05.Few") [.t 5] [], none⟩,
  ⟨some 7, .mov (.t 6), none⟩,
  ⟨some 8, .mov (.t 1), some (7, true)⟩,
  ⟨some 9, .call (F "slices.ContainsFunc.apiPart") [.t 8, .k (.clo (F "l07.small.1") [])] [], some (7, true)⟩,
  ⟨some 10, .not (.t 9), some (7, true)⟩,
  ⟨some 11, .pick (.t 7) (.t 10) (.k (.bool false)), none⟩,
  ⟨some 4, .mov (.t 11), none⟩]
def c_l07_small (F : String → Nat) : LC := (.seq (.reg (c_l07_small_r0 F) [1, 2]) (.seq (.reg (c_l07_small_r1 F) [4]) .ret))
def h_l07_small : Hints := ⟨[], fun _ => [], tab [(0, [1, 2]), (1, [4])], tab []⟩

/- l07.small.1 -/
def c_l07_small_1_r0 (F : String → Nat) : List LI := [⟨some 1, .bx (.t 0), none⟩,
  ⟨some 2, .mov (.k (.bool false)), none⟩]
def c_l07_small_1_r1 (F : String → Nat) : List LI := [⟨some 3, .load true 2 (.t 1), none⟩,
  ⟨some 4, .call (F "r07.Few") [.t 3, .k (.int .i64 (150))] [], none⟩,
  ⟨some 5, .not (.t 4), none⟩,
  ⟨some 2, .mov (.t 5), none⟩]
def c_l07_small_1 (F : String → Nat) : LC := (.seq (.reg (c_l07_small_1_r0 F) [1]) (.seq (.reg (c_l07_small_1_r1 F) [2]) .ret))
def h_l07_small_1 : Hints := ⟨[], fun _ => [], tab [(0, [1]), (1, [2])], tab []⟩

/- l07.SubgraphValid -/
def c_l07_SubgraphValid_r0 (F : String → Nat) : List LI := [⟨some 2, .bx (.t 0), none⟩,
  ⟨some 3, .bx (.t 1), none⟩,
  ⟨some 4, .mov (.k (.bool false)), none⟩]
def c_l07_SubgraphValid_r1 (F : String → Nat) : List LI := [⟨some 15, .call (F "l07.awake") [] [], none⟩,
  ⟨some 16, .not (.t 15), none⟩,
  ⟨some 17, .mov (.t 16), none⟩,
  ⟨some 18, .load true 2 (.t 2), some (17, false)⟩,
  ⟨some 19, .load true 2 (.t 3), some (17, false)⟩,
  ⟨some 20, .buildSl 2 48 (.agg [.lst 1 [], .lst 1 []]) 1 [(0, .t 19)], some (17, false)⟩,
  ⟨some 21, .call (F "l07.small") [.t 18, .t 20] [], some (17, false)⟩,
  ⟨some 22, .not (.t 21), some (17, false)⟩,
  ⟨some 23, .pick (.t 17) (.k (.bool true)) (.t 22), none⟩]
def c_l07_SubgraphValid_r2 (F : String → Nat) : List LI := [⟨some 24, .call (F "l07.awake") [] [], none⟩,
  ⟨some 4, .mov (.t 24), none⟩]
def c_l07_SubgraphValid_r3 (F : String → Nat) : List LI := [⟨some 26, .load true 2 (.t 2), none⟩,
  ⟨some 27, .call (F "r05.Copied") [.t 26] [], none⟩,
  ⟨some 28, .load true 2 (.t 3), none⟩,
  ⟨some 29, .call (F "l07.own") [.t 28] [], none⟩,
  ⟨some 30, .call (F "subgraph.Extract") [.t 27, .t 29] [], none⟩,
  ⟨some 25, .mov (.t 30), none⟩,
  ⟨some 31, .ext (.t 25) 0, none⟩,
  ⟨some 32, .ext (.t 25) 1, none⟩,
  ⟨some 33, .ext (.t 25) 2, none⟩,
  ⟨some 5, .alloc [.nl 1, .nl 3], none⟩,
  ⟨some 6, .alloc [.nl 1, .nl 1], none⟩,
  ⟨none, .store 2 (.t 5) (.t 31), none⟩,
  ⟨none, .store 2 (.t 6) (.t 32), none⟩,
  ⟨some 7, .mov (.t 33), none⟩]
def c_l07_SubgraphValid_r4 (F : String → Nat) : List LI := [⟨some 35, .load true 2 (.t 2), none⟩,
  ⟨some 36, .load true 2 (.t 3), none⟩,
  ⟨some 37, .call (F "r07.Extract") [.t 35, .t 36] [], none⟩,
  ⟨some 34, .mov (.t 37), none⟩,
  ⟨some 38, .ext (.t 34) 0, none⟩,
  ⟨some 39, .ext (.t 34) 1, none⟩,
  ⟨some 40, .ext (.t 34) 2, none⟩,
  ⟨some 8, .alloc [.nl 1, .nl 3], none⟩,
  ⟨some 9, .alloc [.nl 1, .nl 1], none⟩,
  ⟨none, .store 2 (.t 8) (.t 38), none⟩,
  ⟨none, .store 2 (.t 9) (.t 39), none⟩,
  ⟨some 10, .mov (.t 40), none⟩]
def c_l07_SubgraphValid_r5 (F : String → Nat) : List LI := [⟨some 42, .load true 2 (.t 2), none⟩,
  ⟨some 43, .call (F "r05.Copied") [.t 42] [], none⟩,
  ⟨some 44, .load true 2 (.t 3), none⟩,
  ⟨some 45, .call (F "l07.own") [.t 44] [], none⟩,
  ⟨some 46, .call (F "subgraph.Boundary") [.t 43, .t 45] [], none⟩,
  ⟨some 41, .mov (.t 46), none⟩,
  ⟨some 47, .ext (.t 41) 0, none⟩,
  ⟨some 48, .ext (.t 41) 1, none⟩,
  ⟨some 11, .mov (.t 47), none⟩,
  ⟨some 12, .mov (.t 48), none⟩]
def c_l07_SubgraphValid_r6 (F : String → Nat) : List LI := [⟨some 50, .load true 2 (.t 2), none⟩,
  ⟨some 51, .load true 2 (.t 3), none⟩,
  ⟨some 52, .call (F "r07.Boundary") [.t 50, .t 51] [], none⟩,
  ⟨some 49, .mov (.t 52), none⟩,
  ⟨some 53, .ext (.t 49) 0, none⟩,
  ⟨some 54, .ext (.t 49) 1, none⟩,
  ⟨some 13, .mov (.t 53), none⟩,
  ⟨some 14, .mov (.t 54), none⟩]
def c_l07_SubgraphValid_r7 (F : String → Nat) : List LI := [⟨some 55, .load true 2 (.t 2), none⟩,
  ⟨some 56, .load true 2 (.t 3), none⟩,
  ⟨some 57, .call (F "subgraph.Valid") [.t 55, .t 56] [], none⟩,
  ⟨some 58, .load true 2 (.t 2), none⟩,
  ⟨some 59, .load true 2 (.t 3), none⟩,
  ⟨some 60, .call (F "r07.Valid") [.t 58, .t 59] [], none⟩,
  ⟨some 61, .bin .eql (.t 57) (.t 60), none⟩,
  ⟨some 62, .mov (.t 61), none⟩,
  ⟨some 63, .load true 2 (.t 5), some (62, true)⟩,
  ⟨some 64, .load true 2 (.t 8), some (62, true)⟩,
  ⟨some 65, .call (F "r05.Same") [.t 63, .t 64] [], some (62, true)⟩,
  ⟨some 66, .pick (.t 62) (.t 65) (.k (.bool false)), none⟩,
  ⟨some 67, .mov (.t 66), none⟩,
  ⟨some 68, .load true 2 (.t 6), some (67, true)⟩,
  ⟨some 69, .load true 2 (.t 9), some (67, true)⟩,
  ⟨some 70, .call (F "r06.Same") [.t 68, .t 69] [], some (67, true)⟩,
  ⟨some 71, .pick (.t 67) (.t 70) (.k (.bool false)), none⟩,
  ⟨some 72, .mov (.t 71), none⟩,
  ⟨some 73, .mov (.t 7), some (72, true)⟩,
  ⟨some 74, .mov (.t 10), some (72, true)⟩,
  ⟨some 75, .bin .eql (.t 73) (.t 74), some (72, true)⟩,
  ⟨some 76, .pick (.t 72) (.t 75) (.k (.bool false)), none⟩,
  ⟨some 77, .mov (.t 76), none⟩,
  ⟨some 78, .mov (.t 11), some (77, true)⟩,
  ⟨some 79, .mov (.t 13), some (77, true)⟩,
  ⟨some 80, .call (F "slices.Equal.I") [.t 78, .t 79] [], some (77, true)⟩,
  ⟨some 81, .pick (.t 77) (.t 80) (.k (.bool false)), none⟩,
  ⟨some 82, .mov (.t 81), none⟩,
  ⟨some 83, .mov (.t 12), some (82, true)⟩,
  ⟨some 84, .mov (.t 14), some (82, true)⟩,
  ⟨some 85, .bin .eql (.t 83) (.t 84), some (82, true)⟩,
  ⟨some 86, .pick (.t 82) (.t 85) (.k (.bool false)), none⟩,
  ⟨some 4, .mov (.t 86), none⟩]
def c_l07_SubgraphValid (F : String → Nat) : LC := (.seq (.reg (c_l07_SubgraphValid_r0 F) [2, 3]) (.seq (.seq (.reg (c_l07_SubgraphValid_r1 F) [2, 3, 23]) (.cond (.t 23) (.seq (.reg (c_l07_SubgraphValid_r2 F) [4]) .ret) .skip)) (.seq (.dreg [(1, none, [], true), (2, (some 0), [1], false)] (c_l07_SubgraphValid_r3 F) [2, 3, 5, 6, 7]) (.seq (.reg (c_l07_SubgraphValid_r4 F) [2, 3, 5, 6, 7, 8, 9, 10]) (.seq (.dreg [(1, none, [], true), (2, (some 0), [1], false)] (c_l07_SubgraphValid_r5 F) [2, 3, 5, 6, 7, 8, 9, 10, 11, 12]) (.seq (.reg (c_l07_SubgraphValid_r6 F) [2, 3, 5, 6, 7, 8, 9, 10, 11, 12, 13, 14]) (.seq (.dreg [(2, none, [], true), (3, (some 0), [2], false), (4, (some 0), [2], false)] (c_l07_SubgraphValid_r7 F) [4]) .ret)))))))
def h_l07_SubgraphValid : Hints := ⟨[], fun _ => [], tab [(0, [2, 3]), (1, [2, 3, 23]), (2, [4]), (3, [2, 3, 5, 6, 7]), (4, [2, 3, 5, 6, 7, 8, 9, 10]), (5, [2, 3, 5, 6, 7, 8, 9, 10, 11, 12]), (6, [2, 3, 5, 6, 7, 8, 9, 10, 11, 12, 13, 14]), (7, [4])], tab []⟩

attribute [go_sem] c_slices_IndexFunc_apiPart_r0 c_slices_IndexFunc_apiPart_r1 c_slices_IndexFunc_apiPart_r2 c_slices_IndexFunc_apiPart_r3 c_slices_IndexFunc_apiPart_r4 c_slices_IndexFunc_apiPart_r5 c_slices_IndexFunc_apiPart_r6 c_slices_IndexFunc_apiPart_r8 c_slices_IndexFunc_apiPart c_slices_ContainsFunc_apiPart_r0 c_slices_ContainsFunc_apiPart_r1 c_slices_ContainsFunc_apiPart c_l07_own_r0 c_l07_own_r1 c_l07_own c_l07_small_r0 c_l07_small_r1 c_l07_small c_l07_small_1_r0 c_l07_small_1_r1 c_l07_small_1 c_l07_SubgraphValid_r0 c_l07_SubgraphValid_r1 c_l07_SubgraphValid_r2 c_l07_SubgraphValid_r3 c_l07_SubgraphValid_r4 c_l07_SubgraphValid_r5 c_l07_SubgraphValid_r6 c_l07_SubgraphValid_r7 c_l07_SubgraphValid
def smallL (g : G) (l : List Mo) : Bool := few g && l.all fun m => fewM m 150
section
variable (P : Program) (F : String → Nat)
def K_slices_IndexFunc_apiPart : Prop := ∀ (l : List Mo), l.length ≤ maxL → ∀ (g : Nat) (cs : List D), cs.all okC2 = true → ∀ p : Mo → Bool, (∀ x, x ∈ l → FC P g (mD x :: cs) (.bool (p x)) []) → FC P (F "slices.IndexFunc.apiPart") [.lst 2 (pts l), .clo g cs] (.int .i64 (idx p l 0)) []
def K_slices_ContainsFunc_apiPart : Prop := ∀ (l : List Mo), l.length ≤ maxL → ∀ (g : Nat) (cs : List D), cs.all okC2 = true → ∀ p : Mo → Bool, (∀ x, x ∈ l → FC P g (mD x :: cs) (.bool (p x)) []) → FC P (F "slices.ContainsFunc.apiPart") [.lst 2 (pts l), .clo g cs] (.bool (l.any p)) []
def K_l07_own : Prop := ∀ m : Mo, m.n.length ≤ 1000000 → m.e.length ≤ 1000000 → FC P (F "l07.own") [mD m] (mA m) []
def K_l07_small_1 : Prop := ∀ m : Mo, m.sm → FC P (F "l07.small.1") [mD m] (.bool (!fewM m 150)) []
def K_l07_small : Prop := ∀ (g : G) (l : List Mo), l.length ≤ 1000 → (∀ m ∈ l, m.sm) → FC P (F "l07.small") [gD g, .lst 2 (pts l)] (.bool (smallL g l)) []
def K_l07_SubgraphValid : Prop := ∀ (g : G) (p : Mo), p.sm → FC P (F "l07.SubgraphValid") [gD g, mD p] (.bool true) []
end
section
variable {P : Program} {F : String → Nat} {α : Type}
theorem w_slices_IndexFunc_apiPart (l : List Mo) (hl : l.length ≤ maxL) (g : Nat) (cs : List D) (hcs : cs.all okC2 = true) (p : Mo → Bool) (hg : ∀ x, x ∈ l → FC P g (mD x :: cs) (.bool (p x)) []) : W P (c_slices_IndexFunc_apiPart F) (Done [.t 4] [] (.int .i64 (idx p l 0)) []) (init [.lst 2 (pts l), .clo g cs]) := by
  refine W_of ?_
  unfold maxL at hl
  have e1 := caps_lend2 hcs
  have e2 := caps_ren hcs
  have pl := pts_length l
  simp (config := { maxSteps := 1000000 }) (disch := first | omega | (simp only [go_sem]; omega)) only [go_sem, ↓reduceIte, pl]
  refine W_loop (fun i : Nat => ⟨[(0, .lst 2 (pts l)), (1, .clo g cs), (7, .int .i64 l.length), (8, .int .i64 i)], [], 0⟩) (fun i => i ≤ l.length ∧ idx p l 0 = idx p (l.drop i) i) (fun i => l.length - i) 0 ?_ ?_ ?_
  · simp (config := { maxSteps := 1000000 }) (disch := first | omega | (simp only [go_sem]; omega)) only [go_sem, ↓reduceIte, e2, pl]
    rfl
  · simp
  · intro i hi
    by_cases h : i < l.length
    · have d1 : decide ((i : Int) < l.length) = true := decide_eq_true (by omega)
      have hd := idx_drop p l i (by omega)
      have r := hg _ (gt_mem (l := l) (j := (i : Int)) (by omega) (by omega))
      simp only [mD] at r
      simp (config := { maxSteps := 1000000 }) (disch := first | omega | (simp only [go_sem]; omega)) only [go_sem, ↓reduceIte, c_slices_IndexFunc_apiPart_b7, d1, e1, pl]
      refine call_by r ?_
      simp (config := { maxSteps := 1000000 }) (disch := first | omega | (simp only [go_sem]; omega)) only [go_sem, ↓reduceIte]
      refine bran_by (fun h2 => ?_) (fun h2 => ?_)
      · simp (config := { maxSteps := 1000000 }) (disch := first | omega | (simp only [go_sem]; omega)) only [go_sem, ↓reduceIte]
        rw [hi.2, hd, if_pos h2]
      · simp (config := { maxSteps := 1000000 }) (disch := first | omega | (simp only [go_sem]; omega)) only [go_sem, ↓reduceIte, e2]
        exact ⟨i + 1, by simp, ⟨by omega, by rw [hi.2, hd, if_neg (by simp [h2])]⟩, by omega⟩
    · have d1 : decide ((i : Int) < l.length) = false := decide_eq_false (by omega)
      simp (config := { maxSteps := 1000000 }) (disch := first | omega | (simp only [go_sem]; omega)) only [go_sem, ↓reduceIte, c_slices_IndexFunc_apiPart_b7, d1]
      rw [hi.2, List.drop_of_length_le (by omega)]
      rfl
theorem w_slices_ContainsFunc_apiPart (hi : K_slices_IndexFunc_apiPart P F) (l : List Mo) (hl : l.length ≤ maxL) (g : Nat) (cs : List D) (hcs : cs.all okC2 = true) (p : Mo → Bool) (hg : ∀ x, x ∈ l → FC P g (mD x :: cs) (.bool (p x)) []) : W P (c_slices_ContainsFunc_apiPart F) (Done [.t 4] [] (.bool (l.any p)) []) (init [.lst 2 (pts l), .clo g cs]) := by
  refine W_of ?_
  have r := hi l hl g cs hcs p hg
  have hge := idx_ge p l 0 (by omega)
  have e0 := caps_lend hcs
  generalize idx p l 0 = ix at *
  simp (config := { maxSteps := 1000000 }) (disch := first | omega | (simp only [go_sem]; omega)) only [go_sem, ↓reduceIte, e0]
  refine call_by r ?_
  simp (config := { maxSteps := 1000000 }) (disch := first | omega | (simp only [go_sem]; omega)) only [go_sem, ↓reduceIte]
  try rw [hge]
theorem w_l07_own (hc : K_slices_Clone_I P F) (m : Mo) (h1 : m.n.length ≤ 1000000) (h2 : m.e.length ≤ 1000000) : W P (c_l07_own F) (Done [.c 2 true 2] [] (mA m) []) (init [mD m]) := by
  refine W_of ?_
  have r1 := hc m.n (by omega)
  have r2 := hc m.e (by omega)
  simp only [mD, mA]
  simp (config := { maxSteps := 1000000 }) (disch := first | omega | (simp only [go_sem]; omega)) only [go_sem, ↓reduceIte]
  refine call_by r1 ?_
  simp (config := { maxSteps := 1000000 }) (disch := first | omega | (simp only [go_sem]; omega)) only [go_sem, ↓reduceIte]
  refine call_by r2 ?_
  simp (config := { maxSteps := 1000000 }) (disch := first | omega | (simp only [go_sem]; omega)) only [go_sem, ↓reduceIte]
  try rfl
theorem w_l07_small_1 (hf : K_r07_Few P F) (m : Mo) (h : m.sm) : W P (c_l07_small_1 F) (Done [.t 2] [] (.bool (!fewM m 150)) []) (init [mD m]) := by
  refine W_of ?_
  have r1 := hf m 150 h.1 h.2
  generalize fewM m 150 = b at *
  simp only [mD] at *
  simp (config := { maxSteps := 1000000 }) (disch := first | omega | (simp only [go_sem]; omega)) only [go_sem, ↓reduceIte]
  refine call_by r1 ?_
  simp (config := { maxSteps := 1000000 }) (disch := first | omega | (simp only [go_sem]; omega)) only [go_sem, ↓reduceIte]
theorem w_l07_small (hg : K_r05_Few P F) (hc : K_slices_ContainsFunc_apiPart P F) (h1 : K_l07_small_1 P F) (g : G) (l : List Mo) (hl : l.length ≤ 1000) (hm : ∀ m ∈ l, m.sm) : W P (c_l07_small F) (Done [.t 4] [] (.bool (smallL g l)) []) (init [gD g, .lst 2 (pts l)]) := by
  refine W_of ?_
  have r1 := hg g
  have r2 := hc l (by unfold maxL; omega) (F "l07.small.1") [] rfl _ (fun x hx => h1 x (hm x hx))
  have e : smallL g l = (few g && !l.any fun m => !fewM m 150) := by
    unfold smallL
    rw [List.all_eq_not_any_not]
  rw [e]
  generalize few g = b1 at *
  generalize (l.any fun m => !fewM m 150) = b2 at *
  simp only [gD] at *
  cases b1
  · simp (config := { maxSteps := 1000000 }) (disch := first | omega | (simp only [go_sem]; omega)) only [go_sem, ↓reduceIte]
    refine call_by r1 ?_
    simp (config := { maxSteps := 1000000 }) (disch := first | omega | (simp only [go_sem]; omega)) only [go_sem, ↓reduceIte]
    try simp
  · simp (config := { maxSteps := 1000000 }) (disch := first | omega | (simp only [go_sem]; omega)) only [go_sem, ↓reduceIte]
    refine call_by r1 ?_
    simp (config := { maxSteps := 1000000 }) (disch := first | omega | (simp only [go_sem]; omega)) only [go_sem, ↓reduceIte]
    refine call_by r2 ?_
    simp (config := { maxSteps := 1000000 }) (disch := first | omega | (simp only [go_sem]; omega)) only [go_sem, ↓reduceIte]
    try simp
theorem few_len {g : G} (h : few g = true) : g.n.length ≤ 45 ∧ g.e.length ≤ 90 := by
  simp only [few, Bool.and_eq_true, decide_eq_true_eq] at h
  exact h
theorem fewM_len {m : Mo} {n : Int} (h : fewM m n = true) : (m.n.length : Int) + m.e.length ≤ n := by
  simpa only [fewM, decide_eq_true_eq] using h
theorem exR_len (g : G) (p : Mo) : (exR g p).1.n.length ≤ 1000 ∧ (exR g p).1.e.length ≤ 1000 ∧ (exR g p).2.1.n.length ≤ 1000 ∧ (exR g p).2.1.e.length ≤ 1000 := by
  unfold exR
  split
  · simp [g0, m0]
  · rename_i h
    have := (validP_ok.1 (Decidable.not_not.1 h)).len
    have e1 : (ptG g p).n.length = p.n.length := thr_len _ _
    have e2 : (ptG g p).e.length = p.e.length := exL_len _ _ _
    simp only
    omega
theorem bdR_len (g : G) (p : Mo) : (bdR g p).1.length ≤ 1000 := by
  unfold bdR
  split
  · simp
  · rename_i h
    have hk := validP_ok.1 (Decidable.not_not.1 h)
    have := valid_spec hk.v
    have h1 := outE_len g p.e g.e.length
    have h2 := imgs_len (outE g p.e g.e.length)
    have h3 : (comL (imgs (outE g p.e g.e.length)) p.n).length ≤ (imgs (outE g p.e g.e.length)).length := List.length_filter_le _ _
    simp only [bdL]
    omega
set_option maxHeartbeats 2000000 in
theorem w_l07_SubgraphValid (hw : K_l07_awake P F) (hf : K_l07_small P F) (hcp : K_r05_Copied P F) (ho : K_l07_own P F) (he : K_subgraph_Extract P F) (he2 : K_r07_Extract P F) (hb : K_subgraph_Boundary P F) (hb2 : K_r07_Boundary P F) (hv : K_subgraph_Valid P F) (hv2 : K_r07_Valid P F) (hsg : K_r05_Same P F) (hsm : K_r06_Same P F) (hq : K_slices_Equal_I P F)
    (g : G) (p : Mo) (h : p.sm) : W P (c_l07_SubgraphValid F) (Done [.t 4] [] (.bool true) []) (init [gD g, mD p]) := by
  refine W_of ?_
  have r1 := hf g [p] (by simp) (by simpa using h)
  simp only [pts, List.map_cons, List.map_nil] at r1
  cases c : smallL g [p]
  · rw [c] at r1
    simp only [gD, mD] at *
    simp (config := { maxSteps := 1000000 }) (disch := first | omega | (simp only [go_sem]; omega)) only [go_sem, ↓reduceIte]
    refine call_by hw ?_
    simp (config := { maxSteps := 1000000 }) (disch := first | omega | (simp only [go_sem]; omega)) only [go_sem, ↓reduceIte]
    refine call_by r1 ?_
    simp (config := { maxSteps := 1000000 }) (disch := first | omega | (simp only [go_sem]; omega)) only [go_sem, ↓reduceIte]
    refine call_by hw ?_
    simp (config := { maxSteps := 1000000 }) (disch := first | omega | (simp only [go_sem]; omega)) only [go_sem, ↓reduceIte]
  rw [c] at r1
  simp only [smallL, List.all_cons, List.all_nil, Bool.and_true, Bool.and_eq_true] at c
  have c1 := few_len c.1
  have c2 := fewM_len c.2
  have r2 := hcp g (by omega) (by omega)
  have r3 := ho p (by omega) (by omega)
  have r4 := he g p h
  have r5 := he2 g p h
  have r6 := hb g p h
  have r7 := hb2 g p h
  have r8 := hv g p h.1 h.2
  have r9 := hv2 g p h.1 h.2
  have l1 := exR_len g p
  have l2 := bdR_len g p
  have r10 := hsg (exR g p).1 (exR g p).1 (by unfold maxL; omega) (by unfold maxL; omega)
  have r11 := hsm (exR g p).2.1 (exR g p).2.1 (by unfold maxL; omega) (by unfold maxL; omega)
  have r12 := hq (bdR g p).1 (bdR g p).1 (by unfold maxL; omega)
  rw [decide_eq_true rfl] at r10 r11 r12
  clear l1 l2 c c1 c2
  generalize exR g p = R at *
  generalize bdR g p = S at *
  generalize validP g p = v at *
  obtain ⟨⟨rn, re⟩, ⟨mn, me⟩, u⟩ := R
  obtain ⟨sl, su⟩ := S
  simp only [gD, mD, gA, mA] at *
  simp (config := { maxSteps := 1000000 }) (disch := first | omega | (simp only [go_sem]; omega)) only [go_sem, ↓reduceIte]
  refine call_by hw ?_
  simp (config := { maxSteps := 1000000 }) (disch := first | omega | (simp only [go_sem]; omega)) only [go_sem, ↓reduceIte]
  refine call_by r1 ?_
  simp (config := { maxSteps := 1000000 }) (disch := first | omega | (simp only [go_sem]; omega)) only [go_sem, ↓reduceIte]
  refine call_by r2 ?_
  simp (config := { maxSteps := 1000000 }) (disch := first | omega | (simp only [go_sem]; omega)) only [go_sem, ↓reduceIte]
  refine call_by r3 ?_
  simp (config := { maxSteps := 1000000 }) (disch := first | omega | (simp only [go_sem]; omega)) only [go_sem, ↓reduceIte]
  refine call_by r4 ?_
  simp (config := { maxSteps := 1000000 }) (disch := first | omega | (simp only [go_sem]; omega)) only [go_sem, ↓reduceIte]
  refine call_by r5 ?_
  simp (config := { maxSteps := 1000000 }) (disch := first | omega | (simp only [go_sem]; omega)) only [go_sem, ↓reduceIte]
  refine call_by r2 ?_
  simp (config := { maxSteps := 1000000 }) (disch := first | omega | (simp only [go_sem]; omega)) only [go_sem, ↓reduceIte]
  refine call_by r3 ?_
  simp (config := { maxSteps := 1000000 }) (disch := first | omega | (simp only [go_sem]; omega)) only [go_sem, ↓reduceIte]
  refine call_by r6 ?_
  simp (config := { maxSteps := 1000000 }) (disch := first | omega | (simp only [go_sem]; omega)) only [go_sem, ↓reduceIte]
  refine call_by r7 ?_
  simp (config := { maxSteps := 1000000 }) (disch := first | omega | (simp only [go_sem]; omega)) only [go_sem, ↓reduceIte]
  refine call_by r8 ?_
  simp (config := { maxSteps := 1000000 }) (disch := first | omega | (simp only [go_sem]; omega)) only [go_sem, ↓reduceIte]
  refine call_by r9 ?_
  simp (config := { maxSteps := 1000000 }) (disch := first | omega | (simp only [go_sem]; omega)) only [go_sem, ↓reduceIte]
  refine call_by r10 ?_
  simp (config := { maxSteps := 1000000 }) (disch := first | omega | (simp only [go_sem]; omega)) only [go_sem, ↓reduceIte]
  refine call_by r11 ?_
  simp (config := { maxSteps := 1000000 }) (disch := first | omega | (simp only [go_sem]; omega)) only [go_sem, ↓reduceIte]
  refine call_by r12 ?_
  simp (config := { maxSteps := 1000000 }) (disch := first | omega | (simp only [go_sem]; omega)) only [go_sem, ↓reduceIte]
  try simp
theorem x_l07_SubgraphValid (h : K_l07_SubgraphValid P F) (args : List D) (ha : HasEls [shG, shM] args) : FC P (F "l07.SubgraphValid") args (.bool true) [] := by
  simp only [HasEls] at ha
  obtain ⟨_, _, rfl, h1, _, _, rfl, h2, rfl⟩ := ha
  obtain ⟨g, rfl⟩ := rd_graph h1
  obtain ⟨p, rfl, k⟩ := rd_morph h2
  exact h g p k
end
end Go.Am
