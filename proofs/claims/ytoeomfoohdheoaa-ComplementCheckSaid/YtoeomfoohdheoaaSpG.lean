/- Chapter 12: the example; the laws Violations, Of, Check, Repair. -/
import Derived.Test.YtoeomfoohdheoaaSpF
namespace Go.Am
open Go
set_option linter.unusedVariables false
set_option linter.unusedSimpArgs false
attribute [local irreducible] W
/- l12.awake -/
def c_l12_awake_r0 (F : String → Nat) : List LI := [⟨some 0, .mov (.k (.bool false)), none⟩]
def c_l12_awake_r1 (F : String → Nat) : List LI := [⟨some 10, .buildSl 1 8 (.int .i64 (0)) 2 [(0, .k (.int .i64 (0))), (1, .k (.int .i64 (0)))], none⟩,
  ⟨some 11, .build [.int .i64 (0), .int .i64 (0), .int .i64 (0)] [(1, 1, .k (.int .i64 (0))), (2, 1, .k (.int .i64 (1)))], none⟩,
  ⟨some 12, .buildSl 3 24 (.agg [.int .i64 (0), .int .i64 (0), .int .i64 (0)]) 1 [(0, .t 11)], none⟩,
  ⟨some 13, .build [.nl 1, .nl 3] [(0, 1, .t 10), (1, 1, .t 12)], none⟩,
  ⟨some 1, .alloc [.nl 1, .nl 3], none⟩,
  ⟨none, .store 2 (.t 1) (.t 13), none⟩]
def c_l12_awake_r2 (F : String → Nat) : List LI := [⟨some 14, .buildSl 1 8 (.int .i64 (0)) 3 [(0, .k (.int .i64 (0))), (1, .k (.int .i64 (0))), (2, .k (.int .i64 (0)))], none⟩,
  ⟨some 15, .build [.int .i64 (0), .int .i64 (0), .int .i64 (0)] [(1, 1, .k (.int .i64 (0))), (2, 1, .k (.int .i64 (1)))], none⟩,
  ⟨some 16, .build [.int .i64 (0), .int .i64 (0), .int .i64 (0)] [(1, 1, .k (.int .i64 (2))), (2, 1, .k (.int .i64 (1)))], none⟩,
  ⟨some 17, .buildSl 3 24 (.agg [.int .i64 (0), .int .i64 (0), .int .i64 (0)]) 2 [(0, .t 15), (1, .t 16)], none⟩,
  ⟨some 18, .build [.nl 1, .nl 3] [(0, 1, .t 14), (1, 1, .t 17)], none⟩,
  ⟨some 2, .alloc [.nl 1, .nl 3], none⟩,
  ⟨none, .store 2 (.t 2) (.t 18), none⟩]
def c_l12_awake_r3 (F : String → Nat) : List LI := [⟨some 19, .buildSl 1 8 (.int .i64 (0)) 2 [(0, .k (.int .i64 (0))), (1, .k (.int .i64 (1)))], none⟩,
  ⟨some 20, .buildSl 1 8 (.int .i64 (0)) 1 [(0, .k (.int .i64 (0)))], none⟩,
  ⟨some 21, .build [.nl 1, .nl 1] [(0, 1, .t 19), (1, 1, .t 20)], none⟩,
  ⟨some 3, .alloc [.nl 1, .nl 1], none⟩,
  ⟨none, .store 2 (.t 3) (.t 21), none⟩]
def c_l12_awake_r4 (F : String → Nat) : List LI := [⟨some 23, .load true 2 (.t 1), none⟩,
  ⟨some 24, .load true 2 (.t 2), none⟩,
  ⟨some 25, .buildSl 1 8 (.int .i64 (0)) 2 [(0, .k (.int .i64 (0))), (1, .k (.int .i64 (1)))], none⟩,
  ⟨some 26, .build [.nl 1, .nl 1] [(0, 1, .t 25)], none⟩,
  ⟨some 27, .load true 2 (.t 3), none⟩,
  ⟨some 28, .call (F "complement.Of") [.t 23, .t 24, .t 26, .t 27] [], none⟩,
  ⟨some 22, .mov (.t 28), none⟩,
  ⟨some 29, .ext (.t 22) 0, none⟩,
  ⟨some 30, .ext (.t 22) 1, none⟩,
  ⟨some 4, .alloc [.nl 1, .nl 1], none⟩,
  ⟨none, .store 2 (.t 4) (.t 29), none⟩,
  ⟨some 5, .mov (.t 30), none⟩]
def c_l12_awake_r5 (F : String → Nat) : List LI := [⟨some 32, .load true 2 (.t 1), none⟩,
  ⟨some 33, .load true 2 (.t 2), none⟩,
  ⟨some 34, .buildSl 1 8 (.int .i64 (0)) 1 [(0, .k (.int .i64 (0)))], none⟩,
  ⟨some 35, .build [.nl 1, .nl 1] [(0, 1, .t 34)], none⟩,
  ⟨some 36, .load true 2 (.t 3), none⟩,
  ⟨some 37, .call (F "complement.Dangling") [.t 32, .t 33, .t 35, .t 36] [], none⟩,
  ⟨some 31, .mov (.t 37), none⟩,
  ⟨some 38, .ext (.t 31) 0, none⟩,
  ⟨some 39, .ext (.t 31) 1, none⟩,
  ⟨some 6, .mov (.t 38), none⟩,
  ⟨some 7, .mov (.t 39), none⟩]
def c_l12_awake_r6 (F : String → Nat) : List LI := [⟨some 41, .load true 2 (.t 1), none⟩,
  ⟨some 42, .load true 2 (.t 2), none⟩,
  ⟨some 43, .buildSl 1 8 (.int .i64 (0)) 1 [(0, .k (.int .i64 (0)))], none⟩,
  ⟨some 44, .build [.nl 1, .nl 1] [(0, 1, .t 43)], none⟩,
  ⟨some 45, .load true 2 (.t 3), none⟩,
  ⟨some 46, .call (F "complement.Repair") [.t 41, .t 42, .t 44, .t 45] [], none⟩,
  ⟨some 40, .mov (.t 46), none⟩,
  ⟨some 47, .ext (.t 40) 0, none⟩,
  ⟨some 48, .ext (.t 40) 1, none⟩,
  ⟨some 8, .alloc [.nl 1, .nl 1], none⟩,
  ⟨none, .store 2 (.t 8) (.t 47), none⟩,
  ⟨some 9, .mov (.t 48), none⟩]
def c_l12_awake_r7 (F : String → Nat) : List LI := [⟨some 49, .mov (.t 5), none⟩,
  ⟨some 50, .bin .eql (.t 49) (.k (.int .i64 (0))), none⟩,
  ⟨some 51, .mov (.t 50), none⟩,
  ⟨some 52, .load true 2 (.t 4), some (51, true)⟩,
  ⟨some 53, .buildSl 1 8 (.int .i64 (0)) 3 [(0, .k (.int .i64 (0))), (1, .k (.int .i64 (1))), (2, .k (.int .i64 (2)))], some (51, true)⟩,
  ⟨some 54, .buildSl 1 8 (.int .i64 (0)) 1 [(0, .k (.int .i64 (1)))], some (51, true)⟩,
  ⟨some 55, .build [.nl 1, .nl 1] [(0, 1, .t 53), (1, 1, .t 54)], some (51, true)⟩,
  ⟨some 56, .call (F "r07.Same") [.t 52, .t 55] [], some (51, true)⟩,
  ⟨some 57, .pick (.t 51) (.t 56) (.k (.bool false)), none⟩,
  ⟨some 58, .mov (.t 57), none⟩,
  ⟨some 59, .mov (.t 7), some (58, true)⟩,
  ⟨some 60, .bin .eql (.t 59) (.k (.int .i64 (0))), some (58, true)⟩,
  ⟨some 61, .pick (.t 58) (.t 60) (.k (.bool false)), none⟩,
  ⟨some 62, .mov (.t 61), none⟩,
  ⟨some 63, .mov (.t 6), some (62, true)⟩,
  ⟨some 64, .buildSl 1 8 (.int .i64 (0)) 1 [(0, .k (.int .i64 (1)))], some (62, true)⟩,
  ⟨some 65, .call (F "slices.Equal.I") [.t 63, .t 64] [], some (62, true)⟩,
  ⟨some 66, .pick (.t 62) (.t 65) (.k (.bool false)), none⟩,
  ⟨some 67, .mov (.t 66), none⟩,
  ⟨some 68, .mov (.t 9), some (67, true)⟩,
  ⟨some 69, .bin .eql (.t 68) (.k (.int .i64 (0))), some (67, true)⟩,
  ⟨some 70, .pick (.t 67) (.t 69) (.k (.bool false)), none⟩,
  ⟨some 71, .mov (.t 70), none⟩,
  ⟨some 72, .load true 2 (.t 8), some (71, true)⟩,
  ⟨some 73, .buildSl 1 8 (.int .i64 (0)) 2 [(0, .k (.int .i64 (0))), (1, .k (.int .i64 (1)))], some (71, true)⟩,
  ⟨some 74, .build [.nl 1, .nl 1] [(0, 1, .t 73)], some (71, true)⟩,
  ⟨some 75, .call (F "r07.Same") [.t 72, .t 74] [], some (71, true)⟩,
  ⟨some 76, .pick (.t 71) (.t 75) (.k (.bool false)), none⟩,
  ⟨some 0, .mov (.t 76), none⟩]
def c_l12_awake (F : String → Nat) : LC := (.seq (.reg (c_l12_awake_r0 F) []) (.seq (.reg (c_l12_awake_r1 F) [1]) (.seq (.reg (c_l12_awake_r2 F) [1, 2]) (.seq (.reg (c_l12_awake_r3 F) [1, 2, 3]) (.seq (.reg (c_l12_awake_r4 F) [1, 2, 3, 4, 5]) (.seq (.reg (c_l12_awake_r5 F) [1, 2, 3, 4, 5, 6, 7]) (.seq (.reg (c_l12_awake_r6 F) [4, 5, 6, 7, 8, 9]) (.seq (.reg (c_l12_awake_r7 F) [0]) .ret))))))))
def h_l12_awake : Hints := ⟨[], fun _ => [], tab [(0, []), (1, [1]), (2, [1, 2]), (3, [1, 2, 3]), (4, [1, 2, 3, 4, 5]), (5, [1, 2, 3, 4, 5, 6, 7]), (6, [4, 5, 6, 7, 8, 9]), (7, [0])], tab []⟩

/- l12.few -/
def c_l12_few_r0 (F : String → Nat) : List LI := [⟨some 1, .bx (.t 0), none⟩,
  ⟨some 2, .mov (.k (.bool false)), none⟩]
def c_l12_few_r1 (F : String → Nat) : List LI := [⟨some 3, .fad 0 (.t 1), none⟩,
  ⟨some 4, .load true 2 (.t 3), none⟩,
  ⟨some 5, .call (F "r05.Few") [.t 4] [], none⟩,
  ⟨some 6, .mov (.t 5), none⟩,
  ⟨some 7, .fad 2 (.t 1), some (6, true)⟩,
  ⟨some 8, .load true 2 (.t 7), some (6, true)⟩,
  ⟨some 9, .call (F "r05.Few") [.t 8] [], some (6, true)⟩,
  ⟨some 10, .pick (.t 6) (.t 9) (.k (.bool false)), none⟩,
  ⟨some 11, .mov (.t 10), none⟩,
  ⟨some 12, .fad 4 (.t 1), some (11, true)⟩,
  ⟨some 13, .load true 2 (.t 12), some (11, true)⟩,
  ⟨some 14, .call (F "r07.Few") [.t 13, .k (.int .i64 (140))] [], some (11, true)⟩,
  ⟨some 15, .pick (.t 11) (.t 14) (.k (.bool false)), none⟩,
  ⟨some 16, .mov (.t 15), none⟩,
  ⟨some 17, .fad 6 (.t 1), some (16, true)⟩,
  ⟨some 18, .load true 2 (.t 17), some (16, true)⟩,
  ⟨some 19, .call (F "r06.Few") [.t 18, .k (.int .i64 (140))] [], some (16, true)⟩,
  ⟨some 20, .pick (.t 16) (.t 19) (.k (.bool false)), none⟩,
  ⟨some 2, .mov (.t 20), none⟩]
def c_l12_few (F : String → Nat) : LC := (.seq (.reg (c_l12_few_r0 F) [1]) (.seq (.reg (c_l12_few_r1 F) [2]) .ret))
def h_l12_few : Hints := ⟨[], fun _ => [], tab [(0, [1]), (1, [2])], tab []⟩

/- l12.copied -/
def c_l12_copied_r0 (F : String → Nat) : List LI := [⟨some 1, .bx (.t 0), none⟩,
  ⟨some 2, .alloc [.nl 1, .nl 1], none⟩]
def c_l12_copied_r1 (F : String → Nat) : List LI := [⟨some 3, .fad 0 (.t 1), none⟩,
  ⟨some 4, .load false 1 (.t 3), none⟩,
  ⟨some 5, .call (F "slices.Clone.I") [.t 4] [], none⟩,
  ⟨some 6, .fad 1 (.t 1), none⟩,
  ⟨some 7, .load false 1 (.t 6), none⟩,
  ⟨some 8, .call (F "slices.Clone.I") [.t 7] [], none⟩,
  ⟨some 9, .build [.nl 1, .nl 1] [(0, 1, .t 5), (1, 1, .t 8)], none⟩,
  ⟨none, .store 2 (.t 2) (.t 9), none⟩]
def c_l12_copied (F : String → Nat) : LC := (.seq (.reg (c_l12_copied_r0 F) [1, 2]) (.seq (.dreg [(2, none, [], true), (4, (some 8), [2], false)] (c_l12_copied_r1 F) [2]) .ret))
def h_l12_copied : Hints := ⟨[], fun _ => [], tab [(0, [1, 2]), (1, [2])], tab []⟩

/- l12.ComplementCheck -/
def c_l12_ComplementCheck_r0 (F : String → Nat) : List LI := [⟨some 2, .bx (.t 0), none⟩,
  ⟨some 3, .bx (.t 1), none⟩,
  ⟨some 4, .mov (.k (.bool false)), none⟩]
def c_l12_ComplementCheck_r1 (F : String → Nat) : List LI := [⟨some 5, .call (F "l12.awake") [] [], none⟩,
  ⟨some 6, .not (.t 5), none⟩,
  ⟨some 7, .mov (.t 6), none⟩,
  ⟨some 8, .load true 8 (.t 2), some (7, false)⟩,
  ⟨some 9, .call (F "l12.few") [.t 8] [], some (7, false)⟩,
  ⟨some 10, .not (.t 9), some (7, false)⟩,
  ⟨some 11, .pick (.t 7) (.k (.bool true)) (.t 10), none⟩,
  ⟨some 12, .mov (.t 11), none⟩,
  ⟨some 13, .load true 2 (.t 3), some (12, false)⟩,
  ⟨some 14, .call (F "r07.Few") [.t 13, .k (.int .i64 (140))] [], some (12, false)⟩,
  ⟨some 15, .not (.t 14), some (12, false)⟩,
  ⟨some 16, .pick (.t 12) (.k (.bool true)) (.t 15), none⟩]
def c_l12_ComplementCheck_r2 (F : String → Nat) : List LI := [⟨some 17, .call (F "l12.awake") [] [], none⟩,
  ⟨some 4, .mov (.t 17), none⟩]
def c_l12_ComplementCheck_r3 (F : String → Nat) : List LI := [⟨some 18, .fad 0 (.t 2), none⟩,
  ⟨some 19, .load true 2 (.t 18), none⟩,
  ⟨some 20, .fad 2 (.t 2), none⟩,
  ⟨some 21, .load true 2 (.t 20), none⟩,
  ⟨some 22, .fad 4 (.t 2), none⟩,
  ⟨some 23, .load true 2 (.t 22), none⟩,
  ⟨some 24, .call (F "l12.copied") [.t 23] [], none⟩,
  ⟨some 25, .fad 6 (.t 2), none⟩,
  ⟨some 26, .load true 2 (.t 25), none⟩,
  ⟨some 27, .load true 2 (.t 3), none⟩,
  ⟨some 28, .call (F "l12.copied") [.t 27] [], none⟩,
  ⟨some 29, .call (F "complement.Check") [.t 19, .t 21, .t 24, .t 26, .t 28] [], none⟩,
  ⟨some 30, .fad 0 (.t 2), none⟩,
  ⟨some 31, .load true 2 (.t 30), none⟩,
  ⟨some 32, .fad 2 (.t 2), none⟩,
  ⟨some 33, .load true 2 (.t 32), none⟩,
  ⟨some 34, .fad 4 (.t 2), none⟩,
  ⟨some 35, .load true 2 (.t 34), none⟩,
  ⟨some 36, .fad 6 (.t 2), none⟩,
  ⟨some 37, .load true 2 (.t 36), none⟩,
  ⟨some 38, .load true 2 (.t 3), none⟩,
  ⟨some 39, .call (F "r12.Check") [.t 31, .t 33, .t 35, .t 37, .t 38] [], none⟩,
  ⟨some 40, .eqB false (.t 29) (.t 39), none⟩,
  ⟨some 4, .mov (.t 40), none⟩]
def c_l12_ComplementCheck (F : String → Nat) : LC := (.seq (.reg (c_l12_ComplementCheck_r0 F) [2, 3]) (.seq (.seq (.reg (c_l12_ComplementCheck_r1 F) [2, 3, 16]) (.cond (.t 16) (.seq (.reg (c_l12_ComplementCheck_r2 F) [4]) .ret) .skip)) (.seq (.dreg [(1, none, [], true), (3, none, [], true), (6, none, [1, 3], true), (8, (some 128), [6], true), (9, (some 0), [6], false), (10, none, [1, 3, 8], true), (11, none, [], true), (13, (some 4096), [6, 10, 11], false), (15, (some 16384), [6, 10, 11], false), (17, (some 65536), [6, 10, 11], false), (19, (some 262144), [6, 10, 11], false), (20, (some 0), [6, 10, 11], false)] (c_l12_ComplementCheck_r3 F) [4]) .ret)))
def h_l12_ComplementCheck : Hints := ⟨[], fun _ => [], tab [(0, [2, 3]), (1, [2, 3, 16]), (2, [4]), (3, [4])], tab []⟩

attribute [go_sem] c_l12_awake_r0 c_l12_awake_r1 c_l12_awake_r2 c_l12_awake_r3 c_l12_awake_r4 c_l12_awake_r5 c_l12_awake_r6 c_l12_awake_r7 c_l12_awake c_l12_few_r0 c_l12_few_r1 c_l12_few c_l12_copied_r0 c_l12_copied_r1 c_l12_copied c_l12_ComplementCheck_r0 c_l12_ComplementCheck_r1 c_l12_ComplementCheck_r2 c_l12_ComplementCheck_r3 c_l12_ComplementCheck
def fewCx (x : Cx) : Bool := few x.l && (few x.g && (fewM x.k 140 && fewM x.m 140))
section
variable (P : Program) (F : String → Nat)
def K_l12_awake : Prop := FC P (F "l12.awake") [] (.bool true) []
def K_l12_few : Prop := ∀ x : Cx, x.sm → x.m.sm → FC P (F "l12.few") [cxD x] (.bool (fewCx x)) []
def K_l12_copied : Prop := ∀ m : Mo, m.n.length ≤ 1000000 → m.e.length ≤ 1000000 → FC P (F "l12.copied") [mD m] (mA m) []
def K_l12_ComplementCheck : Prop := ∀ (x : Cx) (d : Mo), x.sm → x.m.sm → d.sm → FC P (F "l12.ComplementCheck") [cxD x, mD d] (.bool true) []
end
section
variable {P : Program} {F : String → Nat} {α : Type}
theorem fewCx_len {x : Cx} (h : fewCx x = true) : (x.k.n.length ≤ 140 ∧ x.k.e.length ≤ 140) ∧ (x.m.n.length ≤ 140 ∧ x.m.e.length ≤ 140) := by
  simp only [fewCx, fewM, Bool.and_eq_true, decide_eq_true_eq] at h
  omega
def exC (k : Mo) : Cx := ⟨⟨[0, 0], [⟨0, 0, 1⟩]⟩, ⟨[0, 0, 0], [⟨0, 0, 1⟩, ⟨0, 2, 1⟩]⟩, k, ⟨[0, 1], [0]⟩⟩
set_option maxRecDepth 100000 in
theorem w_l12_awake (ho : K_complement_Of P F) (hd : K_complement_Dangling P F) (hr : K_complement_Repair P F) (hs : K_r07_Same P F) (he : K_slices_Equal_I P F) : W P (c_l12_awake F) (Done [.t 0] [] (.bool true) []) (init []) := by
  refine W_of ?_
  have r1 := ho (exC ⟨[0, 1], []⟩) ⟨by decide, by decide⟩
  rw [show cxR (exC ⟨[0, 1], []⟩) = (⟨[0, 1, 2], [1]⟩, 0) by decide +kernel] at r1
  have r2 := hd (exC ⟨[0], []⟩) ⟨by decide, by decide⟩
  rw [show cxDr (exC ⟨[0], []⟩) = [1] by decide +kernel, show cxE (exC ⟨[0], []⟩) = 0 by decide +kernel] at r2
  have r3 := hr (exC ⟨[0], []⟩) ⟨by decide, by decide⟩
  rw [show repR (exC ⟨[0], []⟩) = (⟨[0, 1], []⟩, 0) by decide +kernel] at r3
  have s1 := hs ⟨[0, 1, 2], [1]⟩ ⟨[0, 1, 2], [1]⟩ (by decide) (by decide)
  have s2 := he [1] [1] (by decide)
  have s3 := hs ⟨[0, 1], []⟩ ⟨[0, 1], []⟩ (by decide) (by decide)
  simp only [exC, gD, mD, mA] at *
  simp (config := { maxSteps := 1000000 }) (disch := first | omega | (simp only [go_sem]; omega)) only [go_sem, ↓reduceIte]
  refine call_by r1 ?_
  simp (config := { maxSteps := 1000000 }) (disch := first | omega | (simp only [go_sem]; omega)) only [go_sem, ↓reduceIte, Int.cast_ofNat_Int, eq_self]
  refine call_by r2 ?_
  simp (config := { maxSteps := 1000000 }) (disch := first | omega | (simp only [go_sem]; omega)) only [go_sem, ↓reduceIte, Int.cast_ofNat_Int, eq_self]
  refine call_by r3 ?_
  simp (config := { maxSteps := 1000000 }) (disch := first | omega | (simp only [go_sem]; omega)) only [go_sem, ↓reduceIte, Int.cast_ofNat_Int, eq_self]
  refine call_by s1 ?_
  simp (config := { maxSteps := 1000000 }) (disch := first | omega | (simp only [go_sem]; omega)) only [go_sem, ↓reduceIte]
  refine call_by s2 ?_
  simp (config := { maxSteps := 1000000 }) (disch := first | omega | (simp only [go_sem]; omega)) only [go_sem, ↓reduceIte]
  refine call_by s3 ?_
  simp (config := { maxSteps := 1000000 }) (disch := first | omega | (simp only [go_sem]; omega)) only [go_sem, ↓reduceIte]
theorem w_l12_copied (hc : K_slices_Clone_I P F) (m : Mo) (h1 : m.n.length ≤ 1000000) (h2 : m.e.length ≤ 1000000) : W P (c_l12_copied F) (Done [.c 2 true 2] [] (mA m) []) (init [mD m]) := by
  refine W_of ?_
  have r1 := hc m.n (by omega)
  have r2 := hc m.e (by omega)
  simp only [mD, mA]
  simp (config := { maxSteps := 1000000 }) (disch := first | omega | (simp only [go_sem]; omega)) only [go_sem, ↓reduceIte]
  refine call_by r1 ?_
  simp (config := { maxSteps := 1000000 }) (disch := first | omega | (simp only [go_sem]; omega)) only [go_sem, ↓reduceIte]
  refine call_by r2 ?_
  simp (config := { maxSteps := 1000000 }) (disch := first | omega | (simp only [go_sem]; omega)) only [go_sem, ↓reduceIte]
  try rfl
theorem w_l12_few (hg : K_r05_Few P F) (hp : K_r07_Few P F) (hm : K_r06_Few P F) (x : Cx) (h1 : x.sm) (h2 : x.m.sm) : W P (c_l12_few F) (Done [.t 2] [] (.bool (fewCx x)) []) (init [cxD x]) := by
  refine W_of ?_
  have r1 := hg x.l
  have r2 := hg x.g
  have r3 := hp x.k 140 h1.1 h1.2
  have r4 := hm x.m 140 h2.1 h2.2
  have hc : fewCx x = (few x.l && (few x.g && (fewM x.k 140 && fewM x.m 140))) := rfl
  rw [hc]
  generalize few x.l = b1 at *
  generalize few x.g = b2 at *
  generalize fewM x.k 140 = b3 at *
  generalize fewM x.m 140 = b4 at *
  simp only [gD, mD, cxD] at *
  simp (config := { maxSteps := 1000000 }) (disch := first | omega | (simp only [go_sem]; omega)) only [go_sem, ↓reduceIte]
  refine call_by r1 ?_
  cases b1
  · simp (config := { maxSteps := 1000000 }) (disch := first | omega | (simp only [go_sem]; omega)) only [go_sem, ↓reduceIte]
    try simp
  simp (config := { maxSteps := 1000000 }) (disch := first | omega | (simp only [go_sem]; omega)) only [go_sem, ↓reduceIte]
  refine call_by r2 ?_
  cases b2
  · simp (config := { maxSteps := 1000000 }) (disch := first | omega | (simp only [go_sem]; omega)) only [go_sem, ↓reduceIte]
    try simp
  simp (config := { maxSteps := 1000000 }) (disch := first | omega | (simp only [go_sem]; omega)) only [go_sem, ↓reduceIte]
  refine call_by r3 ?_
  cases b3
  · simp (config := { maxSteps := 1000000 }) (disch := first | omega | (simp only [go_sem]; omega)) only [go_sem, ↓reduceIte]
    try simp
  simp (config := { maxSteps := 1000000 }) (disch := first | omega | (simp only [go_sem]; omega)) only [go_sem, ↓reduceIte]
  refine call_by r4 ?_
  simp (config := { maxSteps := 1000000 }) (disch := first | omega | (simp only [go_sem]; omega)) only [go_sem, ↓reduceIte]
  try simp
theorem w_l12_ComplementCheck (hw : K_l12_awake P F) (hf : K_l12_few P F) (hfp : K_r07_Few P F) (hcp : K_l12_copied P F) (ho : K_complement_Check P F) (ho2 : K_r12_Check P F) (x : Cx) (d : Mo) (h1 : x.sm) (h2 : x.m.sm) (h3 : d.sm) : W P (c_l12_ComplementCheck F) (Done [.t 4] [] (.bool true) []) (init [cxD x, mD d]) := by
  refine W_of ?_
  have r1 := hf x h1 h2
  have r0 := hfp d 140 h3.1 h3.2
  by_cases c : fewCx x = true
  case neg =>
    rw [Bool.not_eq_true] at c
    rw [c] at r1
    simp only [cxD, mD] at *
    simp (config := { maxSteps := 1000000 }) (disch := first | omega | (simp only [go_sem]; omega)) only [go_sem, ↓reduceIte]
    refine call_by hw ?_
    simp (config := { maxSteps := 1000000 }) (disch := first | omega | (simp only [go_sem]; omega)) only [go_sem, ↓reduceIte]
    refine call_by r1 ?_
    simp (config := { maxSteps := 1000000 }) (disch := first | omega | (simp only [go_sem]; omega)) only [go_sem, ↓reduceIte]
    refine call_by hw ?_
    simp (config := { maxSteps := 1000000 }) (disch := first | omega | (simp only [go_sem]; omega)) only [go_sem, ↓reduceIte]
  by_cases c2 : fewM d 140 = true
  case neg =>
    rw [Bool.not_eq_true] at c2
    rw [c] at r1
    rw [c2] at r0
    simp only [cxD, mD] at *
    simp (config := { maxSteps := 1000000 }) (disch := first | omega | (simp only [go_sem]; omega)) only [go_sem, ↓reduceIte]
    refine call_by hw ?_
    simp (config := { maxSteps := 1000000 }) (disch := first | omega | (simp only [go_sem]; omega)) only [go_sem, ↓reduceIte]
    refine call_by r1 ?_
    simp (config := { maxSteps := 1000000 }) (disch := first | omega | (simp only [go_sem]; omega)) only [go_sem, ↓reduceIte]
    refine call_by r0 ?_
    simp (config := { maxSteps := 1000000 }) (disch := first | omega | (simp only [go_sem]; omega)) only [go_sem, ↓reduceIte]
    refine call_by hw ?_
    simp (config := { maxSteps := 1000000 }) (disch := first | omega | (simp only [go_sem]; omega)) only [go_sem, ↓reduceIte]
  obtain ⟨s1, s2⟩ := fewCx_len c
  have s3 : d.n.length ≤ 140 ∧ d.e.length ≤ 140 := by simp only [fewM, decide_eq_true_eq] at c2; omega
  rw [c] at r1
  rw [c2] at r0
  have r2 := hcp x.k (by omega) (by omega)
  have r2b := hcp d (by omega) (by omega)
  have r3 := ho x d h1
  have r4 := ho2 x d h1
  clear s1 s2 s3 c c2
  generalize cxC x d = b at *
  simp only [cxD, gD, mD, mA] at *
  simp (config := { maxSteps := 1000000 }) (disch := first | omega | (simp only [go_sem]; omega)) only [go_sem, ↓reduceIte]
  refine call_by hw ?_
  simp (config := { maxSteps := 1000000 }) (disch := first | omega | (simp only [go_sem]; omega)) only [go_sem, ↓reduceIte]
  refine call_by r1 ?_
  simp (config := { maxSteps := 1000000 }) (disch := first | omega | (simp only [go_sem]; omega)) only [go_sem, ↓reduceIte]
  refine call_by r0 ?_
  simp (config := { maxSteps := 1000000 }) (disch := first | omega | (simp only [go_sem]; omega)) only [go_sem, ↓reduceIte]
  refine call_by r2 ?_
  simp (config := { maxSteps := 1000000 }) (disch := first | omega | (simp only [go_sem]; omega)) only [go_sem, ↓reduceIte]
  refine call_by r2b ?_
  simp (config := { maxSteps := 1000000 }) (disch := first | omega | (simp only [go_sem]; omega)) only [go_sem, ↓reduceIte]
  refine call_by r3 ?_
  simp (config := { maxSteps := 1000000 }) (disch := first | omega | (simp only [go_sem]; omega)) only [go_sem, ↓reduceIte]
  refine call_by r4 ?_
  simp (config := { maxSteps := 1000000 }) (disch := first | omega | (simp only [go_sem]; omega)) only [go_sem, ↓reduceIte]
  try simp
def shCx : Sh := .cat [shG, shG, shM, shM]
theorem rd_case {x : D} (h : HasEl shCx x) : ∃ c : Cx, x = cxD c ∧ c.sm ∧ c.m.sm := by
  simp only [shCx, HasEl] at h
  obtain ⟨ds, rfl, h⟩ := h
  obtain ⟨_, _, rfl, h1, h⟩ := hasShs_cat h
  obtain ⟨_, _, rfl, h2, h⟩ := hasShs_cat h
  obtain ⟨_, _, rfl, h3, h⟩ := hasShs_cat h
  obtain ⟨_, _, rfl, h4, h⟩ := hasShs_cat h
  obtain rfl := hasShs_nil h
  obtain ⟨l, rfl⟩ := rd_gl h1
  obtain ⟨g, rfl⟩ := rd_gl h2
  obtain ⟨k, rfl, h5⟩ := rd_ml h3
  obtain ⟨m, rfl, h6⟩ := rd_ml h4
  exact ⟨⟨l, g, k, m⟩, rfl, h5, h6⟩
theorem x_l12_ComplementCheck (h : K_l12_ComplementCheck P F) (args : List D) (ha : HasEls [shCx, shM] args) : FC P (F "l12.ComplementCheck") args (.bool true) [] := by
  simp only [HasEls] at ha
  obtain ⟨_, _, rfl, h1, _, _, rfl, h2, rfl⟩ := ha
  obtain ⟨s, rfl, k1, k2⟩ := rd_case h1
  obtain ⟨d, rfl, k3⟩ := rd_morph h2
  exact h s d k1 k2 k3
end
end Go.Am
