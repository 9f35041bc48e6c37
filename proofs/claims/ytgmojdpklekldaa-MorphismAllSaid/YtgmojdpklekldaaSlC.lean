/- The laws of chapter 6 about any graphs: Valid, Same, Compose. -/
import Derived.Test.YtgmojdpklekldaaSmG
namespace Go.Am
open Go
set_option linter.unusedVariables false
set_option linter.unusedSimpArgs false
attribute [local irreducible] W
/- l06.MorphismValid -/
def c_l06_MorphismValid_r0 (F : String → Nat) : List LI := [⟨some 2, .bx (.t 0), none⟩,
  ⟨some 3, .bx (.t 1), none⟩,
  ⟨some 4, .mov (.k (.bool false)), none⟩]
def c_l06_MorphismValid_r1 (F : String → Nat) : List LI := [⟨some 7, .call (F "l06.awake") [] [], none⟩,
  ⟨some 8, .not (.t 7), none⟩,
  ⟨some 9, .mov (.t 8), none⟩,
  ⟨some 10, .load true 2 (.t 2), some (9, false)⟩,
  ⟨some 11, .load true 4 (.t 3), some (9, false)⟩,
  ⟨some 12, .buildSl 4 96 (.agg [.lst 1 [], .lst 3 [], .lst 1 [], .lst 1 []]) 1 [(0, .t 11)], some (9, false)⟩,
  ⟨some 13, .call (F "l06.few") [.t 10, .t 12] [], some (9, false)⟩,
  ⟨some 14, .not (.t 13), some (9, false)⟩,
  ⟨some 15, .pick (.t 9) (.k (.bool true)) (.t 14), none⟩]
def c_l06_MorphismValid_r2 (F : String → Nat) : List LI := [⟨some 16, .call (F "l06.awake") [] [], none⟩,
  ⟨some 4, .mov (.t 16), none⟩]
def c_l06_MorphismValid_r3 (F : String → Nat) : List LI := [⟨some 17, .fad 0 (.t 3), none⟩,
  ⟨some 18, .load true 2 (.t 17), none⟩,
  ⟨some 19, .fad 2 (.t 3), none⟩,
  ⟨some 20, .load true 2 (.t 19), none⟩,
  ⟨some 5, .alloc [.nl 1, .nl 3], none⟩,
  ⟨some 6, .alloc [.nl 1, .nl 1], none⟩,
  ⟨none, .store 2 (.t 5) (.t 18), none⟩,
  ⟨none, .store 2 (.t 6) (.t 20), none⟩]
def c_l06_MorphismValid_r4 (F : String → Nat) : List LI := [⟨some 21, .load true 2 (.t 2), none⟩,
  ⟨some 22, .load true 2 (.t 5), none⟩,
  ⟨some 23, .load true 2 (.t 6), none⟩,
  ⟨some 24, .call (F "l06.copied") [.t 23] [], none⟩,
  ⟨some 25, .call (F "morphism.Valid") [.t 21, .t 22, .t 24] [], none⟩,
  ⟨some 26, .load true 2 (.t 2), none⟩,
  ⟨some 27, .load true 2 (.t 5), none⟩,
  ⟨some 28, .load true 2 (.t 6), none⟩,
  ⟨some 29, .call (F "r06.Valid") [.t 26, .t 27, .t 28] [], none⟩,
  ⟨some 30, .bin .eql (.t 25) (.t 29), none⟩,
  ⟨some 31, .mov (.t 30), none⟩,
  ⟨some 32, .load true 2 (.t 2), some (31, true)⟩,
  ⟨some 33, .load true 2 (.t 5), some (31, true)⟩,
  ⟨some 34, .load true 2 (.t 6), some (31, true)⟩,
  ⟨some 35, .call (F "l06.copied") [.t 34] [], some (31, true)⟩,
  ⟨some 36, .call (F "morphism.Injective") [.t 32, .t 33, .t 35] [], some (31, true)⟩,
  ⟨some 37, .load true 2 (.t 2), some (31, true)⟩,
  ⟨some 38, .load true 2 (.t 5), some (31, true)⟩,
  ⟨some 39, .load true 2 (.t 6), some (31, true)⟩,
  ⟨some 40, .call (F "r06.Injective") [.t 37, .t 38, .t 39] [], some (31, true)⟩,
  ⟨some 41, .eqB false (.t 36) (.t 40), some (31, true)⟩,
  ⟨some 42, .pick (.t 31) (.t 41) (.k (.bool false)), none⟩,
  ⟨some 43, .mov (.t 42), none⟩,
  ⟨some 44, .load true 2 (.t 2), some (43, true)⟩,
  ⟨some 45, .load true 2 (.t 5), some (43, true)⟩,
  ⟨some 46, .load true 2 (.t 6), some (43, true)⟩,
  ⟨some 47, .call (F "l06.copied") [.t 46] [], some (43, true)⟩,
  ⟨some 48, .call (F "morphism.Surjective") [.t 44, .t 45, .t 47] [], some (43, true)⟩,
  ⟨some 49, .load true 2 (.t 2), some (43, true)⟩,
  ⟨some 50, .load true 2 (.t 5), some (43, true)⟩,
  ⟨some 51, .load true 2 (.t 6), some (43, true)⟩,
  ⟨some 52, .call (F "r06.Surjective") [.t 49, .t 50, .t 51] [], some (43, true)⟩,
  ⟨some 53, .eqB false (.t 48) (.t 52), some (43, true)⟩,
  ⟨some 54, .pick (.t 43) (.t 53) (.k (.bool false)), none⟩,
  ⟨some 4, .mov (.t 54), none⟩]
def c_l06_MorphismValid (F : String → Nat) : LC := (.seq (.reg (c_l06_MorphismValid_r0 F) [2, 3]) (.seq (.seq (.reg (c_l06_MorphismValid_r1 F) [2, 3, 15]) (.cond (.t 15) (.seq (.reg (c_l06_MorphismValid_r2 F) [4]) .ret) .skip)) (.seq (.dreg [(3, none, [], true), (6, none, [3], false)] (c_l06_MorphismValid_r3 F) [2, 5, 6]) (.seq (.dreg [(0, none, [], true), (1, none, [], true), (3, none, [0, 1], true), (4, none, [], true), (5, (some 0), [3, 4], false), (6, (some 0), [3, 4], false), (7, (some 0), [3, 4], false), (11, none, [], true), (12, none, [], true), (14, none, [11, 12], true), (15, none, [], true), (16, (some 2047), [14, 15], false), (17, (some 2047), [14, 15], false), (18, (some 2047), [14, 15], false), (23, none, [], true), (24, none, [], true), (26, none, [23, 24], true), (27, none, [], true), (28, (some 8388607), [26, 27], false), (29, (some 8388607), [26, 27], false), (30, (some 8388607), [26, 27], false)] (c_l06_MorphismValid_r4 F) [4]) .ret))))
def h_l06_MorphismValid : Hints := ⟨[], fun _ => [], tab [(0, [2, 3]), (1, [2, 3, 15]), (2, [4]), (3, [2, 5, 6]), (4, [4])], tab []⟩

/- l06.MorphismSame -/
def c_l06_MorphismSame_r0 (F : String → Nat) : List LI := [⟨some 3, .bx (.t 0), none⟩,
  ⟨some 4, .bx (.t 1), none⟩,
  ⟨some 5, .bx (.t 2), none⟩,
  ⟨some 6, .mov (.k (.bool false)), none⟩]
def c_l06_MorphismSame_r1 (F : String → Nat) : List LI := [⟨some 11, .call (F "l06.awake") [] [], none⟩,
  ⟨some 12, .not (.t 11), none⟩,
  ⟨some 13, .mov (.t 12), none⟩,
  ⟨some 14, .load true 2 (.t 3), some (13, false)⟩,
  ⟨some 15, .call (F "r05.Few") [.t 14] [], some (13, false)⟩,
  ⟨some 16, .not (.t 15), some (13, false)⟩,
  ⟨some 17, .pick (.t 13) (.k (.bool true)) (.t 16), none⟩,
  ⟨some 18, .mov (.t 17), none⟩,
  ⟨some 19, .load true 2 (.t 4), some (18, false)⟩,
  ⟨some 20, .call (F "r06.Few") [.t 19, .k (.int .i64 (140))] [], some (18, false)⟩,
  ⟨some 21, .not (.t 20), some (18, false)⟩,
  ⟨some 22, .pick (.t 18) (.k (.bool true)) (.t 21), none⟩,
  ⟨some 23, .mov (.t 22), none⟩,
  ⟨some 24, .load true 2 (.t 5), some (23, false)⟩,
  ⟨some 25, .call (F "r06.Few") [.t 24, .k (.int .i64 (140))] [], some (23, false)⟩,
  ⟨some 26, .not (.t 25), some (23, false)⟩,
  ⟨some 27, .pick (.t 23) (.k (.bool true)) (.t 26), none⟩]
def c_l06_MorphismSame_r2 (F : String → Nat) : List LI := [⟨some 28, .call (F "l06.awake") [] [], none⟩,
  ⟨some 6, .mov (.t 28), none⟩]
def c_l06_MorphismSame_r3 (F : String → Nat) : List LI := [⟨some 30, .load true 2 (.t 3), none⟩,
  ⟨some 31, .call (F "morphism.Identity") [.t 30] [], none⟩,
  ⟨some 29, .mov (.t 31), none⟩,
  ⟨some 32, .ext (.t 29) 0, none⟩,
  ⟨some 33, .ext (.t 29) 1, none⟩,
  ⟨some 7, .alloc [.nl 1, .nl 1], none⟩,
  ⟨none, .store 2 (.t 7) (.t 32), none⟩,
  ⟨some 8, .mov (.t 33), none⟩]
def c_l06_MorphismSame_r4 (F : String → Nat) : List LI := [⟨some 35, .load true 2 (.t 3), none⟩,
  ⟨some 36, .call (F "r06.Identity") [.t 35] [], none⟩,
  ⟨some 34, .mov (.t 36), none⟩,
  ⟨some 37, .ext (.t 34) 0, none⟩,
  ⟨some 38, .ext (.t 34) 1, none⟩,
  ⟨some 9, .alloc [.nl 1, .nl 1], none⟩,
  ⟨none, .store 2 (.t 9) (.t 37), none⟩,
  ⟨some 10, .mov (.t 38), none⟩]
def c_l06_MorphismSame_r5 (F : String → Nat) : List LI := [⟨some 39, .mov (.t 8), none⟩,
  ⟨some 40, .mov (.t 10), none⟩,
  ⟨some 41, .bin .eql (.t 39) (.t 40), none⟩,
  ⟨some 42, .mov (.t 41), none⟩,
  ⟨some 43, .load true 2 (.t 7), some (42, true)⟩,
  ⟨some 44, .load true 2 (.t 9), some (42, true)⟩,
  ⟨some 45, .call (F "r06.Same") [.t 43, .t 44] [], some (42, true)⟩,
  ⟨some 46, .pick (.t 42) (.t 45) (.k (.bool false)), none⟩,
  ⟨some 47, .mov (.t 46), none⟩,
  ⟨some 48, .load true 2 (.t 4), some (47, true)⟩,
  ⟨some 49, .load true 2 (.t 5), some (47, true)⟩,
  ⟨some 50, .call (F "morphism.Same") [.t 48, .t 49] [], some (47, true)⟩,
  ⟨some 51, .load true 2 (.t 4), some (47, true)⟩,
  ⟨some 52, .load true 2 (.t 5), some (47, true)⟩,
  ⟨some 53, .call (F "r06.Same") [.t 51, .t 52] [], some (47, true)⟩,
  ⟨some 54, .eqB false (.t 50) (.t 53), some (47, true)⟩,
  ⟨some 55, .pick (.t 47) (.t 54) (.k (.bool false)), none⟩,
  ⟨some 56, .mov (.t 55), none⟩,
  ⟨some 57, .load true 2 (.t 4), some (56, true)⟩,
  ⟨some 58, .load true 2 (.t 4), some (56, true)⟩,
  ⟨some 59, .call (F "l06.copied") [.t 58] [], some (56, true)⟩,
  ⟨some 60, .call (F "morphism.Same") [.t 57, .t 59] [], some (56, true)⟩,
  ⟨some 61, .pick (.t 56) (.t 60) (.k (.bool false)), none⟩,
  ⟨some 6, .mov (.t 61), none⟩]
def c_l06_MorphismSame (F : String → Nat) : LC := (.seq (.reg (c_l06_MorphismSame_r0 F) [3, 4, 5]) (.seq (.seq (.reg (c_l06_MorphismSame_r1 F) [3, 4, 5, 27]) (.cond (.t 27) (.seq (.reg (c_l06_MorphismSame_r2 F) [6]) .ret) .skip)) (.seq (.reg (c_l06_MorphismSame_r3 F) [3, 4, 5, 7, 8]) (.seq (.reg (c_l06_MorphismSame_r4 F) [4, 5, 7, 8, 9, 10]) (.seq (.dreg [(11, none, [], true), (12, (some 511), [11], false), (13, (some 511), [11], false), (18, none, [], true), (20, none, [18], false)] (c_l06_MorphismSame_r5 F) [6]) .ret)))))
def h_l06_MorphismSame : Hints := ⟨[], fun _ => [], tab [(0, [3, 4, 5]), (1, [3, 4, 5, 27]), (2, [6]), (3, [3, 4, 5, 7, 8]), (4, [4, 5, 7, 8, 9, 10]), (5, [6])], tab []⟩

/- l06.MorphismCompose -/
def c_l06_MorphismCompose_r0 (F : String → Nat) : List LI := [⟨some 3, .bx (.t 0), none⟩,
  ⟨some 4, .bx (.t 1), none⟩,
  ⟨some 5, .bx (.t 2), none⟩,
  ⟨some 6, .mov (.k (.bool false)), none⟩]
def c_l06_MorphismCompose_r1 (F : String → Nat) : List LI := [⟨some 11, .call (F "l06.awake") [] [], none⟩,
  ⟨some 12, .not (.t 11), none⟩,
  ⟨some 13, .mov (.t 12), none⟩,
  ⟨some 14, .load true 2 (.t 3), some (13, false)⟩,
  ⟨some 15, .load true 4 (.t 4), some (13, false)⟩,
  ⟨some 16, .load true 4 (.t 5), some (13, false)⟩,
  ⟨some 17, .buildSl 4 96 (.agg [.lst 1 [], .lst 3 [], .lst 1 [], .lst 1 []]) 2 [(0, .t 15), (1, .t 16)], some (13, false)⟩,
  ⟨some 18, .call (F "l06.few") [.t 14, .t 17] [], some (13, false)⟩,
  ⟨some 19, .not (.t 18), some (13, false)⟩,
  ⟨some 20, .pick (.t 13) (.k (.bool true)) (.t 19), none⟩]
def c_l06_MorphismCompose_r2 (F : String → Nat) : List LI := [⟨some 21, .call (F "l06.awake") [] [], none⟩,
  ⟨some 6, .mov (.t 21), none⟩]
def c_l06_MorphismCompose_r3 (F : String → Nat) : List LI := [⟨some 23, .load true 2 (.t 3), none⟩,
  ⟨some 24, .fad 0 (.t 4), none⟩,
  ⟨some 25, .load true 2 (.t 24), none⟩,
  ⟨some 26, .fad 0 (.t 5), none⟩,
  ⟨some 27, .load true 2 (.t 26), none⟩,
  ⟨some 28, .fad 2 (.t 4), none⟩,
  ⟨some 29, .load true 2 (.t 28), none⟩,
  ⟨some 30, .call (F "l06.copied") [.t 29] [], none⟩,
  ⟨some 31, .fad 2 (.t 5), none⟩,
  ⟨some 32, .load true 2 (.t 31), none⟩,
  ⟨some 33, .call (F "l06.copied") [.t 32] [], none⟩,
  ⟨some 34, .call (F "morphism.Compose") [.t 23, .t 25, .t 27, .t 30, .t 33] [], none⟩,
  ⟨some 22, .mov (.t 34), none⟩,
  ⟨some 35, .ext (.t 22) 0, none⟩,
  ⟨some 36, .ext (.t 22) 1, none⟩,
  ⟨some 7, .alloc [.nl 1, .nl 1], none⟩,
  ⟨none, .store 2 (.t 7) (.t 35), none⟩,
  ⟨some 8, .mov (.t 36), none⟩]
def c_l06_MorphismCompose_r4 (F : String → Nat) : List LI := [⟨some 38, .load true 2 (.t 3), none⟩,
  ⟨some 39, .fad 0 (.t 4), none⟩,
  ⟨some 40, .load true 2 (.t 39), none⟩,
  ⟨some 41, .fad 0 (.t 5), none⟩,
  ⟨some 42, .load true 2 (.t 41), none⟩,
  ⟨some 43, .fad 2 (.t 4), none⟩,
  ⟨some 44, .load true 2 (.t 43), none⟩,
  ⟨some 45, .fad 2 (.t 5), none⟩,
  ⟨some 46, .load true 2 (.t 45), none⟩,
  ⟨some 47, .call (F "r06.Compose") [.t 38, .t 40, .t 42, .t 44, .t 46] [], none⟩,
  ⟨some 37, .mov (.t 47), none⟩,
  ⟨some 48, .ext (.t 37) 0, none⟩,
  ⟨some 49, .ext (.t 37) 1, none⟩,
  ⟨some 9, .alloc [.nl 1, .nl 1], none⟩,
  ⟨none, .store 2 (.t 9) (.t 48), none⟩,
  ⟨some 10, .mov (.t 49), none⟩]
def c_l06_MorphismCompose_r5 (F : String → Nat) : List LI := [⟨some 50, .mov (.t 8), none⟩,
  ⟨some 51, .mov (.t 10), none⟩,
  ⟨some 52, .bin .eql (.t 50) (.t 51), none⟩,
  ⟨some 53, .mov (.t 52), none⟩,
  ⟨some 54, .load true 2 (.t 7), some (53, true)⟩,
  ⟨some 55, .load true 2 (.t 9), some (53, true)⟩,
  ⟨some 56, .call (F "r06.Same") [.t 54, .t 55] [], some (53, true)⟩,
  ⟨some 57, .pick (.t 53) (.t 56) (.k (.bool false)), none⟩,
  ⟨some 6, .mov (.t 57), none⟩]
def c_l06_MorphismCompose (F : String → Nat) : LC := (.seq (.reg (c_l06_MorphismCompose_r0 F) [3, 4, 5]) (.seq (.seq (.reg (c_l06_MorphismCompose_r1 F) [3, 4, 5, 20]) (.cond (.t 20) (.seq (.reg (c_l06_MorphismCompose_r2 F) [6]) .ret) .skip)) (.seq (.dreg [(0, none, [], true), (2, none, [], true), (4, none, [], true), (7, none, [0, 2, 4], true), (9, (some 256), [7], false), (10, none, [0, 2, 4], false)] (c_l06_MorphismCompose_r3 F) [3, 4, 5, 7, 8]) (.seq (.reg (c_l06_MorphismCompose_r4 F) [7, 8, 9, 10]) (.seq (.reg (c_l06_MorphismCompose_r5 F) [6]) .ret)))))
def h_l06_MorphismCompose : Hints := ⟨[], fun _ => [], tab [(0, [3, 4, 5]), (1, [3, 4, 5, 20]), (2, [6]), (3, [3, 4, 5, 7, 8]), (4, [7, 8, 9, 10]), (5, [6])], tab []⟩

attribute [go_sem] c_l06_MorphismValid_r0 c_l06_MorphismValid_r1 c_l06_MorphismValid_r2 c_l06_MorphismValid_r3 c_l06_MorphismValid_r4 c_l06_MorphismValid c_l06_MorphismSame_r0 c_l06_MorphismSame_r1 c_l06_MorphismSame_r2 c_l06_MorphismSame_r3 c_l06_MorphismSame_r4 c_l06_MorphismSame_r5 c_l06_MorphismSame c_l06_MorphismCompose_r0 c_l06_MorphismCompose_r1 c_l06_MorphismCompose_r2 c_l06_MorphismCompose_r3 c_l06_MorphismCompose_r4 c_l06_MorphismCompose_r5 c_l06_MorphismCompose
section
variable (P : Program) (F : String → Nat)
def K_l06_MorphismValid : Prop := ∀ (a : G) (x : Aw), x.m.sm → FC P (F "l06.MorphismValid") [gD a, awD x] (.bool true) []
def K_l06_MorphismSame : Prop := ∀ (g : G) (m n : Mo), m.sm → n.sm → FC P (F "l06.MorphismSame") [gD g, mD m, mD n] (.bool true) []
def K_l06_MorphismCompose : Prop := ∀ (a : G) (x y : Aw), x.m.sm → y.m.sm → FC P (F "l06.MorphismCompose") [gD a, awD x, awD y] (.bool true) []
end
section
variable {P : Program} {F : String → Nat} {α : Type}
theorem few_len {g : G} (h : few g = true) : g.n.length ≤ 45 ∧ g.e.length ≤ 90 := by
  unfold few at h
  simp only [Bool.and_eq_true, decide_eq_true_eq] at h
  exact h
theorem fewM_len {m : Mo} (h : fewM m 140 = true) : m.n.length ≤ 140 ∧ m.e.length ≤ 140 := by
  unfold fewM at h
  simp only [decide_eq_true_eq] at h
  omega
theorem w_l06_MorphismValid (hw : K_l06_awake P F) (hf : K_l06_few P F) (hc : K_l06_copied P F) (hv : K_morphism_Valid P F) (hv2 : K_r06_Valid P F) (hi : K_morphism_Injective P F) (hi2 : K_r06_Injective P F) (hj : K_morphism_Surjective P F) (hj2 : K_r06_Surjective P F) (a : G) (x : Aw) (hx : x.m.sm) :
    W P (c_l06_MorphismValid F) (Done [.t 4] [] (.bool true) []) (init [gD a, awD x]) := by
  refine W_of ?_
  have rf := hf a [x] (by simp [maxL]) (by simpa using hx)
  have hl : fewA a [x] = true → x.m.n.length ≤ 140 ∧ x.m.e.length ≤ 140 := fun h => by
    simp only [fewA, List.all_cons, List.all_nil, Bool.and_true, fewW, Bool.and_eq_true] at h
    exact fewM_len h.1.2
  have r1 := hv a x.t x.m
  have r2 := hv2 a x.t x.m
  have r3 := hi a x.t x.m
  have r4 := hi2 a x.t x.m hx.1 hx.2
  have r5 := hj a x.t x.m
  have r6 := hj2 a x.t x.m
  have rc := hc x.m
  generalize fewA a [x] = b at *
  generalize validM a x.t x.m = v at *
  generalize injM a x.t x.m = i at *
  generalize surM a x.t x.m = j at *
  simp only [aws, List.map_cons, List.map_nil, awD, gD, mD, mA] at *
  simp (config := { maxSteps := 1000000 }) (disch := first | omega | (simp only [go_sem]; omega)) only [go_sem, ↓reduceIte]
  refine call_by hw ?_
  simp (config := { maxSteps := 1000000 }) (disch := first | omega | (simp only [go_sem]; omega)) only [go_sem, ↓reduceIte]
  refine call_by rf ?_
  cases b
  · simp (config := { maxSteps := 1000000 }) (disch := first | omega | (simp only [go_sem]; omega)) only [go_sem, ↓reduceIte]
    refine call_by hw ?_
    simp (config := { maxSteps := 1000000 }) (disch := first | omega | (simp only [go_sem]; omega)) only [go_sem, ↓reduceIte]
  · obtain ⟨l1, l2⟩ := hl rfl
    have rc := rc (by omega) (by omega)
    simp (config := { maxSteps := 1000000 }) (disch := first | omega | (simp only [go_sem]; omega)) only [go_sem, ↓reduceIte]
    refine call_by rc ?_
    simp (config := { maxSteps := 1000000 }) (disch := first | omega | (simp only [go_sem]; omega)) only [go_sem, ↓reduceIte]
    refine call_by r1 ?_
    simp (config := { maxSteps := 1000000 }) (disch := first | omega | (simp only [go_sem]; omega)) only [go_sem, ↓reduceIte]
    refine call_by r2 ?_
    simp (config := { maxSteps := 1000000 }) (disch := first | omega | (simp only [go_sem]; omega)) only [go_sem, ↓reduceIte]
    refine call_by rc ?_
    simp (config := { maxSteps := 1000000 }) (disch := first | omega | (simp only [go_sem]; omega)) only [go_sem, ↓reduceIte]
    refine call_by r3 ?_
    simp (config := { maxSteps := 1000000 }) (disch := first | omega | (simp only [go_sem]; omega)) only [go_sem, ↓reduceIte]
    refine call_by r4 ?_
    simp (config := { maxSteps := 1000000 }) (disch := first | omega | (simp only [go_sem]; omega)) only [go_sem, ↓reduceIte]
    refine call_by rc ?_
    simp (config := { maxSteps := 1000000 }) (disch := first | omega | (simp only [go_sem]; omega)) only [go_sem, ↓reduceIte]
    refine call_by r5 ?_
    simp (config := { maxSteps := 1000000 }) (disch := first | omega | (simp only [go_sem]; omega)) only [go_sem, ↓reduceIte]
    refine call_by r6 ?_
    simp (config := { maxSteps := 1000000 }) (disch := first | omega | (simp only [go_sem]; omega)) only [go_sem, ↓reduceIte]
    try simp
theorem w_l06_MorphismSame (hw : K_l06_awake P F) (hf : K_r05_Few P F) (hf2 : K_r06_Few P F) (h1 : K_morphism_Identity P F) (h2 : K_r06_Identity P F) (h3 : K_r06_Same P F) (h4 : K_morphism_Same P F) (hc : K_l06_copied P F) (g : G) (m n : Mo) (hm : m.sm) (hn : n.sm) :
    W P (c_l06_MorphismSame F) (Done [.t 6] [] (.bool true) []) (init [gD g, mD m, mD n]) := by
  refine W_of ?_
  have f1 := hf g
  have f2 := hf2 m 140 hm.1 hm.2
  have f3 := hf2 n 140 hn.1 hn.2
  have hl := @fewM_len m
  have r1 := h1 g
  have r2 := h2 g
  have hil : (idE g).1.n.length ≤ 40 ∧ (idE g).1.e.length ≤ 80 := by
    unfold idE
    split
    · simp [m0]
    · rename_i h
      obtain ⟨a1, a2, _⟩ := valid_spec (Decidable.not_not.1 h)
      simp only [idM, nums_len]
      omega
  have r3 := h3 (idE g).1 (idE g).1 (by unfold maxL; omega) (by unfold maxL; omega)
  have r4 := h4 m n hm.1 hm.2
  have r5 := h3 m n hm.1 hm.2
  have r6 := h4 m m hm.1 hm.2
  have rc := hc m
  generalize few g = b1 at *
  generalize fewM m 140 = b2 at *
  generalize fewM n 140 = b3 at *
  generalize idE g = q at *
  obtain ⟨⟨qn, qe⟩, qv⟩ := q
  have hdm : decide (m = m) = true := by simp
  rw [hdm] at r6
  generalize decide (m = n) = dmn at *
  simp only [gD, mD, mA] at *
  simp (config := { maxSteps := 1000000 }) (disch := first | omega | (simp only [go_sem]; omega)) only [go_sem, ↓reduceIte]
  refine call_by hw ?_
  simp (config := { maxSteps := 1000000 }) (disch := first | omega | (simp only [go_sem]; omega)) only [go_sem, ↓reduceIte]
  refine call_by f1 ?_
  cases b1
  · simp (config := { maxSteps := 1000000 }) (disch := first | omega | (simp only [go_sem]; omega)) only [go_sem, ↓reduceIte]
    refine call_by hw ?_
    simp (config := { maxSteps := 1000000 }) (disch := first | omega | (simp only [go_sem]; omega)) only [go_sem, ↓reduceIte]
  · simp (config := { maxSteps := 1000000 }) (disch := first | omega | (simp only [go_sem]; omega)) only [go_sem, ↓reduceIte]
    refine call_by f2 ?_
    cases b2
    · simp (config := { maxSteps := 1000000 }) (disch := first | omega | (simp only [go_sem]; omega)) only [go_sem, ↓reduceIte]
      refine call_by hw ?_
      simp (config := { maxSteps := 1000000 }) (disch := first | omega | (simp only [go_sem]; omega)) only [go_sem, ↓reduceIte]
    · simp (config := { maxSteps := 1000000 }) (disch := first | omega | (simp only [go_sem]; omega)) only [go_sem, ↓reduceIte]
      refine call_by f3 ?_
      cases b3
      · simp (config := { maxSteps := 1000000 }) (disch := first | omega | (simp only [go_sem]; omega)) only [go_sem, ↓reduceIte]
        refine call_by hw ?_
        simp (config := { maxSteps := 1000000 }) (disch := first | omega | (simp only [go_sem]; omega)) only [go_sem, ↓reduceIte]
      · obtain ⟨l1, l2⟩ := hl rfl
        have rc := rc (by omega) (by omega)
        simp (config := { maxSteps := 1000000 }) (disch := first | omega | (simp only [go_sem]; omega)) only [go_sem, ↓reduceIte]
        refine call_by r1 ?_
        simp (config := { maxSteps := 1000000 }) (disch := first | omega | (simp only [go_sem]; omega)) only [go_sem, ↓reduceIte]
        refine call_by r2 ?_
        simp (config := { maxSteps := 1000000 }) (disch := first | omega | (simp only [go_sem]; omega)) only [go_sem, ↓reduceIte]
        refine call_by r3 ?_
        simp (config := { maxSteps := 1000000 }) (disch := first | omega | (simp only [go_sem]; omega)) only [go_sem, ↓reduceIte]
        refine call_by r4 ?_
        simp (config := { maxSteps := 1000000 }) (disch := first | omega | (simp only [go_sem]; omega)) only [go_sem, ↓reduceIte]
        refine call_by r5 ?_
        simp (config := { maxSteps := 1000000 }) (disch := first | omega | (simp only [go_sem]; omega)) only [go_sem, ↓reduceIte]
        refine call_by rc ?_
        simp (config := { maxSteps := 1000000 }) (disch := first | omega | (simp only [go_sem]; omega)) only [go_sem, ↓reduceIte]
        refine call_by r6 ?_
        simp (config := { maxSteps := 1000000 }) (disch := first | omega | (simp only [go_sem]; omega)) only [go_sem, ↓reduceIte]
        try simp
theorem comM_len {a b c : G} {m n : Mo} : (comM a b c m n).1.n.length ≤ 40 ∧ (comM a b c m n).1.e.length ≤ 80 := by
  unfold comM
  split
  · simp [m0]
  · rename_i h
    obtain ⟨h1, h2, _⟩ := validM_len (Decidable.not_not.1 h)
    split
    · simp [m0]
    · simp only [thenM, thr_len]
      omega
theorem w_l06_MorphismCompose (hw : K_l06_awake P F) (hf : K_l06_few P F) (hc : K_l06_copied P F) (h1 : K_morphism_Compose P F) (h2 : K_r06_Compose P F) (h3 : K_r06_Same P F) (a : G) (x y : Aw) (hx : x.m.sm) (hy : y.m.sm) :
    W P (c_l06_MorphismCompose F) (Done [.t 6] [] (.bool true) []) (init [gD a, awD x, awD y]) := by
  refine W_of ?_
  have rf := hf a [x, y] (by simp [maxL]) (by simpa using ⟨hx, hy⟩)
  have hl : fewA a [x, y] = true → (x.m.n.length ≤ 140 ∧ x.m.e.length ≤ 140) ∧ y.m.n.length ≤ 140 ∧ y.m.e.length ≤ 140 := fun h => by
    simp only [fewA, List.all_cons, List.all_nil, Bool.and_true, fewW, Bool.and_eq_true] at h
    exact ⟨fewM_len h.1.1.2, fewM_len h.1.2.2⟩
  have r1 := h1 a x.t y.t x.m y.m
  have r2 := h2 a x.t y.t x.m y.m
  obtain ⟨l1, l2⟩ := @comM_len a x.t y.t x.m y.m
  have r3 := h3 (comM a x.t y.t x.m y.m).1 (comM a x.t y.t x.m y.m).1 (by unfold maxL; omega) (by unfold maxL; omega)
  have rc1 := hc x.m
  have rc2 := hc y.m
  generalize fewA a [x, y] = b at *
  generalize comM a x.t y.t x.m y.m = q at *
  obtain ⟨⟨qn, qe⟩, qv⟩ := q
  simp only [aws, List.map_cons, List.map_nil, awD, gD, mD, mA] at *
  simp (config := { maxSteps := 1000000 }) (disch := first | omega | (simp only [go_sem]; omega)) only [go_sem, ↓reduceIte]
  refine call_by hw ?_
  simp (config := { maxSteps := 1000000 }) (disch := first | omega | (simp only [go_sem]; omega)) only [go_sem, ↓reduceIte]
  refine call_by rf ?_
  cases b
  · simp (config := { maxSteps := 1000000 }) (disch := first | omega | (simp only [go_sem]; omega)) only [go_sem, ↓reduceIte]
    refine call_by hw ?_
    simp (config := { maxSteps := 1000000 }) (disch := first | omega | (simp only [go_sem]; omega)) only [go_sem, ↓reduceIte]
  · obtain ⟨⟨l3, l4⟩, l5, l6⟩ := hl rfl
    have rc1 := rc1 (by omega) (by omega)
    have rc2 := rc2 (by omega) (by omega)
    simp (config := { maxSteps := 1000000 }) (disch := first | omega | (simp only [go_sem]; omega)) only [go_sem, ↓reduceIte]
    refine call_by rc1 ?_
    simp (config := { maxSteps := 1000000 }) (disch := first | omega | (simp only [go_sem]; omega)) only [go_sem, ↓reduceIte]
    refine call_by rc2 ?_
    simp (config := { maxSteps := 1000000 }) (disch := first | omega | (simp only [go_sem]; omega)) only [go_sem, ↓reduceIte]
    refine call_by r1 ?_
    simp (config := { maxSteps := 1000000 }) (disch := first | omega | (simp only [go_sem]; omega)) only [go_sem, ↓reduceIte]
    refine call_by r2 ?_
    simp (config := { maxSteps := 1000000 }) (disch := first | omega | (simp only [go_sem]; omega)) only [go_sem, ↓reduceIte]
    refine call_by r3 ?_
    simp (config := { maxSteps := 1000000 }) (disch := first | omega | (simp only [go_sem]; omega)) only [go_sem, ↓reduceIte]
    try simp
def shAw : Sh := .cat [shG, shM]
theorem rd_arrow {x : D} (h : HasEl shAw x) : ∃ w : Aw, x = awD w ∧ w.m.sm := by
  simp only [shAw, HasEl] at h
  obtain ⟨ds, rfl, h⟩ := h
  obtain ⟨_, _, rfl, h1, h⟩ := hasShs_cat h
  obtain ⟨_, _, rfl, h2, h⟩ := hasShs_cat h
  obtain rfl := hasShs_nil h
  obtain ⟨a, rfl⟩ := rd_gl h1
  obtain ⟨f, rfl, h3⟩ := rd_ml h2
  exact ⟨⟨a, f⟩, rfl, h3⟩
theorem x_l06_MorphismValid (h : K_l06_MorphismValid P F) (args : List D) (ha : HasEls [shG, shAw] args) : FC P (F "l06.MorphismValid") args (.bool true) [] := by
  simp only [HasEls] at ha
  obtain ⟨_, _, rfl, h1, _, _, rfl, h2, rfl⟩ := ha
  obtain ⟨a, rfl⟩ := rd_graph h1
  obtain ⟨x, rfl, k1⟩ := rd_arrow h2
  exact h a x k1
theorem x_l06_MorphismSame (h : K_l06_MorphismSame P F) (args : List D) (ha : HasEls [shG, shM, shM] args) : FC P (F "l06.MorphismSame") args (.bool true) [] := by
  simp only [HasEls] at ha
  obtain ⟨_, _, rfl, h1, _, _, rfl, h2, _, _, rfl, h3, rfl⟩ := ha
  obtain ⟨a, rfl⟩ := rd_graph h1
  obtain ⟨m, rfl, k1⟩ := rd_morph h2
  obtain ⟨n, rfl, k2⟩ := rd_morph h3
  exact h a m n k1 k2
theorem x_l06_MorphismCompose (h : K_l06_MorphismCompose P F) (args : List D) (ha : HasEls [shG, shAw, shAw] args) : FC P (F "l06.MorphismCompose") args (.bool true) [] := by
  simp only [HasEls] at ha
  obtain ⟨_, _, rfl, h1, _, _, rfl, h2, _, _, rfl, h3, rfl⟩ := ha
  obtain ⟨a, rfl⟩ := rd_graph h1
  obtain ⟨x, rfl, k1⟩ := rd_arrow h2
  obtain ⟨y, rfl, k2⟩ := rd_arrow h3
  exact h a x y k1 k2
end
end Go.Am
