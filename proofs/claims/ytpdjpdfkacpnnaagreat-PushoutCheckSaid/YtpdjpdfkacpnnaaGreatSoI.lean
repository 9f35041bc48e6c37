/- The law PushoutCheck. -/
import Derived.Test.YtpdjpdfkacpnnaaGreatSoG
namespace Go.Am
open Go
set_option linter.unusedVariables false
set_option linter.unusedSimpArgs false
attribute [local irreducible] W
/- l10.PushoutCheck -/
def c_l10_PushoutCheck_r0 (F : String → Nat) : List LI := [⟨some 2, .bx (.t 0), none⟩,
  ⟨some 3, .bx (.t 1), none⟩,
  ⟨some 4, .mov (.k (.bool false)), none⟩]
def c_l10_PushoutCheck_r1 (F : String → Nat) : List LI := [⟨some 5, .call (F "l10.awake") [] [], none⟩,
  ⟨some 6, .not (.t 5), none⟩,
  ⟨some 7, .mov (.t 6), none⟩,
  ⟨some 8, .load true 10 (.t 2), some (7, false)⟩,
  ⟨some 9, .call (F "r10.Few") [.t 8] [], some (7, false)⟩,
  ⟨some 10, .not (.t 9), some (7, false)⟩,
  ⟨some 11, .pick (.t 7) (.k (.bool true)) (.t 10), none⟩,
  ⟨some 12, .mov (.t 11), none⟩,
  ⟨some 13, .load true 6 (.t 3), some (12, false)⟩,
  ⟨some 14, .call (F "l10.few") [.t 13] [], some (12, false)⟩,
  ⟨some 15, .not (.t 14), some (12, false)⟩,
  ⟨some 16, .pick (.t 12) (.k (.bool true)) (.t 15), none⟩]
def c_l10_PushoutCheck_r2 (F : String → Nat) : List LI := [⟨some 17, .call (F "l10.awake") [] [], none⟩,
  ⟨some 4, .mov (.t 17), none⟩]
def c_l10_PushoutCheck_r3 (F : String → Nat) : List LI := [⟨some 18, .load true 10 (.t 2), none⟩,
  ⟨some 19, .fad 0 (.t 3), none⟩,
  ⟨some 20, .load true 2 (.t 19), none⟩,
  ⟨some 21, .fad 2 (.t 3), none⟩,
  ⟨some 22, .load true 2 (.t 21), none⟩,
  ⟨some 23, .fad 4 (.t 3), none⟩,
  ⟨some 24, .load true 2 (.t 23), none⟩,
  ⟨some 25, .call (F "pushout.Check") [.t 18, .t 20, .t 22, .t 24] [], none⟩,
  ⟨some 26, .load true 10 (.t 2), none⟩,
  ⟨some 27, .fad 0 (.t 3), none⟩,
  ⟨some 28, .load true 2 (.t 27), none⟩,
  ⟨some 29, .fad 2 (.t 3), none⟩,
  ⟨some 30, .load true 2 (.t 29), none⟩,
  ⟨some 31, .fad 4 (.t 3), none⟩,
  ⟨some 32, .load true 2 (.t 31), none⟩,
  ⟨some 33, .call (F "r10.Check") [.t 26, .t 28, .t 30, .t 32] [], none⟩,
  ⟨some 34, .eqB false (.t 25) (.t 33), none⟩,
  ⟨some 4, .mov (.t 34), none⟩]
def c_l10_PushoutCheck (F : String → Nat) : LC := (.seq (.reg (c_l10_PushoutCheck_r0 F) [2, 3]) (.seq (.seq (.reg (c_l10_PushoutCheck_r1 F) [2, 3, 16]) (.cond (.t 16) (.seq (.reg (c_l10_PushoutCheck_r2 F) [4]) .ret) .skip)) (.seq (.dreg [(7, none, [], true), (8, (some 0), [7], false), (10, (some 512), [7], false), (12, (some 2048), [7], false), (14, (some 8192), [7], false)] (c_l10_PushoutCheck_r3 F) [4]) .ret)))
def h_l10_PushoutCheck : Hints := ⟨[], fun _ => [], tab [(0, [2, 3]), (1, [2, 3, 16]), (2, [4]), (3, [4])], tab []⟩

attribute [go_sem] c_l10_PushoutCheck_r0 c_l10_PushoutCheck_r1 c_l10_PushoutCheck_r2 c_l10_PushoutCheck_r3 c_l10_PushoutCheck
section
variable (P : Program) (F : String → Nat)
def K_l10_PushoutCheck : Prop := ∀ (s : Sp) (x : G) (h k : Mo), s.sm → h.sm → k.sm → FC P (F "l10.PushoutCheck") [spD s, .agg (gL x ++ (moL h ++ moL k))] (.bool true) []
end
section
variable {P : Program} {F : String → Nat} {α : Type}
theorem w_l10_PushoutCheck (hw : K_l10_awake P F) (hf : K_r10_Few P F) (hc : K_l10_few P F) (hk : K_pushout_Check P F) (hk2 : K_r10_Check P F) (s : Sp) (x : G) (h k : Mo) (h1 : s.sm) (h2 : h.sm) (h3 : k.sm) :
    W P (c_l10_PushoutCheck F) (Done [.t 4] [] (.bool true) []) (init [spD s, .agg (gL x ++ (moL h ++ moL k))]) := by
  refine W_of ?_
  have r1 := hf s h1
  have r2 := hc x h k h2 h3
  have r3 := hk s x h k
  have r4 := hk2 s x h k
  generalize fewSp s = b1 at *
  generalize fewC x h k = b2 at *
  generalize chkP s x h k = b3 at *
  simp only [spD, gL, moL, List.cons_append, List.nil_append, gD, mD] at *
  cases b1
  · simp (config := { maxSteps := 1000000 }) (disch := first | omega | (simp only [go_sem]; omega)) only [go_sem, ↓reduceIte]
    refine call_by hw ?_
    simp (config := { maxSteps := 1000000 }) (disch := first | omega | (simp only [go_sem]; omega)) only [go_sem, ↓reduceIte]
    refine call_by r1 ?_
    simp (config := { maxSteps := 1000000 }) (disch := first | omega | (simp only [go_sem]; omega)) only [go_sem, ↓reduceIte]
    refine call_by hw ?_
    simp (config := { maxSteps := 1000000 }) (disch := first | omega | (simp only [go_sem]; omega)) only [go_sem, ↓reduceIte]
  cases b2
  · simp (config := { maxSteps := 1000000 }) (disch := first | omega | (simp only [go_sem]; omega)) only [go_sem, ↓reduceIte]
    refine call_by hw ?_
    simp (config := { maxSteps := 1000000 }) (disch := first | omega | (simp only [go_sem]; omega)) only [go_sem, ↓reduceIte]
    refine call_by r1 ?_
    simp (config := { maxSteps := 1000000 }) (disch := first | omega | (simp only [go_sem]; omega)) only [go_sem, ↓reduceIte]
    refine call_by r2 ?_
    simp (config := { maxSteps := 1000000 }) (disch := first | omega | (simp only [go_sem]; omega)) only [go_sem, ↓reduceIte]
    refine call_by hw ?_
    simp (config := { maxSteps := 1000000 }) (disch := first | omega | (simp only [go_sem]; omega)) only [go_sem, ↓reduceIte]
  simp (config := { maxSteps := 1000000 }) (disch := first | omega | (simp only [go_sem]; omega)) only [go_sem, ↓reduceIte]
  refine call_by hw ?_
  simp (config := { maxSteps := 1000000 }) (disch := first | omega | (simp only [go_sem]; omega)) only [go_sem, ↓reduceIte]
  refine call_by r1 ?_
  simp (config := { maxSteps := 1000000 }) (disch := first | omega | (simp only [go_sem]; omega)) only [go_sem, ↓reduceIte]
  refine call_by r2 ?_
  simp (config := { maxSteps := 1000000 }) (disch := first | omega | (simp only [go_sem]; omega)) only [go_sem, ↓reduceIte]
  refine call_by r3 ?_
  simp (config := { maxSteps := 1000000 }) (disch := first | omega | (simp only [go_sem]; omega)) only [go_sem, ↓reduceIte]
  refine call_by r4 ?_
  simp (config := { maxSteps := 1000000 }) (disch := first | omega | (simp only [go_sem]; omega)) only [go_sem, ↓reduceIte]
  try simp
def shSpZ : Sh := .cat [shG, shG, shG, shM, shM]
def shCcZ : Sh := .cat [shG, shM, shM]
theorem rd_spanZ {x : D} (h : HasEl shSpZ x) : ∃ s : Sp, x = spD s ∧ s.sm := by
  simp only [shSpZ, HasEl] at h
  obtain ⟨ds, rfl, h⟩ := h
  obtain ⟨_, _, rfl, h1, h⟩ := hasShs_cat h
  obtain ⟨_, _, rfl, h2, h⟩ := hasShs_cat h
  obtain ⟨_, _, rfl, h3, h⟩ := hasShs_cat h
  obtain ⟨_, _, rfl, h4, h⟩ := hasShs_cat h
  obtain ⟨_, _, rfl, h5, h⟩ := hasShs_cat h
  obtain rfl := hasShs_nil h
  obtain ⟨b, rfl⟩ := rd_gl h1
  obtain ⟨c, rfl⟩ := rd_gl h2
  obtain ⟨d, rfl⟩ := rd_gl h3
  obtain ⟨f, rfl, h6⟩ := rd_ml h4
  obtain ⟨g, rfl, h7⟩ := rd_ml h5
  exact ⟨⟨b, c, d, f, g⟩, rfl, h6, h7⟩
theorem rd_coconeZ {x : D} (h : HasEl shCcZ x) : ∃ (g : G) (f k : Mo), x = .agg (gL g ++ (moL f ++ moL k)) ∧ f.sm ∧ k.sm := by
  simp only [shCcZ, HasEl] at h
  obtain ⟨ds, rfl, h⟩ := h
  obtain ⟨_, _, rfl, h1, h⟩ := hasShs_cat h
  obtain ⟨_, _, rfl, h2, h⟩ := hasShs_cat h
  obtain ⟨_, _, rfl, h3, h⟩ := hasShs_cat h
  obtain rfl := hasShs_nil h
  obtain ⟨g, rfl⟩ := rd_gl h1
  obtain ⟨f, rfl, h6⟩ := rd_ml h2
  obtain ⟨k, rfl, h7⟩ := rd_ml h3
  exact ⟨g, f, k, by simp, h6, h7⟩
theorem x_l10_PushoutCheck (h : K_l10_PushoutCheck P F) (args : List D) (ha : HasEls [shSpZ, shCcZ] args) : FC P (F "l10.PushoutCheck") args (.bool true) [] := by
  simp only [HasEls] at ha
  obtain ⟨_, _, rfl, h1, _, _, rfl, h2, rfl⟩ := ha
  obtain ⟨s, rfl, k1⟩ := rd_spanZ h1
  obtain ⟨g, f, k, rfl, k2, k3⟩ := rd_coconeZ h2
  exact h s g f k k1 k2 k3
end
end Go.Am
