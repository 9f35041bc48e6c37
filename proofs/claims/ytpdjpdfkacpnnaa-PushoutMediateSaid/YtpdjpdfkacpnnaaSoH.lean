/- The laws PushoutOf, PushoutMediate, PushoutCoequalizer. -/
import Derived.Test.YtpdjpdfkacpnnaaSoG
import Derived.Test.YtpdjpdfkacpnnaaSmH
namespace Go.Am
open Go
set_option linter.unusedVariables false
set_option linter.unusedSimpArgs false
attribute [local irreducible] W
/- l10.PushoutMediate -/
def c_l10_PushoutMediate_r0 (F : String → Nat) : List LI := [⟨some 2, .bx (.t 0), none⟩,
  ⟨some 3, .bx (.t 1), none⟩,
  ⟨some 4, .mov (.k (.bool false)), none⟩]
def c_l10_PushoutMediate_r1 (F : String → Nat) : List LI := [⟨some 17, .call (F "l10.awake") [] [], none⟩,
  ⟨some 18, .not (.t 17), none⟩,
  ⟨some 19, .mov (.t 18), none⟩,
  ⟨some 20, .load true 10 (.t 2), some (19, false)⟩,
  ⟨some 21, .call (F "r10.Few") [.t 20] [], some (19, false)⟩,
  ⟨some 22, .not (.t 21), some (19, false)⟩,
  ⟨some 23, .pick (.t 19) (.k (.bool true)) (.t 22), none⟩,
  ⟨some 24, .mov (.t 23), none⟩,
  ⟨some 25, .load true 6 (.t 3), some (24, false)⟩,
  ⟨some 26, .call (F "l10.few") [.t 25] [], some (24, false)⟩,
  ⟨some 27, .not (.t 26), some (24, false)⟩,
  ⟨some 28, .pick (.t 24) (.k (.bool true)) (.t 27), none⟩]
def c_l10_PushoutMediate_r2 (F : String → Nat) : List LI := [⟨some 29, .call (F "l10.awake") [] [], none⟩,
  ⟨some 4, .mov (.t 29), none⟩]
def c_l10_PushoutMediate_r3 (F : String → Nat) : List LI := [⟨some 31, .load true 10 (.t 2), none⟩,
  ⟨some 32, .fad 0 (.t 3), none⟩,
  ⟨some 33, .load true 2 (.t 32), none⟩,
  ⟨some 34, .fad 2 (.t 3), none⟩,
  ⟨some 35, .load true 2 (.t 34), none⟩,
  ⟨some 36, .fad 4 (.t 3), none⟩,
  ⟨some 37, .load true 2 (.t 36), none⟩,
  ⟨some 38, .call (F "pushout.Mediate") [.t 31, .t 33, .t 35, .t 37] [], none⟩,
  ⟨some 30, .mov (.t 38), none⟩,
  ⟨some 39, .ext (.t 30) 0, none⟩,
  ⟨some 40, .ext (.t 30) 1, none⟩,
  ⟨some 5, .alloc [.nl 1, .nl 1], none⟩,
  ⟨none, .store 2 (.t 5) (.t 39), none⟩,
  ⟨some 6, .mov (.t 40), none⟩]
def c_l10_PushoutMediate_r4 (F : String → Nat) : List LI := [⟨some 42, .load true 10 (.t 2), none⟩,
  ⟨some 43, .fad 0 (.t 3), none⟩,
  ⟨some 44, .load true 2 (.t 43), none⟩,
  ⟨some 45, .fad 2 (.t 3), none⟩,
  ⟨some 46, .load true 2 (.t 45), none⟩,
  ⟨some 47, .fad 4 (.t 3), none⟩,
  ⟨some 48, .load true 2 (.t 47), none⟩,
  ⟨some 49, .call (F "r10.Mediate") [.t 42, .t 44, .t 46, .t 48] [], none⟩,
  ⟨some 41, .mov (.t 49), none⟩,
  ⟨some 50, .ext (.t 41) 0, none⟩,
  ⟨some 51, .ext (.t 41) 1, none⟩,
  ⟨some 7, .alloc [.nl 1, .nl 1], none⟩,
  ⟨none, .store 2 (.t 7) (.t 50), none⟩,
  ⟨some 8, .mov (.t 51), none⟩]
def c_l10_PushoutMediate_r5 (F : String → Nat) : List LI := [⟨some 52, .mov (.t 6), none⟩,
  ⟨some 53, .mov (.t 8), none⟩,
  ⟨some 54, .bin .neq (.t 52) (.t 53), none⟩,
  ⟨some 55, .mov (.t 54), none⟩,
  ⟨some 56, .load true 2 (.t 5), some (55, false)⟩,
  ⟨some 57, .load true 2 (.t 7), some (55, false)⟩,
  ⟨some 58, .call (F "r06.Same") [.t 56, .t 57] [], some (55, false)⟩,
  ⟨some 59, .not (.t 58), some (55, false)⟩,
  ⟨some 60, .pick (.t 55) (.k (.bool true)) (.t 59), none⟩,
  ⟨some 61, .mov (.t 60), none⟩,
  ⟨some 62, .mov (.t 6), some (61, false)⟩,
  ⟨some 63, .bin .neq (.t 62) (.k (.int .i64 (0))), some (61, false)⟩,
  ⟨some 64, .pick (.t 61) (.k (.bool true)) (.t 63), none⟩]
def c_l10_PushoutMediate_r6 (F : String → Nat) : List LI := [⟨some 65, .mov (.t 6), none⟩,
  ⟨some 66, .mov (.t 8), none⟩,
  ⟨some 67, .bin .eql (.t 65) (.t 66), none⟩,
  ⟨some 68, .mov (.t 67), none⟩,
  ⟨some 69, .load true 2 (.t 5), some (68, true)⟩,
  ⟨some 70, .load true 2 (.t 7), some (68, true)⟩,
  ⟨some 71, .call (F "r06.Same") [.t 69, .t 70] [], some (68, true)⟩,
  ⟨some 72, .pick (.t 68) (.t 71) (.k (.bool false)), none⟩,
  ⟨some 4, .mov (.t 72), none⟩]
def c_l10_PushoutMediate_r7 (F : String → Nat) : List LI := [⟨some 74, .load true 10 (.t 2), none⟩,
  ⟨some 75, .call (F "pushout.Of") [.t 74] [], none⟩,
  ⟨some 73, .mov (.t 75), none⟩,
  ⟨some 76, .ext (.t 73) 0, none⟩,
  ⟨some 77, .ext (.t 73) 1, none⟩,
  ⟨some 78, .ext (.t 73) 2, none⟩,
  ⟨some 79, .ext (.t 73) 3, none⟩,
  ⟨some 9, .alloc [.nl 1, .nl 3], none⟩,
  ⟨some 10, .alloc [.nl 1, .nl 1], none⟩,
  ⟨some 11, .alloc [.nl 1, .nl 1], none⟩,
  ⟨none, .store 2 (.t 9) (.t 76), none⟩,
  ⟨none, .store 2 (.t 10) (.t 77), none⟩,
  ⟨none, .store 2 (.t 11) (.t 78), none⟩,
  ⟨some 12, .mov (.t 79), none⟩]
def c_l10_PushoutMediate_r8 (F : String → Nat) : List LI := [⟨some 81, .fad 2 (.t 2), none⟩,
  ⟨some 82, .load true 2 (.t 81), none⟩,
  ⟨some 83, .load true 2 (.t 9), none⟩,
  ⟨some 84, .fad 0 (.t 3), none⟩,
  ⟨some 85, .load true 2 (.t 84), none⟩,
  ⟨some 86, .load true 2 (.t 10), none⟩,
  ⟨some 87, .load true 2 (.t 5), none⟩,
  ⟨some 88, .call (F "morphism.Compose") [.t 82, .t 83, .t 85, .t 86, .t 87] [], none⟩,
  ⟨some 80, .mov (.t 88), none⟩,
  ⟨some 89, .ext (.t 80) 0, none⟩,
  ⟨some 90, .ext (.t 80) 1, none⟩,
  ⟨some 13, .alloc [.nl 1, .nl 1], none⟩,
  ⟨none, .store 2 (.t 13) (.t 89), none⟩,
  ⟨some 14, .mov (.t 90), none⟩]
def c_l10_PushoutMediate_r9 (F : String → Nat) : List LI := [⟨some 92, .fad 4 (.t 2), none⟩,
  ⟨some 93, .load true 2 (.t 92), none⟩,
  ⟨some 94, .load true 2 (.t 9), none⟩,
  ⟨some 95, .fad 0 (.t 3), none⟩,
  ⟨some 96, .load true 2 (.t 95), none⟩,
  ⟨some 97, .load true 2 (.t 11), none⟩,
  ⟨some 98, .load true 2 (.t 5), none⟩,
  ⟨some 99, .call (F "morphism.Compose") [.t 93, .t 94, .t 96, .t 97, .t 98] [], none⟩,
  ⟨some 91, .mov (.t 99), none⟩,
  ⟨some 100, .ext (.t 91) 0, none⟩,
  ⟨some 101, .ext (.t 91) 1, none⟩,
  ⟨some 15, .alloc [.nl 1, .nl 1], none⟩,
  ⟨none, .store 2 (.t 15) (.t 100), none⟩,
  ⟨some 16, .mov (.t 101), none⟩]
def c_l10_PushoutMediate_r10 (F : String → Nat) : List LI := [⟨some 102, .mov (.t 12), none⟩,
  ⟨some 103, .bin .eql (.t 102) (.k (.int .i64 (0))), none⟩,
  ⟨some 104, .mov (.t 103), none⟩,
  ⟨some 105, .mov (.t 14), some (104, true)⟩,
  ⟨some 106, .bin .eql (.t 105) (.k (.int .i64 (0))), some (104, true)⟩,
  ⟨some 107, .pick (.t 104) (.t 106) (.k (.bool false)), none⟩,
  ⟨some 108, .mov (.t 107), none⟩,
  ⟨some 109, .mov (.t 16), some (108, true)⟩,
  ⟨some 110, .bin .eql (.t 109) (.k (.int .i64 (0))), some (108, true)⟩,
  ⟨some 111, .pick (.t 108) (.t 110) (.k (.bool false)), none⟩,
  ⟨some 112, .mov (.t 111), none⟩,
  ⟨some 113, .load true 2 (.t 13), some (112, true)⟩,
  ⟨some 114, .fad 2 (.t 3), some (112, true)⟩,
  ⟨some 115, .load true 2 (.t 114), some (112, true)⟩,
  ⟨some 116, .call (F "r06.Same") [.t 113, .t 115] [], some (112, true)⟩,
  ⟨some 117, .pick (.t 112) (.t 116) (.k (.bool false)), none⟩,
  ⟨some 118, .mov (.t 117), none⟩,
  ⟨some 119, .load true 2 (.t 15), some (118, true)⟩,
  ⟨some 120, .fad 4 (.t 3), some (118, true)⟩,
  ⟨some 121, .load true 2 (.t 120), some (118, true)⟩,
  ⟨some 122, .call (F "r06.Same") [.t 119, .t 121] [], some (118, true)⟩,
  ⟨some 123, .pick (.t 118) (.t 122) (.k (.bool false)), none⟩,
  ⟨some 4, .mov (.t 123), none⟩]
def c_l10_PushoutMediate (F : String → Nat) : LC := (.seq (.reg (c_l10_PushoutMediate_r0 F) [2, 3]) (.seq (.seq (.reg (c_l10_PushoutMediate_r1 F) [2, 3, 28]) (.cond (.t 28) (.seq (.reg (c_l10_PushoutMediate_r2 F) [4]) .ret) .skip)) (.seq (.reg (c_l10_PushoutMediate_r3 F) [2, 3, 5, 6]) (.seq (.reg (c_l10_PushoutMediate_r4 F) [2, 3, 5, 6, 7, 8]) (.seq (.seq (.reg (c_l10_PushoutMediate_r5 F) [2, 3, 5, 6, 7, 8, 64]) (.cond (.t 64) (.seq (.reg (c_l10_PushoutMediate_r6 F) [4]) .ret) .skip)) (.seq (.reg (c_l10_PushoutMediate_r7 F) [2, 3, 5, 9, 10, 11, 12]) (.seq (.reg (c_l10_PushoutMediate_r8 F) [2, 3, 5, 9, 11, 12, 13, 14]) (.seq (.reg (c_l10_PushoutMediate_r9 F) [3, 12, 13, 14, 15, 16]) (.seq (.reg (c_l10_PushoutMediate_r10 F) [4]) .ret)))))))))
def h_l10_PushoutMediate : Hints := ⟨[], fun _ => [], tab [(0, [2, 3]), (1, [2, 3, 28]), (2, [4]), (3, [2, 3, 5, 6]), (4, [2, 3, 5, 6, 7, 8]), (5, [2, 3, 5, 6, 7, 8, 64]), (6, [4]), (7, [2, 3, 5, 9, 10, 11, 12]), (8, [2, 3, 5, 9, 11, 12, 13, 14]), (9, [3, 12, 13, 14, 15, 16]), (10, [4])], tab []⟩

attribute [go_sem] c_l10_PushoutMediate_r0 c_l10_PushoutMediate_r1 c_l10_PushoutMediate_r2 c_l10_PushoutMediate_r3 c_l10_PushoutMediate_r4 c_l10_PushoutMediate_r5 c_l10_PushoutMediate_r6 c_l10_PushoutMediate_r7 c_l10_PushoutMediate_r8 c_l10_PushoutMediate_r9 c_l10_PushoutMediate_r10 c_l10_PushoutMediate
section
variable (P : Program) (F : String → Nat)
def K_l10_PushoutMediate : Prop := ∀ (s : Sp) (x : G) (h k : Mo), s.sm → h.sm → k.sm → FC P (F "l10.PushoutMediate") [spD s, .agg (gL x ++ (moL h ++ moL k))] (.bool true) []
end
section
variable {P : Program} {F : String → Nat} {α : Type}
set_option maxHeartbeats 1000000 in
theorem w_l10_PushoutMediate (hw : K_l10_awake P F) (hf : K_r10_Few P F) (hc : K_l10_few P F) (hm : K_pushout_Mediate P F) (hm2 : K_r10_Mediate P F) (hs : K_r06_Same P F) (ho : K_pushout_Of P F) (hco : K_morphism_Compose P F) (s : Sp) (x : G) (h k : Mo) (h1 : s.sm) (h2 : h.sm) (h3 : k.sm) :
    W P (c_l10_PushoutMediate F) (Done [.t 4] [] (.bool true) []) (init [spD s, .agg (gL x ++ (moL h ++ moL k))]) := by
  refine W_of ?_
  have r1 := hf s h1
  have r2 := hc x h k h2 h3
  have r3 := hm s x h k
  have r4 := hm2 s x h k
  generalize fewSp s = b1 at *
  generalize fewC x h k = b2 at *
  cases b1
  · simp only [spD, gL, moL, List.cons_append, List.nil_append, gD, mD] at *
    simp (config := { maxSteps := 1000000 }) (disch := first | omega | (simp only [go_sem]; omega)) only [go_sem, ↓reduceIte]
    refine call_by hw ?_
    simp (config := { maxSteps := 1000000 }) (disch := first | omega | (simp only [go_sem]; omega)) only [go_sem, ↓reduceIte]
    refine call_by r1 ?_
    simp (config := { maxSteps := 1000000 }) (disch := first | omega | (simp only [go_sem]; omega)) only [go_sem, ↓reduceIte]
    refine call_by hw ?_
    simp (config := { maxSteps := 1000000 }) (disch := first | omega | (simp only [go_sem]; omega)) only [go_sem, ↓reduceIte]
  cases b2
  · simp only [spD, gL, moL, List.cons_append, List.nil_append, gD, mD] at *
    simp (config := { maxSteps := 1000000 }) (disch := first | omega | (simp only [go_sem]; omega)) only [go_sem, ↓reduceIte]
    refine call_by hw ?_
    simp (config := { maxSteps := 1000000 }) (disch := first | omega | (simp only [go_sem]; omega)) only [go_sem, ↓reduceIte]
    refine call_by r1 ?_
    simp (config := { maxSteps := 1000000 }) (disch := first | omega | (simp only [go_sem]; omega)) only [go_sem, ↓reduceIte]
    refine call_by r2 ?_
    simp (config := { maxSteps := 1000000 }) (disch := first | omega | (simp only [go_sem]; omega)) only [go_sem, ↓reduceIte]
    refine call_by hw ?_
    simp (config := { maxSteps := 1000000 }) (disch := first | omega | (simp only [go_sem]; omega)) only [go_sem, ↓reduceIte]
  by_cases c : cocE s x h k = 0
  · rw [coc_ok c] at r3 r4
    obtain ⟨h4, h5, h6⟩ := medU_ok c
    obtain ⟨hk1, hk2, hk3, _⟩ := cocE_ok.1 c
    have v1 := valid_spec h4.va
    have v2 := valid_spec hk2.va
    have v3 := valid_spec hk3.va
    have a1 := h4.ln
    have a2 := h4.le
    have a3 := hk2.ln
    have a4 := hk2.le
    have a5 := hk3.ln
    have a6 := hk3.le
    have r5 := hs (medU s h k) (medU s h k) (by unfold maxL; omega) (by unfold maxL; omega)
    have r6 := ho s
    rw [poR_ok hk1] at r6
    have r7 := hco s.b (poG s) x (poP s) (medU s h k)
    have r8 := hco s.c (poG s) x (poK s) (medU s h k)
    rw [comM_ok hk1.p h4, h5] at r7
    rw [comM_ok hk1.k h4, h6] at r8
    have r9 := hs h h (by unfold maxL; omega) (by unfold maxL; omega)
    have ra := hs k k (by unfold maxL; omega) (by unfold maxL; omega)
    clear h4 h5 h6 hk1 hk2 hk3 v1 v2 v3 a1 a2 a3 a4 a5 a6 c
    generalize medU s h k = u at *
    generalize poG s = d at *
    generalize poP s = pp at *
    generalize poK s = kk at *
    obtain ⟨dn, de⟩ := d
    obtain ⟨pn, pe⟩ := pp
    obtain ⟨kn, ke⟩ := kk
    obtain ⟨un, ue⟩ := u
    simp only [spD, gL, moL, List.cons_append, List.nil_append, gD, mD, gA, mA, poD, decide_true] at *
    simp (config := { maxSteps := 1000000 }) (disch := first | omega | (simp only [go_sem]; omega)) only [go_sem, ↓reduceIte]
    refine call_by hw ?_
    simp (config := { maxSteps := 1000000 }) (disch := first | omega | (simp only [go_sem]; omega)) only [go_sem, ↓reduceIte]
    refine call_by r1 ?_
    simp (config := { maxSteps := 1000000 }) (disch := first | omega | (simp only [go_sem]; omega)) only [go_sem, ↓reduceIte]
    refine call_by r2 ?_
    simp (config := { maxSteps := 1000000 }) (disch := first | omega | (simp only [go_sem]; omega)) only [go_sem, ↓reduceIte]
    refine call_by r3 ?_
    simp (config := { maxSteps := 1000000 }) (disch := first | omega | (simp only [go_sem]; omega)) only [go_sem, ↓reduceIte]
    refine call_by r4 ?_
    simp (config := { maxSteps := 1000000 }) (disch := first | omega | (simp only [go_sem]; omega)) only [go_sem, ↓reduceIte]
    refine call_by r5 ?_
    simp (config := { maxSteps := 1000000 }) (disch := first | omega | (simp only [go_sem]; omega)) only [go_sem, ↓reduceIte]
    refine call_by r6 ?_
    simp (config := { maxSteps := 1000000 }) (disch := first | omega | (simp only [go_sem]; omega)) only [go_sem, ↓reduceIte]
    refine call_by r7 ?_
    simp (config := { maxSteps := 1000000 }) (disch := first | omega | (simp only [go_sem]; omega)) only [go_sem, ↓reduceIte]
    refine call_by r8 ?_
    simp (config := { maxSteps := 1000000 }) (disch := first | omega | (simp only [go_sem]; omega)) only [go_sem, ↓reduceIte]
    refine call_by r9 ?_
    simp (config := { maxSteps := 1000000 }) (disch := first | omega | (simp only [go_sem]; omega)) only [go_sem, ↓reduceIte]
    refine call_by ra ?_
    simp (config := { maxSteps := 1000000 }) (disch := first | omega | (simp only [go_sem]; omega)) only [go_sem, ↓reduceIte]
  · rw [coc_bad c] at r3 r4
    have r5 := hs m0 m0 (by decide) (by decide)
    generalize cocE s x h k = v at *
    simp only [spD, gL, moL, List.cons_append, List.nil_append, gD, mD, gA, mA, m0, decide_true] at *
    simp (config := { maxSteps := 1000000 }) (disch := first | omega | (simp only [go_sem]; omega)) only [go_sem, ↓reduceIte]
    refine call_by hw ?_
    simp (config := { maxSteps := 1000000 }) (disch := first | omega | (simp only [go_sem]; omega)) only [go_sem, ↓reduceIte]
    refine call_by r1 ?_
    simp (config := { maxSteps := 1000000 }) (disch := first | omega | (simp only [go_sem]; omega)) only [go_sem, ↓reduceIte]
    refine call_by r2 ?_
    simp (config := { maxSteps := 1000000 }) (disch := first | omega | (simp only [go_sem]; omega)) only [go_sem, ↓reduceIte]
    refine call_by r3 ?_
    simp (config := { maxSteps := 1000000 }) (disch := first | omega | (simp only [go_sem]; omega)) only [go_sem, ↓reduceIte]
    refine call_by r4 ?_
    simp (config := { maxSteps := 1000000 }) (disch := first | omega | (simp only [go_sem]; omega)) only [go_sem, ↓reduceIte]
    refine call_by r5 ?_
    simp (config := { maxSteps := 1000000 }) (disch := first | omega | (simp only [go_sem]; omega)) only [go_sem, ↓reduceIte, c]
    refine call_by r5 ?_
    simp (config := { maxSteps := 1000000 }) (disch := first | omega | (simp only [go_sem]; omega)) only [go_sem, ↓reduceIte]
def shSp : Sh := .cat [shG, shG, shG, shM, shM]
def shCc : Sh := .cat [shG, shM, shM]
theorem rd_span {x : D} (h : HasEl shSp x) : ∃ s : Sp, x = spD s ∧ s.sm := by
  simp only [shSp, HasEl] at h
  obtain ⟨ds, rfl, h⟩ := h
  obtain ⟨_, _, rfl, h1, h⟩ := hasShs_cat h
  obtain ⟨_, _, rfl, h2, h⟩ := hasShs_cat h
  obtain ⟨_, _, rfl, h3, h⟩ := hasShs_cat h
  obtain ⟨_, _, rfl, h4, h⟩ := hasShs_cat h
  obtain ⟨_, _, rfl, h5, h⟩ := hasShs_cat h
  obtain rfl := hasShs_nil h
  obtain ⟨b, rfl⟩ := rd_gl h1
  obtain ⟨c, rfl⟩ := rd_gl h2
  obtain ⟨d, rfl⟩ := rd_gl h3
  obtain ⟨f, rfl, h6⟩ := rd_ml h4
  obtain ⟨g, rfl, h7⟩ := rd_ml h5
  exact ⟨⟨b, c, d, f, g⟩, rfl, h6, h7⟩
theorem rd_cocone {x : D} (h : HasEl shCc x) : ∃ (g : G) (f k : Mo), x = .agg (gL g ++ (moL f ++ moL k)) ∧ f.sm ∧ k.sm := by
  simp only [shCc, HasEl] at h
  obtain ⟨ds, rfl, h⟩ := h
  obtain ⟨_, _, rfl, h1, h⟩ := hasShs_cat h
  obtain ⟨_, _, rfl, h2, h⟩ := hasShs_cat h
  obtain ⟨_, _, rfl, h3, h⟩ := hasShs_cat h
  obtain rfl := hasShs_nil h
  obtain ⟨g, rfl⟩ := rd_gl h1
  obtain ⟨f, rfl, h6⟩ := rd_ml h2
  obtain ⟨k, rfl, h7⟩ := rd_ml h3
  exact ⟨g, f, k, by simp, h6, h7⟩
theorem x_l10_PushoutMediate (h : K_l10_PushoutMediate P F) (args : List D) (ha : HasEls [shSp, shCc] args) : FC P (F "l10.PushoutMediate") args (.bool true) [] := by
  simp only [HasEls] at ha
  obtain ⟨_, _, rfl, h1, _, _, rfl, h2, rfl⟩ := ha
  obtain ⟨s, rfl, k1⟩ := rd_span h1
  obtain ⟨g, f, k, rfl, k2, k3⟩ := rd_cocone h2
  exact h s g f k k1 k2 k3
end
end Go.Am
