/- The laws PushoutOf, PushoutMediate, PushoutCoequalizer. -/
import Derived.Test.YtpdjpdfkacpnnaaSoG
import Derived.Test.YtpdjpdfkacpnnaaSmH
namespace Go.Am
open Go
set_option linter.unusedVariables false
set_option linter.unusedSimpArgs false
attribute [local irreducible] W
/- l10.PushoutCoequalizer -/
def c_l10_PushoutCoequalizer_r0 (F : String → Nat) : List LI := [⟨some 2, .bx (.t 0), none⟩,
  ⟨some 3, .bx (.t 1), none⟩,
  ⟨some 4, .mov (.k (.bool false)), none⟩]
def c_l10_PushoutCoequalizer_r1 (F : String → Nat) : List LI := [⟨some 15, .call (F "l10.awake") [] [], none⟩,
  ⟨some 16, .not (.t 15), none⟩,
  ⟨some 17, .mov (.t 16), none⟩,
  ⟨some 18, .load true 2 (.t 2), some (17, false)⟩,
  ⟨some 19, .call (F "r05.Few") [.t 18] [], some (17, false)⟩,
  ⟨some 20, .not (.t 19), some (17, false)⟩,
  ⟨some 21, .pick (.t 17) (.k (.bool true)) (.t 20), none⟩,
  ⟨some 22, .mov (.t 21), none⟩,
  ⟨some 23, .fad 0 (.t 3), some (22, false)⟩,
  ⟨some 24, .load true 2 (.t 23), some (22, false)⟩,
  ⟨some 25, .fad 2 (.t 3), some (22, false)⟩,
  ⟨some 26, .load true 2 (.t 25), some (22, false)⟩,
  ⟨some 27, .fad 4 (.t 3), some (22, false)⟩,
  ⟨some 28, .load true 2 (.t 27), some (22, false)⟩,
  ⟨some 29, .build [.nl 1, .nl 3, .nl 1, .nl 1, .nl 1, .nl 1] [(0, 2, .t 24), (2, 2, .t 26), (4, 2, .t 28)], some (22, false)⟩,
  ⟨some 30, .call (F "l10.few") [.t 29] [], some (22, false)⟩,
  ⟨some 31, .not (.t 30), some (22, false)⟩,
  ⟨some 32, .pick (.t 22) (.k (.bool true)) (.t 31), none⟩]
def c_l10_PushoutCoequalizer_r2 (F : String → Nat) : List LI := [⟨some 33, .call (F "l10.awake") [] [], none⟩,
  ⟨some 4, .mov (.t 33), none⟩]
def c_l10_PushoutCoequalizer_r3 (F : String → Nat) : List LI := [⟨some 35, .load true 2 (.t 2), none⟩,
  ⟨some 36, .fad 0 (.t 3), none⟩,
  ⟨some 37, .load true 2 (.t 36), none⟩,
  ⟨some 38, .fad 2 (.t 3), none⟩,
  ⟨some 39, .load true 2 (.t 38), none⟩,
  ⟨some 40, .fad 4 (.t 3), none⟩,
  ⟨some 41, .load true 2 (.t 40), none⟩,
  ⟨some 42, .call (F "pushout.Coequalizer") [.t 35, .t 37, .t 39, .t 41] [], none⟩,
  ⟨some 34, .mov (.t 42), none⟩,
  ⟨some 43, .ext (.t 34) 0, none⟩,
  ⟨some 44, .ext (.t 34) 1, none⟩,
  ⟨some 45, .ext (.t 34) 2, none⟩,
  ⟨some 5, .alloc [.nl 1, .nl 3], none⟩,
  ⟨some 6, .alloc [.nl 1, .nl 1], none⟩,
  ⟨none, .store 2 (.t 5) (.t 43), none⟩,
  ⟨none, .store 2 (.t 6) (.t 44), none⟩,
  ⟨some 7, .mov (.t 45), none⟩]
def c_l10_PushoutCoequalizer_r4 (F : String → Nat) : List LI := [⟨some 47, .load true 2 (.t 2), none⟩,
  ⟨some 48, .fad 0 (.t 3), none⟩,
  ⟨some 49, .load true 2 (.t 48), none⟩,
  ⟨some 50, .fad 2 (.t 3), none⟩,
  ⟨some 51, .load true 2 (.t 50), none⟩,
  ⟨some 52, .fad 4 (.t 3), none⟩,
  ⟨some 53, .load true 2 (.t 52), none⟩,
  ⟨some 54, .call (F "r10.Coequalizer") [.t 47, .t 49, .t 51, .t 53] [], none⟩,
  ⟨some 46, .mov (.t 54), none⟩,
  ⟨some 55, .ext (.t 46) 0, none⟩,
  ⟨some 56, .ext (.t 46) 1, none⟩,
  ⟨some 57, .ext (.t 46) 2, none⟩,
  ⟨some 8, .alloc [.nl 1, .nl 3], none⟩,
  ⟨some 9, .alloc [.nl 1, .nl 1], none⟩,
  ⟨none, .store 2 (.t 8) (.t 55), none⟩,
  ⟨none, .store 2 (.t 9) (.t 56), none⟩,
  ⟨some 10, .mov (.t 57), none⟩]
def c_l10_PushoutCoequalizer_r5 (F : String → Nat) : List LI := [⟨some 58, .mov (.t 7), none⟩,
  ⟨some 59, .mov (.t 10), none⟩,
  ⟨some 60, .bin .neq (.t 58) (.t 59), none⟩,
  ⟨some 61, .mov (.t 60), none⟩,
  ⟨some 62, .load true 2 (.t 5), some (61, false)⟩,
  ⟨some 63, .load true 2 (.t 8), some (61, false)⟩,
  ⟨some 64, .call (F "r05.Same") [.t 62, .t 63] [], some (61, false)⟩,
  ⟨some 65, .not (.t 64), some (61, false)⟩,
  ⟨some 66, .pick (.t 61) (.k (.bool true)) (.t 65), none⟩,
  ⟨some 67, .mov (.t 66), none⟩,
  ⟨some 68, .load true 2 (.t 6), some (67, false)⟩,
  ⟨some 69, .load true 2 (.t 9), some (67, false)⟩,
  ⟨some 70, .call (F "r06.Same") [.t 68, .t 69] [], some (67, false)⟩,
  ⟨some 71, .not (.t 70), some (67, false)⟩,
  ⟨some 72, .pick (.t 67) (.k (.bool true)) (.t 71), none⟩,
  ⟨some 73, .mov (.t 72), none⟩,
  ⟨some 74, .mov (.t 7), some (73, false)⟩,
  ⟨some 75, .bin .neq (.t 74) (.k (.int .i64 (0))), some (73, false)⟩,
  ⟨some 76, .pick (.t 73) (.k (.bool true)) (.t 75), none⟩]
def c_l10_PushoutCoequalizer_r6 (F : String → Nat) : List LI := [⟨some 77, .mov (.t 7), none⟩,
  ⟨some 78, .mov (.t 10), none⟩,
  ⟨some 79, .bin .eql (.t 77) (.t 78), none⟩,
  ⟨some 80, .mov (.t 79), none⟩,
  ⟨some 81, .load true 2 (.t 5), some (80, true)⟩,
  ⟨some 82, .load true 2 (.t 8), some (80, true)⟩,
  ⟨some 83, .call (F "r05.Same") [.t 81, .t 82] [], some (80, true)⟩,
  ⟨some 84, .pick (.t 80) (.t 83) (.k (.bool false)), none⟩,
  ⟨some 85, .mov (.t 84), none⟩,
  ⟨some 86, .load true 2 (.t 6), some (85, true)⟩,
  ⟨some 87, .load true 2 (.t 9), some (85, true)⟩,
  ⟨some 88, .call (F "r06.Same") [.t 86, .t 87] [], some (85, true)⟩,
  ⟨some 89, .pick (.t 85) (.t 88) (.k (.bool false)), none⟩,
  ⟨some 4, .mov (.t 89), none⟩]
def c_l10_PushoutCoequalizer_r7 (F : String → Nat) : List LI := [⟨some 91, .load true 2 (.t 2), none⟩,
  ⟨some 92, .fad 0 (.t 3), none⟩,
  ⟨some 93, .load true 2 (.t 92), none⟩,
  ⟨some 94, .load true 2 (.t 5), none⟩,
  ⟨some 95, .fad 2 (.t 3), none⟩,
  ⟨some 96, .load true 2 (.t 95), none⟩,
  ⟨some 97, .load true 2 (.t 6), none⟩,
  ⟨some 98, .call (F "morphism.Compose") [.t 91, .t 93, .t 94, .t 96, .t 97] [], none⟩,
  ⟨some 90, .mov (.t 98), none⟩,
  ⟨some 99, .ext (.t 90) 0, none⟩,
  ⟨some 100, .ext (.t 90) 1, none⟩,
  ⟨some 11, .alloc [.nl 1, .nl 1], none⟩,
  ⟨none, .store 2 (.t 11) (.t 99), none⟩,
  ⟨some 12, .mov (.t 100), none⟩]
def c_l10_PushoutCoequalizer_r8 (F : String → Nat) : List LI := [⟨some 102, .load true 2 (.t 2), none⟩,
  ⟨some 103, .fad 0 (.t 3), none⟩,
  ⟨some 104, .load true 2 (.t 103), none⟩,
  ⟨some 105, .load true 2 (.t 5), none⟩,
  ⟨some 106, .fad 4 (.t 3), none⟩,
  ⟨some 107, .load true 2 (.t 106), none⟩,
  ⟨some 108, .load true 2 (.t 6), none⟩,
  ⟨some 109, .call (F "morphism.Compose") [.t 102, .t 104, .t 105, .t 107, .t 108] [], none⟩,
  ⟨some 101, .mov (.t 109), none⟩,
  ⟨some 110, .ext (.t 101) 0, none⟩,
  ⟨some 111, .ext (.t 101) 1, none⟩,
  ⟨some 13, .alloc [.nl 1, .nl 1], none⟩,
  ⟨none, .store 2 (.t 13) (.t 110), none⟩,
  ⟨some 14, .mov (.t 111), none⟩]
def c_l10_PushoutCoequalizer_r9 (F : String → Nat) : List LI := [⟨some 112, .mov (.t 12), none⟩,
  ⟨some 113, .bin .eql (.t 112) (.k (.int .i64 (0))), none⟩,
  ⟨some 114, .mov (.t 113), none⟩,
  ⟨some 115, .mov (.t 14), some (114, true)⟩,
  ⟨some 116, .bin .eql (.t 115) (.k (.int .i64 (0))), some (114, true)⟩,
  ⟨some 117, .pick (.t 114) (.t 116) (.k (.bool false)), none⟩,
  ⟨some 118, .mov (.t 117), none⟩,
  ⟨some 119, .load true 2 (.t 11), some (118, true)⟩,
  ⟨some 120, .load true 2 (.t 13), some (118, true)⟩,
  ⟨some 121, .call (F "r06.Same") [.t 119, .t 120] [], some (118, true)⟩,
  ⟨some 122, .pick (.t 118) (.t 121) (.k (.bool false)), none⟩,
  ⟨some 4, .mov (.t 122), none⟩]
def c_l10_PushoutCoequalizer (F : String → Nat) : LC := (.seq (.reg (c_l10_PushoutCoequalizer_r0 F) [2, 3]) (.seq (.seq (.reg (c_l10_PushoutCoequalizer_r1 F) [2, 3, 32]) (.cond (.t 32) (.seq (.reg (c_l10_PushoutCoequalizer_r2 F) [4]) .ret) .skip)) (.seq (.reg (c_l10_PushoutCoequalizer_r3 F) [2, 3, 5, 6, 7]) (.seq (.reg (c_l10_PushoutCoequalizer_r4 F) [2, 3, 5, 6, 7, 8, 9, 10]) (.seq (.seq (.reg (c_l10_PushoutCoequalizer_r5 F) [2, 3, 5, 6, 7, 8, 9, 10, 76]) (.cond (.t 76) (.seq (.reg (c_l10_PushoutCoequalizer_r6 F) [4]) .ret) .skip)) (.seq (.reg (c_l10_PushoutCoequalizer_r7 F) [2, 3, 5, 6, 11, 12]) (.seq (.reg (c_l10_PushoutCoequalizer_r8 F) [11, 12, 13, 14]) (.seq (.reg (c_l10_PushoutCoequalizer_r9 F) [4]) .ret))))))))
def h_l10_PushoutCoequalizer : Hints := ⟨[], fun _ => [], tab [(0, [2, 3]), (1, [2, 3, 32]), (2, [4]), (3, [2, 3, 5, 6, 7]), (4, [2, 3, 5, 6, 7, 8, 9, 10]), (5, [2, 3, 5, 6, 7, 8, 9, 10, 76]), (6, [4]), (7, [2, 3, 5, 6, 11, 12]), (8, [11, 12, 13, 14]), (9, [4])], tab []⟩

attribute [go_sem] c_l10_PushoutCoequalizer_r0 c_l10_PushoutCoequalizer_r1 c_l10_PushoutCoequalizer_r2 c_l10_PushoutCoequalizer_r3 c_l10_PushoutCoequalizer_r4 c_l10_PushoutCoequalizer_r5 c_l10_PushoutCoequalizer_r6 c_l10_PushoutCoequalizer_r7 c_l10_PushoutCoequalizer_r8 c_l10_PushoutCoequalizer_r9 c_l10_PushoutCoequalizer
section
variable (P : Program) (F : String → Nat)
def K_l10_PushoutCoequalizer : Prop := ∀ (a b : G) (f h : Mo), f.sm → h.sm → FC P (F "l10.PushoutCoequalizer") [gD a, .agg (gL b ++ (moL f ++ moL h))] (.bool true) []
end
section
variable {P : Program} {F : String → Nat} {α : Type}
set_option maxHeartbeats 1000000 in
theorem w_l10_PushoutCoequalizer (hw : K_l10_awake P F) (hf : K_r05_Few P F) (hc : K_l10_few P F) (hm : K_pushout_Coequalizer P F) (hm2 : K_r10_Coequalizer P F) (hg : K_r05_Same P F) (hs : K_r06_Same P F) (hco : K_morphism_Compose P F) (a b : G) (f h : Mo) (h2 : f.sm) (h3 : h.sm) :
    W P (c_l10_PushoutCoequalizer F) (Done [.t 4] [] (.bool true) []) (init [gD a, .agg (gL b ++ (moL f ++ moL h))]) := by
  refine W_of ?_
  have r1 := hf a
  have r2 := hc b f h h2 h3
  have r3 := hm a b f h
  have r4 := hm2 a b f h
  generalize few a = b1 at *
  generalize fewC b f h = b2 at *
  cases b1
  · simp only [gL, moL, List.cons_append, List.nil_append, gD, mD] at *
    simp (config := { maxSteps := 1000000 }) (disch := first | omega | (simp only [go_sem]; omega)) only [go_sem, ↓reduceIte]
    refine call_by hw ?_
    simp (config := { maxSteps := 1000000 }) (disch := first | omega | (simp only [go_sem]; omega)) only [go_sem, ↓reduceIte]
    refine call_by r1 ?_
    simp (config := { maxSteps := 1000000 }) (disch := first | omega | (simp only [go_sem]; omega)) only [go_sem, ↓reduceIte]
    refine call_by hw ?_
    simp (config := { maxSteps := 1000000 }) (disch := first | omega | (simp only [go_sem]; omega)) only [go_sem, ↓reduceIte]
  cases b2
  · simp only [gL, moL, List.cons_append, List.nil_append, gD, mD] at *
    simp (config := { maxSteps := 1000000 }) (disch := first | omega | (simp only [go_sem]; omega)) only [go_sem, ↓reduceIte]
    refine call_by hw ?_
    simp (config := { maxSteps := 1000000 }) (disch := first | omega | (simp only [go_sem]; omega)) only [go_sem, ↓reduceIte]
    refine call_by r1 ?_
    simp (config := { maxSteps := 1000000 }) (disch := first | omega | (simp only [go_sem]; omega)) only [go_sem, ↓reduceIte]
    refine call_by r2 ?_
    simp (config := { maxSteps := 1000000 }) (disch := first | omega | (simp only [go_sem]; omega)) only [go_sem, ↓reduceIte]
    refine call_by hw ?_
    simp (config := { maxSteps := 1000000 }) (disch := first | omega | (simp only [go_sem]; omega)) only [go_sem, ↓reduceIte]
  by_cases c : validM a b f = 0 ∧ validM a b h = 0
  · have hf' := mok.1 c.1
    have hh' := mok.1 c.2
    have hE : coeqM a b f h = (gluG b f h, gluM b f h, 0) := by unfold coeqM; rw [if_neg (by simp [c.1]), if_neg (by simp [c.2])]
    rw [hE] at r3 r4
    have hq := glu_ok hf' hh'
    have v1 := valid_spec hq.va
    have v2 := valid_spec hq.vb
    have v3 := valid_spec hf'.va
    have a1 := hq.ln
    have a2 := hq.le
    have a3 := hf'.ln
    have a4 := hf'.le
    have s1 := hg (gluG b f h) (gluG b f h) (by unfold maxL; omega) (by unfold maxL; omega)
    have s2 := hs (gluM b f h) (gluM b f h) (by unfold maxL; omega) (by unfold maxL; omega)
    have r7 := hco a b (gluG b f h) f (gluM b f h)
    have r8 := hco a b (gluG b f h) h (gluM b f h)
    rw [comM_ok hf' hq] at r7
    rw [comM_ok hh' hq] at r8
    rw [← glu_eq hf' hh'] at r8
    have s3 := hs (thenM f (gluM b f h)) (thenM f (gluM b f h)) (by simp only [thenM, thr_len]; unfold maxL; omega) (by simp only [thenM, thr_len]; unfold maxL; omega)
    clear hq v1 v2 v3 a1 a2 a3 a4 hf' hh' hE c
    generalize thenM f (gluM b f h) = t at *
    generalize gluG b f h = d at *
    generalize gluM b f h = m at *
    obtain ⟨dn, de⟩ := d
    obtain ⟨mn, me⟩ := m
    obtain ⟨tn, te⟩ := t
    simp only [gL, moL, List.cons_append, List.nil_append, gD, mD, gA, mA, coeqD, decide_true] at *
    simp (config := { maxSteps := 1000000 }) (disch := first | omega | (simp only [go_sem]; omega)) only [go_sem, ↓reduceIte]
    refine call_by hw ?_
    simp (config := { maxSteps := 1000000 }) (disch := first | omega | (simp only [go_sem]; omega)) only [go_sem, ↓reduceIte]
    refine call_by r1 ?_
    simp (config := { maxSteps := 1000000 }) (disch := first | omega | (simp only [go_sem]; omega)) only [go_sem, ↓reduceIte]
    refine call_by r2 ?_
    simp (config := { maxSteps := 1000000 }) (disch := first | omega | (simp only [go_sem]; omega)) only [go_sem, ↓reduceIte]
    refine call_by r3 ?_
    simp (config := { maxSteps := 1000000 }) (disch := first | omega | (simp only [go_sem]; omega)) only [go_sem, ↓reduceIte]
    refine call_by r4 ?_
    simp (config := { maxSteps := 1000000 }) (disch := first | omega | (simp only [go_sem]; omega)) only [go_sem, ↓reduceIte]
    refine call_by s1 ?_
    simp (config := { maxSteps := 1000000 }) (disch := first | omega | (simp only [go_sem]; omega)) only [go_sem, ↓reduceIte]
    refine call_by s2 ?_
    simp (config := { maxSteps := 1000000 }) (disch := first | omega | (simp only [go_sem]; omega)) only [go_sem, ↓reduceIte]
    refine call_by r7 ?_
    simp (config := { maxSteps := 1000000 }) (disch := first | omega | (simp only [go_sem]; omega)) only [go_sem, ↓reduceIte]
    refine call_by r8 ?_
    simp (config := { maxSteps := 1000000 }) (disch := first | omega | (simp only [go_sem]; omega)) only [go_sem, ↓reduceIte]
    refine call_by s3 ?_
    simp (config := { maxSteps := 1000000 }) (disch := first | omega | (simp only [go_sem]; omega)) only [go_sem, ↓reduceIte]
  · have hE : ∃ e, e ≠ 0 ∧ coeqM a b f h = (g0, m0, e) := by
      unfold coeqM
      split
      · rename_i e; exact ⟨_, e, rfl⟩
      · rename_i e
        split
        · rename_i e2; exact ⟨_, e2, rfl⟩
        · rename_i e2; exact absurd ⟨Decidable.not_not.1 e, Decidable.not_not.1 e2⟩ c
    obtain ⟨v, hv, hE⟩ := hE
    rw [hE] at r3 r4
    clear hE c
    have s1 := hg g0 g0 (by decide) (by decide)
    have s2 := hs m0 m0 (by decide) (by decide)
    simp only [gL, moL, List.cons_append, List.nil_append, gD, mD, gA, mA, coeqD, g0, m0, decide_true] at *
    simp (config := { maxSteps := 1000000 }) (disch := first | omega | (simp only [go_sem]; omega)) only [go_sem, ↓reduceIte]
    refine call_by hw ?_
    simp (config := { maxSteps := 1000000 }) (disch := first | omega | (simp only [go_sem]; omega)) only [go_sem, ↓reduceIte]
    refine call_by r1 ?_
    simp (config := { maxSteps := 1000000 }) (disch := first | omega | (simp only [go_sem]; omega)) only [go_sem, ↓reduceIte]
    refine call_by r2 ?_
    simp (config := { maxSteps := 1000000 }) (disch := first | omega | (simp only [go_sem]; omega)) only [go_sem, ↓reduceIte]
    refine call_by r3 ?_
    simp (config := { maxSteps := 1000000 }) (disch := first | omega | (simp only [go_sem]; omega)) only [go_sem, ↓reduceIte]
    refine call_by r4 ?_
    simp (config := { maxSteps := 1000000 }) (disch := first | omega | (simp only [go_sem]; omega)) only [go_sem, ↓reduceIte]
    refine call_by s1 ?_
    simp (config := { maxSteps := 1000000 }) (disch := first | omega | (simp only [go_sem]; omega)) only [go_sem, ↓reduceIte]
    refine call_by s2 ?_
    simp (config := { maxSteps := 1000000 }) (disch := first | omega | (simp only [go_sem]; omega)) only [go_sem, ↓reduceIte, hv]
    refine call_by s1 ?_
    simp (config := { maxSteps := 1000000 }) (disch := first | omega | (simp only [go_sem]; omega)) only [go_sem, ↓reduceIte]
    refine call_by s2 ?_
    simp (config := { maxSteps := 1000000 }) (disch := first | omega | (simp only [go_sem]; omega)) only [go_sem, ↓reduceIte]
def shCc : Sh := .cat [shG, shM, shM]
theorem rd_cocone {x : D} (h : HasEl shCc x) : ∃ (g : G) (f k : Mo), x = .agg (gL g ++ (moL f ++ moL k)) ∧ f.sm ∧ k.sm := by
  simp only [shCc, HasEl] at h
  obtain ⟨ds, rfl, h⟩ := h
  obtain ⟨_, _, rfl, h1, h⟩ := hasShs_cat h
  obtain ⟨_, _, rfl, h2, h⟩ := hasShs_cat h
  obtain ⟨_, _, rfl, h3, h⟩ := hasShs_cat h
  obtain rfl := hasShs_nil h
  obtain ⟨g, rfl⟩ := rd_gl h1
  obtain ⟨f, rfl, h6⟩ := rd_ml h2
  obtain ⟨k, rfl, h7⟩ := rd_ml h3
  exact ⟨g, f, k, by simp, h6, h7⟩
theorem x_l10_PushoutCoequalizer (h : K_l10_PushoutCoequalizer P F) (args : List D) (ha : HasEls [shG, shCc] args) : FC P (F "l10.PushoutCoequalizer") args (.bool true) [] := by
  simp only [HasEls] at ha
  obtain ⟨_, _, rfl, h1, _, _, rfl, h2, rfl⟩ := ha
  obtain ⟨s, rfl⟩ := rd_graph h1
  obtain ⟨g, f, k, rfl, k2, k3⟩ := rd_cocone h2
  exact h s g f k k2 k3
end
end Go.Am
