/- The laws PushoutOf, PushoutMediate, PushoutCoequalizer. -/
import Derived.Test.YtpdjpdfkacpnnaaSoG
import Derived.Test.YtpdjpdfkacpnnaaSmH
namespace Go.Am
open Go
set_option linter.unusedVariables false
set_option linter.unusedSimpArgs false
attribute [local irreducible] W
/- l10.PushoutOf -/
def c_l10_PushoutOf_r0 (F : String → Nat) : List LI := [⟨some 1, .bx (.t 0), none⟩,
  ⟨some 2, .mov (.k (.bool false)), none⟩]
def c_l10_PushoutOf_r1 (F : String → Nat) : List LI := [⟨some 11, .call (F "l10.awake") [] [], none⟩,
  ⟨some 12, .not (.t 11), none⟩,
  ⟨some 13, .mov (.t 12), none⟩,
  ⟨some 14, .load true 10 (.t 1), some (13, false)⟩,
  ⟨some 15, .call (F "r10.Few") [.t 14] [], some (13, false)⟩,
  ⟨some 16, .not (.t 15), some (13, false)⟩,
  ⟨some 17, .pick (.t 13) (.k (.bool true)) (.t 16), none⟩]
def c_l10_PushoutOf_r2 (F : String → Nat) : List LI := [⟨some 18, .call (F "l10.awake") [] [], none⟩,
  ⟨some 2, .mov (.t 18), none⟩]
def c_l10_PushoutOf_r3 (F : String → Nat) : List LI := [⟨some 20, .load true 10 (.t 1), none⟩,
  ⟨some 21, .call (F "pushout.Of") [.t 20] [], none⟩,
  ⟨some 19, .mov (.t 21), none⟩,
  ⟨some 22, .ext (.t 19) 0, none⟩,
  ⟨some 23, .ext (.t 19) 1, none⟩,
  ⟨some 24, .ext (.t 19) 2, none⟩,
  ⟨some 25, .ext (.t 19) 3, none⟩,
  ⟨some 3, .alloc [.nl 1, .nl 3], none⟩,
  ⟨some 4, .alloc [.nl 1, .nl 1], none⟩,
  ⟨some 5, .alloc [.nl 1, .nl 1], none⟩,
  ⟨none, .store 2 (.t 3) (.t 22), none⟩,
  ⟨none, .store 2 (.t 4) (.t 23), none⟩,
  ⟨none, .store 2 (.t 5) (.t 24), none⟩,
  ⟨some 6, .mov (.t 25), none⟩]
def c_l10_PushoutOf_r4 (F : String → Nat) : List LI := [⟨some 27, .load true 10 (.t 1), none⟩,
  ⟨some 28, .call (F "r10.Of") [.t 27] [], none⟩,
  ⟨some 26, .mov (.t 28), none⟩,
  ⟨some 29, .ext (.t 26) 0, none⟩,
  ⟨some 30, .ext (.t 26) 1, none⟩,
  ⟨some 31, .ext (.t 26) 2, none⟩,
  ⟨some 32, .ext (.t 26) 3, none⟩,
  ⟨some 7, .alloc [.nl 1, .nl 3], none⟩,
  ⟨some 8, .alloc [.nl 1, .nl 1], none⟩,
  ⟨some 9, .alloc [.nl 1, .nl 1], none⟩,
  ⟨none, .store 2 (.t 7) (.t 29), none⟩,
  ⟨none, .store 2 (.t 8) (.t 30), none⟩,
  ⟨none, .store 2 (.t 9) (.t 31), none⟩,
  ⟨some 10, .mov (.t 32), none⟩]
def c_l10_PushoutOf_r5 (F : String → Nat) : List LI := [⟨some 33, .mov (.t 6), none⟩,
  ⟨some 34, .mov (.t 10), none⟩,
  ⟨some 35, .bin .eql (.t 33) (.t 34), none⟩,
  ⟨some 36, .mov (.t 35), none⟩,
  ⟨some 37, .load true 2 (.t 3), some (36, true)⟩,
  ⟨some 38, .load true 2 (.t 7), some (36, true)⟩,
  ⟨some 39, .call (F "r05.Same") [.t 37, .t 38] [], some (36, true)⟩,
  ⟨some 40, .pick (.t 36) (.t 39) (.k (.bool false)), none⟩,
  ⟨some 41, .mov (.t 40), none⟩,
  ⟨some 42, .load true 2 (.t 4), some (41, true)⟩,
  ⟨some 43, .load true 2 (.t 8), some (41, true)⟩,
  ⟨some 44, .call (F "r06.Same") [.t 42, .t 43] [], some (41, true)⟩,
  ⟨some 45, .pick (.t 41) (.t 44) (.k (.bool false)), none⟩,
  ⟨some 46, .mov (.t 45), none⟩,
  ⟨some 47, .load true 2 (.t 5), some (46, true)⟩,
  ⟨some 48, .load true 2 (.t 9), some (46, true)⟩,
  ⟨some 49, .call (F "r06.Same") [.t 47, .t 48] [], some (46, true)⟩,
  ⟨some 50, .pick (.t 46) (.t 49) (.k (.bool false)), none⟩,
  ⟨some 51, .mov (.t 50), none⟩,
  ⟨some 52, .mov (.t 6), some (51, true)⟩,
  ⟨some 53, .bin .neq (.t 52) (.k (.int .i64 (0))), some (51, true)⟩,
  ⟨some 54, .mov (.t 53), some (51, true)⟩,
  ⟨some 55, .load true 10 (.t 1), some (54, false)⟩,
  ⟨some 56, .load true 2 (.t 3), some (54, false)⟩,
  ⟨some 57, .load true 2 (.t 4), some (54, false)⟩,
  ⟨some 58, .load true 2 (.t 5), some (54, false)⟩,
  ⟨some 59, .call (F "pushout.Check") [.t 55, .t 56, .t 57, .t 58] [], some (54, false)⟩,
  ⟨some 60, .pick (.t 54) (.k (.bool true)) (.t 59), some (51, true)⟩,
  ⟨some 61, .pick (.t 51) (.t 60) (.k (.bool false)), none⟩,
  ⟨some 2, .mov (.t 61), none⟩]
def c_l10_PushoutOf (F : String → Nat) : LC := (.seq (.reg (c_l10_PushoutOf_r0 F) [1]) (.seq (.seq (.reg (c_l10_PushoutOf_r1 F) [1, 17]) (.cond (.t 17) (.seq (.reg (c_l10_PushoutOf_r2 F) [2]) .ret) .skip)) (.seq (.reg (c_l10_PushoutOf_r3 F) [1, 3, 4, 5, 6]) (.seq (.reg (c_l10_PushoutOf_r4 F) [1, 3, 4, 5, 6, 7, 8, 9, 10]) (.seq (.reg (c_l10_PushoutOf_r5 F) [2]) .ret)))))
def h_l10_PushoutOf : Hints := ⟨[], fun _ => [], tab [(0, [1]), (1, [1, 17]), (2, [2]), (3, [1, 3, 4, 5, 6]), (4, [1, 3, 4, 5, 6, 7, 8, 9, 10]), (5, [2])], tab []⟩

attribute [go_sem] c_l10_PushoutOf_r0 c_l10_PushoutOf_r1 c_l10_PushoutOf_r2 c_l10_PushoutOf_r3 c_l10_PushoutOf_r4 c_l10_PushoutOf_r5 c_l10_PushoutOf
section
variable (P : Program) (F : String → Nat)
def K_l10_PushoutOf : Prop := ∀ s : Sp, s.sm → FC P (F "l10.PushoutOf") [spD s] (.bool true) []
end
section
variable {P : Program} {F : String → Nat} {α : Type}
theorem poR_len (s : Sp) : ((poR s).1.n.length ≤ 40 ∧ (poR s).1.e.length ≤ 80) ∧ ((poR s).2.1.n.length ≤ 40 ∧ (poR s).2.1.e.length ≤ 80) ∧ ((poR s).2.2.1.n.length ≤ 40 ∧ (poR s).2.2.1.e.length ≤ 80) := by
  unfold poR
  split
  · rename_i h
    have hs := poErr_ok.1 h
    have v1 := valid_spec hs.p.vb
    have v2 := valid_spec hs.p.va
    have v3 := valid_spec hs.k.va
    have a1 := hs.p.ln
    have a2 := hs.p.le
    have a3 := hs.k.ln
    have a4 := hs.k.le
    simp only
    omega
  · simp [g0, m0]
theorem w_l10_PushoutOf (hw : K_l10_awake P F) (hf : K_r10_Few P F) (hm : K_pushout_Of P F) (hm2 : K_r10_Of P F) (hg : K_r05_Same P F) (hs : K_r06_Same P F) (hk : K_pushout_Check P F) (s : Sp) (h1 : s.sm) :
    W P (c_l10_PushoutOf F) (Done [.t 2] [] (.bool true) []) (init [spD s]) := by
  refine W_of ?_
  have r1 := hf s h1
  have r3 := hm s
  have r4 := hm2 s
  obtain ⟨l1, l2, l3⟩ := poR_len s
  have r5 := hk s (poR s).1 (poR s).2.1 (poR s).2.2.1
  have s1 := hg (poR s).1 (poR s).1 (by unfold maxL; omega) (by unfold maxL; omega)
  have s2 := hs (poR s).2.1 (poR s).2.1 (by unfold maxL; omega) (by unfold maxL; omega)
  have s3 := hs (poR s).2.2.1 (poR s).2.2.1 (by unfold maxL; omega) (by unfold maxL; omega)
  have hch : (poR s).2.2.2 = 0 → chkP s (poR s).1 (poR s).2.1 (poR s).2.2.1 = true := fun h => by
    by_cases e : poErr s = 0
    · have hs := poErr_ok.1 e
      rw [poR_ok hs]; exact hs.chk
    · unfold poR at h
      rw [if_neg e] at h
      exact absurd h e
  generalize fewSp s = b1 at *
  generalize chkP s (poR s).1 (poR s).2.1 (poR s).2.2.1 = b3 at *
  clear l1 l2 l3
  generalize poR s = r at *
  obtain ⟨⟨gn, ge⟩, ⟨pn, pe⟩, ⟨qn, qe⟩, er⟩ := r
  simp only [poD, spD, gD, gA, mD, mA] at *
  simp (config := { maxSteps := 1000000 }) (disch := first | omega | (simp only [go_sem]; omega)) only [go_sem, ↓reduceIte]
  refine call_by hw ?_
  simp (config := { maxSteps := 1000000 }) (disch := first | omega | (simp only [go_sem]; omega)) only [go_sem, ↓reduceIte]
  refine call_by r1 ?_
  cases b1
  · simp (config := { maxSteps := 1000000 }) (disch := first | omega | (simp only [go_sem]; omega)) only [go_sem, ↓reduceIte]
    refine call_by hw ?_
    simp (config := { maxSteps := 1000000 }) (disch := first | omega | (simp only [go_sem]; omega)) only [go_sem, ↓reduceIte]
  · simp (config := { maxSteps := 1000000 }) (disch := first | omega | (simp only [go_sem]; omega)) only [go_sem, ↓reduceIte]
    refine call_by r3 ?_
    simp (config := { maxSteps := 1000000 }) (disch := first | omega | (simp only [go_sem]; omega)) only [go_sem, ↓reduceIte]
    refine call_by r4 ?_
    simp (config := { maxSteps := 1000000 }) (disch := first | omega | (simp only [go_sem]; omega)) only [go_sem, ↓reduceIte]
    refine call_by s1 ?_
    simp (config := { maxSteps := 1000000 }) (disch := first | omega | (simp only [go_sem]; omega)) only [go_sem, ↓reduceIte]
    refine call_by s2 ?_
    simp (config := { maxSteps := 1000000 }) (disch := first | omega | (simp only [go_sem]; omega)) only [go_sem, ↓reduceIte]
    refine call_by s3 ?_
    simp (config := { maxSteps := 1000000 }) (disch := first | omega | (simp only [go_sem]; omega)) only [go_sem, ↓reduceIte]
    refine bran_ndec (fun c => ?_) (fun c => ?_)
    · simp (config := { maxSteps := 1000000 }) (disch := first | omega | (simp only [go_sem]; omega)) only [go_sem, ↓reduceIte, c]
      try simp
    · subst c
      have hch := hch rfl
      subst hch
      simp (config := { maxSteps := 1000000 }) (disch := first | omega | (simp only [go_sem]; omega)) only [go_sem, ↓reduceIte]
      refine call_by r5 ?_
      simp (config := { maxSteps := 1000000 }) (disch := first | omega | (simp only [go_sem]; omega)) only [go_sem, ↓reduceIte]
      try simp
def shSp : Sh := .cat [shG, shG, shG, shM, shM]
theorem rd_span {x : D} (h : HasEl shSp x) : ∃ s : Sp, x = spD s ∧ s.sm := by
  simp only [shSp, HasEl] at h
  obtain ⟨ds, rfl, h⟩ := h
  obtain ⟨_, _, rfl, h1, h⟩ := hasShs_cat h
  obtain ⟨_, _, rfl, h2, h⟩ := hasShs_cat h
  obtain ⟨_, _, rfl, h3, h⟩ := hasShs_cat h
  obtain ⟨_, _, rfl, h4, h⟩ := hasShs_cat h
  obtain ⟨_, _, rfl, h5, h⟩ := hasShs_cat h
  obtain rfl := hasShs_nil h
  obtain ⟨b, rfl⟩ := rd_gl h1
  obtain ⟨c, rfl⟩ := rd_gl h2
  obtain ⟨d, rfl⟩ := rd_gl h3
  obtain ⟨f, rfl, h6⟩ := rd_ml h4
  obtain ⟨g, rfl, h7⟩ := rd_ml h5
  exact ⟨⟨b, c, d, f, g⟩, rfl, h6, h7⟩
theorem x_l10_PushoutOf (h : K_l10_PushoutOf P F) (args : List D) (ha : HasEls [shSp] args) : FC P (F "l10.PushoutOf") args (.bool true) [] := by
  simp only [HasEls] at ha
  obtain ⟨_, _, rfl, h1, rfl⟩ := ha
  obtain ⟨s, rfl, k1⟩ := rd_span h1
  exact h s k1
end
end Go.Am
