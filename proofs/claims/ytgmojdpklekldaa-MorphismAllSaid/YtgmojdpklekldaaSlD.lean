/- The laws of chapter 6 about any graphs: Inverse. -/
import Derived.Test.YtgmojdpklekldaaSlC
import Derived.Test.YtgmojdpklekldaaSmH
namespace Go.Am
open Go
set_option linter.unusedVariables false
set_option linter.unusedSimpArgs false
attribute [local irreducible] W
/- l06.MorphismInverse -/
def c_l06_MorphismInverse_r0 (F : String → Nat) : List LI := [⟨some 2, .bx (.t 0), none⟩,
  ⟨some 3, .bx (.t 1), none⟩,
  ⟨some 4, .mov (.k (.bool false)), none⟩]
def c_l06_MorphismInverse_r1 (F : String → Nat) : List LI := [⟨some 13, .call (F "l06.awake") [] [], none⟩,
  ⟨some 14, .not (.t 13), none⟩,
  ⟨some 15, .mov (.t 14), none⟩,
  ⟨some 16, .load true 2 (.t 2), some (15, false)⟩,
  ⟨some 17, .load true 4 (.t 3), some (15, false)⟩,
  ⟨some 18, .buildSl 4 96 (.agg [.lst 1 [], .lst 3 [], .lst 1 [], .lst 1 []]) 1 [(0, .t 17)], some (15, false)⟩,
  ⟨some 19, .call (F "l06.few") [.t 16, .t 18] [], some (15, false)⟩,
  ⟨some 20, .not (.t 19), some (15, false)⟩,
  ⟨some 21, .pick (.t 15) (.k (.bool true)) (.t 20), none⟩]
def c_l06_MorphismInverse_r2 (F : String → Nat) : List LI := [⟨some 22, .call (F "l06.awake") [] [], none⟩,
  ⟨some 4, .mov (.t 22), none⟩]
def c_l06_MorphismInverse_r3 (F : String → Nat) : List LI := [⟨some 24, .load true 2 (.t 2), none⟩,
  ⟨some 25, .fad 0 (.t 3), none⟩,
  ⟨some 26, .load true 2 (.t 25), none⟩,
  ⟨some 27, .fad 2 (.t 3), none⟩,
  ⟨some 28, .load true 2 (.t 27), none⟩,
  ⟨some 29, .call (F "l06.copied") [.t 28] [], none⟩,
  ⟨some 30, .call (F "morphism.Inverse") [.t 24, .t 26, .t 29] [], none⟩,
  ⟨some 23, .mov (.t 30), none⟩,
  ⟨some 31, .ext (.t 23) 0, none⟩,
  ⟨some 32, .ext (.t 23) 1, none⟩,
  ⟨some 5, .alloc [.nl 1, .nl 1], none⟩,
  ⟨none, .store 2 (.t 5) (.t 31), none⟩,
  ⟨some 6, .mov (.t 32), none⟩]
def c_l06_MorphismInverse_r4 (F : String → Nat) : List LI := [⟨some 34, .load true 2 (.t 2), none⟩,
  ⟨some 35, .fad 0 (.t 3), none⟩,
  ⟨some 36, .load true 2 (.t 35), none⟩,
  ⟨some 37, .fad 2 (.t 3), none⟩,
  ⟨some 38, .load true 2 (.t 37), none⟩,
  ⟨some 39, .call (F "r06.Inverse") [.t 34, .t 36, .t 38] [], none⟩,
  ⟨some 33, .mov (.t 39), none⟩,
  ⟨some 40, .ext (.t 33) 0, none⟩,
  ⟨some 41, .ext (.t 33) 1, none⟩,
  ⟨some 7, .alloc [.nl 1, .nl 1], none⟩,
  ⟨none, .store 2 (.t 7) (.t 40), none⟩,
  ⟨some 8, .mov (.t 41), none⟩]
def c_l06_MorphismInverse_r5 (F : String → Nat) : List LI := [⟨some 42, .mov (.t 6), none⟩,
  ⟨some 43, .mov (.t 8), none⟩,
  ⟨some 44, .bin .neq (.t 42) (.t 43), none⟩,
  ⟨some 45, .mov (.t 44), none⟩,
  ⟨some 46, .load true 2 (.t 5), some (45, false)⟩,
  ⟨some 47, .load true 2 (.t 7), some (45, false)⟩,
  ⟨some 48, .call (F "r06.Same") [.t 46, .t 47] [], some (45, false)⟩,
  ⟨some 49, .not (.t 48), some (45, false)⟩,
  ⟨some 50, .pick (.t 45) (.k (.bool true)) (.t 49), none⟩,
  ⟨some 51, .mov (.t 50), none⟩,
  ⟨some 52, .mov (.t 6), some (51, false)⟩,
  ⟨some 53, .bin .neq (.t 52) (.k (.int .i64 (0))), some (51, false)⟩,
  ⟨some 54, .pick (.t 51) (.k (.bool true)) (.t 53), none⟩]
def c_l06_MorphismInverse_r6 (F : String → Nat) : List LI := [⟨some 55, .mov (.t 6), none⟩,
  ⟨some 56, .mov (.t 8), none⟩,
  ⟨some 57, .bin .eql (.t 55) (.t 56), none⟩,
  ⟨some 58, .mov (.t 57), none⟩,
  ⟨some 59, .load true 2 (.t 5), some (58, true)⟩,
  ⟨some 60, .load true 2 (.t 7), some (58, true)⟩,
  ⟨some 61, .call (F "r06.Same") [.t 59, .t 60] [], some (58, true)⟩,
  ⟨some 62, .pick (.t 58) (.t 61) (.k (.bool false)), none⟩,
  ⟨some 4, .mov (.t 62), none⟩]
def c_l06_MorphismInverse_r7 (F : String → Nat) : List LI := [⟨some 64, .load true 2 (.t 2), none⟩,
  ⟨some 65, .fad 0 (.t 3), none⟩,
  ⟨some 66, .load true 2 (.t 65), none⟩,
  ⟨some 67, .load true 2 (.t 2), none⟩,
  ⟨some 68, .fad 2 (.t 3), none⟩,
  ⟨some 69, .load true 2 (.t 68), none⟩,
  ⟨some 70, .load true 2 (.t 5), none⟩,
  ⟨some 71, .call (F "morphism.Compose") [.t 64, .t 66, .t 67, .t 69, .t 70] [], none⟩,
  ⟨some 63, .mov (.t 71), none⟩,
  ⟨some 72, .ext (.t 63) 0, none⟩,
  ⟨some 73, .ext (.t 63) 1, none⟩,
  ⟨some 9, .alloc [.nl 1, .nl 1], none⟩,
  ⟨none, .store 2 (.t 9) (.t 72), none⟩,
  ⟨some 10, .mov (.t 73), none⟩]
def c_l06_MorphismInverse_r8 (F : String → Nat) : List LI := [⟨some 75, .fad 0 (.t 3), none⟩,
  ⟨some 76, .load true 2 (.t 75), none⟩,
  ⟨some 77, .load true 2 (.t 2), none⟩,
  ⟨some 78, .fad 0 (.t 3), none⟩,
  ⟨some 79, .load true 2 (.t 78), none⟩,
  ⟨some 80, .load true 2 (.t 5), none⟩,
  ⟨some 81, .fad 2 (.t 3), none⟩,
  ⟨some 82, .load true 2 (.t 81), none⟩,
  ⟨some 83, .call (F "morphism.Compose") [.t 76, .t 77, .t 79, .t 80, .t 82] [], none⟩,
  ⟨some 74, .mov (.t 83), none⟩,
  ⟨some 84, .ext (.t 74) 0, none⟩,
  ⟨some 85, .ext (.t 74) 1, none⟩,
  ⟨some 11, .alloc [.nl 1, .nl 1], none⟩,
  ⟨none, .store 2 (.t 11) (.t 84), none⟩,
  ⟨some 12, .mov (.t 85), none⟩]
def c_l06_MorphismInverse_r9 (F : String → Nat) : List LI := [⟨some 86, .mov (.t 10), none⟩,
  ⟨some 87, .bin .eql (.t 86) (.k (.int .i64 (0))), none⟩,
  ⟨some 88, .mov (.t 87), none⟩,
  ⟨some 89, .mov (.t 12), some (88, true)⟩,
  ⟨some 90, .bin .eql (.t 89) (.k (.int .i64 (0))), some (88, true)⟩,
  ⟨some 91, .pick (.t 88) (.t 90) (.k (.bool false)), none⟩,
  ⟨some 92, .mov (.t 91), none⟩,
  ⟨some 93, .load true 2 (.t 9), some (92, true)⟩,
  ⟨some 94, .load true 2 (.t 2), some (92, true)⟩,
  ⟨some 95, .call (F "r06.Of") [.t 94] [], some (92, true)⟩,
  ⟨some 96, .call (F "r06.Same") [.t 93, .t 95] [], some (92, true)⟩,
  ⟨some 97, .pick (.t 92) (.t 96) (.k (.bool false)), none⟩,
  ⟨some 98, .mov (.t 97), none⟩,
  ⟨some 99, .load true 2 (.t 11), some (98, true)⟩,
  ⟨some 100, .fad 0 (.t 3), some (98, true)⟩,
  ⟨some 101, .load true 2 (.t 100), some (98, true)⟩,
  ⟨some 102, .call (F "r06.Of") [.t 101] [], some (98, true)⟩,
  ⟨some 103, .call (F "r06.Same") [.t 99, .t 102] [], some (98, true)⟩,
  ⟨some 104, .pick (.t 98) (.t 103) (.k (.bool false)), none⟩,
  ⟨some 4, .mov (.t 104), none⟩]
def c_l06_MorphismInverse (F : String → Nat) : LC := (.seq (.reg (c_l06_MorphismInverse_r0 F) [2, 3]) (.seq (.seq (.reg (c_l06_MorphismInverse_r1 F) [2, 3, 21]) (.cond (.t 21) (.seq (.reg (c_l06_MorphismInverse_r2 F) [4]) .ret) .skip)) (.seq (.dreg [(0, none, [], true), (2, none, [], true), (5, none, [0, 2], false)] (c_l06_MorphismInverse_r3 F) [2, 3, 5, 6]) (.seq (.reg (c_l06_MorphismInverse_r4 F) [2, 3, 5, 6, 7, 8]) (.seq (.seq (.reg (c_l06_MorphismInverse_r5 F) [2, 3, 5, 6, 7, 8, 54]) (.cond (.t 54) (.seq (.reg (c_l06_MorphismInverse_r6 F) [4]) .ret) .skip)) (.seq (.reg (c_l06_MorphismInverse_r7 F) [2, 3, 5, 9, 10]) (.seq (.reg (c_l06_MorphismInverse_r8 F) [2, 3, 9, 10, 11, 12]) (.seq (.dreg [(7, none, [], true), (9, none, [7], false), (13, none, [], true), (16, none, [13], false)] (c_l06_MorphismInverse_r9 F) [4]) .ret))))))))
def h_l06_MorphismInverse : Hints := ⟨[], fun _ => [], tab [(0, [2, 3]), (1, [2, 3, 21]), (2, [4]), (3, [2, 3, 5, 6]), (4, [2, 3, 5, 6, 7, 8]), (5, [2, 3, 5, 6, 7, 8, 54]), (6, [4]), (7, [2, 3, 5, 9, 10]), (8, [2, 3, 9, 10, 11, 12]), (9, [4])], tab []⟩

attribute [go_sem] c_l06_MorphismInverse_r0 c_l06_MorphismInverse_r1 c_l06_MorphismInverse_r2 c_l06_MorphismInverse_r3 c_l06_MorphismInverse_r4 c_l06_MorphismInverse_r5 c_l06_MorphismInverse_r6 c_l06_MorphismInverse_r7 c_l06_MorphismInverse_r8 c_l06_MorphismInverse_r9 c_l06_MorphismInverse
section
variable (P : Program) (F : String → Nat)
def K_l06_MorphismInverse : Prop := ∀ (a : G) (x : Aw), x.m.sm → FC P (F "l06.MorphismInverse") [gD a, awD x] (.bool true) []
end
section
variable {P : Program} {F : String → Nat} {α : Type}
theorem idM_len {a : G} (h : validG a = 0) : (idM a).n.length ≤ 40 ∧ (idM a).e.length ≤ 80 := by
  obtain ⟨a1, a2, _⟩ := valid_spec h
  simp only [idM, nums_len]
  omega
theorem w_l06_MorphismInverse (hw : K_l06_awake P F) (hf : K_l06_few P F) (hc : K_l06_copied P F) (h1 : K_morphism_Inverse P F) (h2 : K_r06_Inverse P F) (h3 : K_r06_Same P F) (h4 : K_morphism_Compose P F) (h5 : K_r06_Of P F) (a : G) (x : Aw) (hx : x.m.sm) :
    W P (c_l06_MorphismInverse F) (Done [.t 4] [] (.bool true) []) (init [gD a, awD x]) := by
  refine W_of ?_
  have rf := hf a [x] (by simp [maxL]) (by simpa using hx)
  have hl : fewA a [x] = true → x.m.n.length ≤ 140 ∧ x.m.e.length ≤ 140 := fun h => by
    simp only [fewA, List.all_cons, List.all_nil, Bool.and_true, fewW, Bool.and_eq_true] at h
    exact fewM_len h.1.2
  have r1 := h1 a x.t x.m
  have r2 := h2 a x.t x.m
  have hq : (invM a x.t x.m).1.n.length ≤ 100 ∧ (invM a x.t x.m).1.e.length ≤ 100 := by
    unfold invM
    split
    · simp [m0]
    · rename_i hv
      obtain ⟨l1, l2, _⟩ := validM_len (Decidable.not_not.1 hv)
      split
      · simp only [backL_len]; omega
      · simp [m0]
  have r3 := h3 (invM a x.t x.m).1 (invM a x.t x.m).1 (by unfold maxL; omega) (by unfold maxL; omega)
  have rc := hc x.m
  have hE : (invM a x.t x.m).2 = 0 → validG a = 0 ∧ validG x.t = 0 ∧ comM a x.t a x.m (invM a x.t x.m).1 = (idM a, 0) ∧ comM x.t a x.t (invM a x.t x.m).1 x.m = (idM x.t, 0) := by
    unfold invM
    split
    · rename_i hv
      intro h; exact absurd h hv
    · rename_i hv
      have hm := mok.1 (Decidable.not_not.1 hv)
      split
      · rename_i hh
        obtain ⟨i1, i2, i3⟩ := inv_ok hm hh.1 hh.2
        intro _
        exact ⟨hm.va, hm.vb, by rw [comM_ok hm i1, i2], by rw [comM_ok i1 hm, i3]⟩
      · intro h; simp at h
  have r4 := h4 a x.t a x.m (invM a x.t x.m).1
  have r5 := h4 x.t a x.t (invM a x.t x.m).1 x.m
  have r6 := h5 a
  have r7 := h5 x.t
  have r8 := h3 (idM a) (idM a)
  have r9 := h3 (idM x.t) (idM x.t)
  generalize fewA a [x] = b at *
  generalize invM a x.t x.m = q at *
  obtain ⟨⟨qn, qe⟩, qv⟩ := q
  by_cases c : qv = 0
  · subst c
    obtain ⟨va, vb, e1, e2⟩ := hE rfl
    rw [e1] at r4
    rw [e2] at r5
    obtain ⟨a1, a2, _⟩ := valid_spec va
    obtain ⟨b1, b2, _⟩ := valid_spec vb
    have r6 := r6 (by omega) (by omega)
    have r7 := r7 (by omega) (by omega)
    obtain ⟨l5, l6⟩ := idM_len va
    obtain ⟨l7, l8⟩ := idM_len vb
    have r8 := r8 (by unfold maxL; omega) (by unfold maxL; omega)
    have r9 := r9 (by unfold maxL; omega) (by unfold maxL; omega)
    clear e1 e2 hE
    generalize idM a = ia at *
    generalize idM x.t = ix at *
    obtain ⟨ian, iae⟩ := ia
    obtain ⟨ixn, ixe⟩ := ix
    simp only [aws, List.map_cons, List.map_nil, awD, gD, mD, mA] at *
    simp (config := { maxSteps := 1000000 }) (disch := first | omega | (simp only [go_sem]; omega)) only [go_sem, ↓reduceIte]
    refine call_by hw ?_
    simp (config := { maxSteps := 1000000 }) (disch := first | omega | (simp only [go_sem]; omega)) only [go_sem, ↓reduceIte]
    refine call_by rf ?_
    cases b
    · simp (config := { maxSteps := 1000000 }) (disch := first | omega | (simp only [go_sem]; omega)) only [go_sem, ↓reduceIte]
      refine call_by hw ?_
      simp (config := { maxSteps := 1000000 }) (disch := first | omega | (simp only [go_sem]; omega)) only [go_sem, ↓reduceIte]
    · obtain ⟨l1, l2⟩ := hl rfl
      have rc := rc (by omega) (by omega)
      simp (config := { maxSteps := 1000000 }) (disch := first | omega | (simp only [go_sem]; omega)) only [go_sem, ↓reduceIte]
      refine call_by rc ?_
      simp (config := { maxSteps := 1000000 }) (disch := first | omega | (simp only [go_sem]; omega)) only [go_sem, ↓reduceIte]
      refine call_by r1 ?_
      simp (config := { maxSteps := 1000000 }) (disch := first | omega | (simp only [go_sem]; omega)) only [go_sem, ↓reduceIte]
      refine call_by r2 ?_
      simp (config := { maxSteps := 1000000 }) (disch := first | omega | (simp only [go_sem]; omega)) only [go_sem, ↓reduceIte]
      refine call_by r3 ?_
      simp (config := { maxSteps := 1000000 }) (disch := first | omega | (simp only [go_sem]; omega)) only [go_sem, ↓reduceIte]
      refine call_by r4 ?_
      simp (config := { maxSteps := 1000000 }) (disch := first | omega | (simp only [go_sem]; omega)) only [go_sem, ↓reduceIte]
      refine call_by r5 ?_
      simp (config := { maxSteps := 1000000 }) (disch := first | omega | (simp only [go_sem]; omega)) only [go_sem, ↓reduceIte]
      refine call_by r6 ?_
      simp (config := { maxSteps := 1000000 }) (disch := first | omega | (simp only [go_sem]; omega)) only [go_sem, ↓reduceIte]
      refine call_by r8 ?_
      simp (config := { maxSteps := 1000000 }) (disch := first | omega | (simp only [go_sem]; omega)) only [go_sem, ↓reduceIte]
      refine call_by r7 ?_
      simp (config := { maxSteps := 1000000 }) (disch := first | omega | (simp only [go_sem]; omega)) only [go_sem, ↓reduceIte]
      refine call_by r9 ?_
      simp (config := { maxSteps := 1000000 }) (disch := first | omega | (simp only [go_sem]; omega)) only [go_sem, ↓reduceIte]
      try simp
  · simp only [aws, List.map_cons, List.map_nil, awD, gD, mD, mA] at *
    simp (config := { maxSteps := 1000000 }) (disch := first | omega | (simp only [go_sem]; omega)) only [go_sem, ↓reduceIte]
    refine call_by hw ?_
    simp (config := { maxSteps := 1000000 }) (disch := first | omega | (simp only [go_sem]; omega)) only [go_sem, ↓reduceIte]
    refine call_by rf ?_
    cases b
    · simp (config := { maxSteps := 1000000 }) (disch := first | omega | (simp only [go_sem]; omega)) only [go_sem, ↓reduceIte]
      refine call_by hw ?_
      simp (config := { maxSteps := 1000000 }) (disch := first | omega | (simp only [go_sem]; omega)) only [go_sem, ↓reduceIte]
    · obtain ⟨l1, l2⟩ := hl rfl
      have rc := rc (by omega) (by omega)
      simp (config := { maxSteps := 1000000 }) (disch := first | omega | (simp only [go_sem]; omega)) only [go_sem, ↓reduceIte]
      refine call_by rc ?_
      simp (config := { maxSteps := 1000000 }) (disch := first | omega | (simp only [go_sem]; omega)) only [go_sem, ↓reduceIte]
      refine call_by r1 ?_
      simp (config := { maxSteps := 1000000 }) (disch := first | omega | (simp only [go_sem]; omega)) only [go_sem, ↓reduceIte]
      refine call_by r2 ?_
      simp (config := { maxSteps := 1000000 }) (disch := first | omega | (simp only [go_sem]; omega)) only [go_sem, ↓reduceIte]
      refine call_by r3 ?_
      simp (config := { maxSteps := 1000000 }) (disch := first | omega | (simp only [go_sem]; omega)) only [go_sem, ↓reduceIte, c]
      refine call_by r3 ?_
      simp (config := { maxSteps := 1000000 }) (disch := first | omega | (simp only [go_sem]; omega)) only [go_sem, ↓reduceIte]
      try simp
theorem x_l06_MorphismInverse (h : K_l06_MorphismInverse P F) (args : List D) (ha : HasEls [shG, shAw] args) : FC P (F "l06.MorphismInverse") args (.bool true) [] := by
  simp only [HasEls] at ha
  obtain ⟨_, _, rfl, h1, _, _, rfl, h2, rfl⟩ := ha
  obtain ⟨a, rfl⟩ := rd_graph h1
  obtain ⟨x, rfl, k1⟩ := rd_arrow h2
  exact h a x k1
end
end Go.Am
