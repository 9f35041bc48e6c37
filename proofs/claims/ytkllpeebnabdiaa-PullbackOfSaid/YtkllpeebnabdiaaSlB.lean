/- The laws PullbackMediate and PullbackOf. -/
import Derived.Test.YtkllpeebnabdiaaSkY
namespace Go.Am
open Go
set_option linter.unusedVariables false
set_option linter.unusedSimpArgs false
/- l11.PullbackMediate -/
def c_l11_PullbackMediate_r0 (F : String → Nat) : List LI := [⟨some 2, .bx (.t 0), none⟩,
  ⟨some 3, .bx (.t 1), none⟩,
  ⟨some 4, .mov (.k (.bool false)), none⟩]
def c_l11_PullbackMediate_r1 (F : String → Nat) : List LI := [⟨some 9, .call (F "l11.awake") [] [], none⟩,
  ⟨some 10, .not (.t 9), none⟩,
  ⟨some 11, .mov (.t 10), none⟩,
  ⟨some 12, .load true 10 (.t 2), some (11, false)⟩,
  ⟨some 13, .call (F "r11.Few") [.t 12] [], some (11, false)⟩,
  ⟨some 14, .not (.t 13), some (11, false)⟩,
  ⟨some 15, .pick (.t 11) (.k (.bool true)) (.t 14), none⟩,
  ⟨some 16, .mov (.t 15), none⟩,
  ⟨some 17, .load true 6 (.t 3), some (16, false)⟩,
  ⟨some 18, .call (F "l11.Cone.small") [.t 17] [], some (16, false)⟩,
  ⟨some 19, .not (.t 18), some (16, false)⟩,
  ⟨some 20, .pick (.t 16) (.k (.bool true)) (.t 19), none⟩]
def c_l11_PullbackMediate_r2 (F : String → Nat) : List LI := [⟨some 21, .call (F "l11.awake") [] [], none⟩,
  ⟨some 4, .mov (.t 21), none⟩]
def c_l11_PullbackMediate_r3 (F : String → Nat) : List LI := [⟨some 23, .load true 10 (.t 2), none⟩,
  ⟨some 24, .fad 0 (.t 3), none⟩,
  ⟨some 25, .load true 2 (.t 24), none⟩,
  ⟨some 26, .fad 2 (.t 3), none⟩,
  ⟨some 27, .load true 2 (.t 26), none⟩,
  ⟨some 28, .fad 4 (.t 3), none⟩,
  ⟨some 29, .load true 2 (.t 28), none⟩,
  ⟨some 30, .call (F "pullback.Mediate") [.t 23, .t 25, .t 27, .t 29] [], none⟩,
  ⟨some 22, .mov (.t 30), none⟩,
  ⟨some 31, .ext (.t 22) 0, none⟩,
  ⟨some 32, .ext (.t 22) 1, none⟩,
  ⟨some 5, .alloc [.nl 1, .nl 1], none⟩,
  ⟨none, .store 2 (.t 5) (.t 31), none⟩,
  ⟨some 6, .mov (.t 32), none⟩]
def c_l11_PullbackMediate_r4 (F : String → Nat) : List LI := [⟨some 34, .load true 10 (.t 2), none⟩,
  ⟨some 35, .fad 0 (.t 3), none⟩,
  ⟨some 36, .load true 2 (.t 35), none⟩,
  ⟨some 37, .fad 2 (.t 3), none⟩,
  ⟨some 38, .load true 2 (.t 37), none⟩,
  ⟨some 39, .fad 4 (.t 3), none⟩,
  ⟨some 40, .load true 2 (.t 39), none⟩,
  ⟨some 41, .call (F "r11.Mediate") [.t 34, .t 36, .t 38, .t 40] [], none⟩,
  ⟨some 33, .mov (.t 41), none⟩,
  ⟨some 42, .ext (.t 33) 0, none⟩,
  ⟨some 43, .ext (.t 33) 1, none⟩,
  ⟨some 7, .alloc [.nl 1, .nl 1], none⟩,
  ⟨none, .store 2 (.t 7) (.t 42), none⟩,
  ⟨some 8, .mov (.t 43), none⟩]
def c_l11_PullbackMediate_r5 (F : String → Nat) : List LI := [⟨some 44, .load true 2 (.t 5), none⟩,
  ⟨some 45, .load true 2 (.t 7), none⟩,
  ⟨some 46, .call (F "r06.Same") [.t 44, .t 45] [], none⟩,
  ⟨some 47, .mov (.t 46), none⟩,
  ⟨some 48, .mov (.t 6), some (47, true)⟩,
  ⟨some 49, .mov (.t 8), some (47, true)⟩,
  ⟨some 50, .bin .eql (.t 48) (.t 49), some (47, true)⟩,
  ⟨some 51, .pick (.t 47) (.t 50) (.k (.bool false)), none⟩,
  ⟨some 52, .mov (.t 51), none⟩,
  ⟨some 53, .load true 10 (.t 2), some (52, true)⟩,
  ⟨some 54, .fad 0 (.t 3), some (52, true)⟩,
  ⟨some 55, .load true 2 (.t 54), some (52, true)⟩,
  ⟨some 56, .fad 2 (.t 3), some (52, true)⟩,
  ⟨some 57, .load true 2 (.t 56), some (52, true)⟩,
  ⟨some 58, .fad 4 (.t 3), some (52, true)⟩,
  ⟨some 59, .load true 2 (.t 58), some (52, true)⟩,
  ⟨some 60, .call (F "pullback.Check") [.t 53, .t 55, .t 57, .t 59] [], some (52, true)⟩,
  ⟨some 61, .load true 10 (.t 2), some (52, true)⟩,
  ⟨some 62, .fad 0 (.t 3), some (52, true)⟩,
  ⟨some 63, .load true 2 (.t 62), some (52, true)⟩,
  ⟨some 64, .fad 2 (.t 3), some (52, true)⟩,
  ⟨some 65, .load true 2 (.t 64), some (52, true)⟩,
  ⟨some 66, .fad 4 (.t 3), some (52, true)⟩,
  ⟨some 67, .load true 2 (.t 66), some (52, true)⟩,
  ⟨some 68, .call (F "r11.Check") [.t 61, .t 63, .t 65, .t 67] [], some (52, true)⟩,
  ⟨some 69, .eqB false (.t 60) (.t 68), some (52, true)⟩,
  ⟨some 70, .pick (.t 52) (.t 69) (.k (.bool false)), none⟩,
  ⟨some 4, .mov (.t 70), none⟩]
def c_l11_PullbackMediate (F : String → Nat) : LC := (.seq (.reg (c_l11_PullbackMediate_r0 F) [2, 3]) (.seq (.seq (.reg (c_l11_PullbackMediate_r1 F) [2, 3, 20]) (.cond (.t 20) (.seq (.reg (c_l11_PullbackMediate_r2 F) [4]) .ret) .skip)) (.seq (.reg (c_l11_PullbackMediate_r3 F) [2, 3, 5, 6]) (.seq (.reg (c_l11_PullbackMediate_r4 F) [2, 3, 5, 6, 7, 8]) (.seq (.dreg [(16, none, [], true), (17, (some 511), [16], false), (19, (some 262655), [16], false), (21, (some 1049087), [16], false), (23, (some 4194815), [16], false)] (c_l11_PullbackMediate_r5 F) [4]) .ret)))))
def h_l11_PullbackMediate : Hints := ⟨[], fun _ => [], tab [(0, [2, 3]), (1, [2, 3, 20]), (2, [4]), (3, [2, 3, 5, 6]), (4, [2, 3, 5, 6, 7, 8]), (5, [4])], tab []⟩

/- l11.PullbackOf -/
def c_l11_PullbackOf_r0 (F : String → Nat) : List LI := [⟨some 1, .bx (.t 0), none⟩,
  ⟨some 2, .mov (.k (.bool false)), none⟩]
def c_l11_PullbackOf_r1 (F : String → Nat) : List LI := [⟨some 11, .call (F "l11.awake") [] [], none⟩,
  ⟨some 12, .not (.t 11), none⟩,
  ⟨some 13, .mov (.t 12), none⟩,
  ⟨some 14, .load true 10 (.t 1), some (13, false)⟩,
  ⟨some 15, .call (F "r11.Few") [.t 14] [], some (13, false)⟩,
  ⟨some 16, .not (.t 15), some (13, false)⟩,
  ⟨some 17, .pick (.t 13) (.k (.bool true)) (.t 16), none⟩]
def c_l11_PullbackOf_r2 (F : String → Nat) : List LI := [⟨some 18, .call (F "l11.awake") [] [], none⟩,
  ⟨some 2, .mov (.t 18), none⟩]
def c_l11_PullbackOf_r3 (F : String → Nat) : List LI := [⟨some 20, .load true 10 (.t 1), none⟩,
  ⟨some 21, .call (F "pullback.Of") [.t 20] [], none⟩,
  ⟨some 19, .mov (.t 21), none⟩,
  ⟨some 22, .ext (.t 19) 0, none⟩,
  ⟨some 23, .ext (.t 19) 1, none⟩,
  ⟨some 24, .ext (.t 19) 2, none⟩,
  ⟨some 25, .ext (.t 19) 3, none⟩,
  ⟨some 3, .alloc [.nl 1, .nl 3], none⟩,
  ⟨some 4, .alloc [.nl 1, .nl 1], none⟩,
  ⟨some 5, .alloc [.nl 1, .nl 1], none⟩,
  ⟨none, .store 2 (.t 3) (.t 22), none⟩,
  ⟨none, .store 2 (.t 4) (.t 23), none⟩,
  ⟨none, .store 2 (.t 5) (.t 24), none⟩,
  ⟨some 6, .mov (.t 25), none⟩]
def c_l11_PullbackOf_r4 (F : String → Nat) : List LI := [⟨some 27, .load true 10 (.t 1), none⟩,
  ⟨some 28, .call (F "r11.Of") [.t 27] [], none⟩,
  ⟨some 26, .mov (.t 28), none⟩,
  ⟨some 29, .ext (.t 26) 0, none⟩,
  ⟨some 30, .ext (.t 26) 1, none⟩,
  ⟨some 31, .ext (.t 26) 2, none⟩,
  ⟨some 32, .ext (.t 26) 3, none⟩,
  ⟨some 7, .alloc [.nl 1, .nl 3], none⟩,
  ⟨some 8, .alloc [.nl 1, .nl 1], none⟩,
  ⟨some 9, .alloc [.nl 1, .nl 1], none⟩,
  ⟨none, .store 2 (.t 7) (.t 29), none⟩,
  ⟨none, .store 2 (.t 8) (.t 30), none⟩,
  ⟨none, .store 2 (.t 9) (.t 31), none⟩,
  ⟨some 10, .mov (.t 32), none⟩]
def c_l11_PullbackOf_r5 (F : String → Nat) : List LI := [⟨some 33, .load true 2 (.t 3), none⟩,
  ⟨some 34, .load true 2 (.t 7), none⟩,
  ⟨some 35, .call (F "r05.Same") [.t 33, .t 34] [], none⟩,
  ⟨some 36, .not (.t 35), none⟩,
  ⟨some 37, .mov (.t 36), none⟩,
  ⟨some 38, .load true 2 (.t 4), some (37, false)⟩,
  ⟨some 39, .load true 2 (.t 8), some (37, false)⟩,
  ⟨some 40, .call (F "r06.Same") [.t 38, .t 39] [], some (37, false)⟩,
  ⟨some 41, .not (.t 40), some (37, false)⟩,
  ⟨some 42, .pick (.t 37) (.k (.bool true)) (.t 41), none⟩,
  ⟨some 43, .mov (.t 42), none⟩,
  ⟨some 44, .load true 2 (.t 5), some (43, false)⟩,
  ⟨some 45, .load true 2 (.t 9), some (43, false)⟩,
  ⟨some 46, .call (F "r06.Same") [.t 44, .t 45] [], some (43, false)⟩,
  ⟨some 47, .not (.t 46), some (43, false)⟩,
  ⟨some 48, .pick (.t 43) (.k (.bool true)) (.t 47), none⟩,
  ⟨some 49, .mov (.t 48), none⟩,
  ⟨some 50, .mov (.t 6), some (49, false)⟩,
  ⟨some 51, .mov (.t 10), some (49, false)⟩,
  ⟨some 52, .bin .neq (.t 50) (.t 51), some (49, false)⟩,
  ⟨some 53, .pick (.t 49) (.k (.bool true)) (.t 52), none⟩]
def c_l11_PullbackOf_r6 (F : String → Nat) : List LI := [⟨some 2, .mov (.k (.bool false)), none⟩]
def c_l11_PullbackOf_r7 (F : String → Nat) : List LI := [⟨some 54, .mov (.t 6), none⟩,
  ⟨some 55, .bin .neq (.t 54) (.k (.int .i64 (0))), none⟩,
  ⟨some 56, .mov (.t 55), none⟩,
  ⟨some 57, .load true 10 (.t 1), some (56, false)⟩,
  ⟨some 58, .load true 2 (.t 3), some (56, false)⟩,
  ⟨some 59, .load true 2 (.t 4), some (56, false)⟩,
  ⟨some 60, .load true 2 (.t 5), some (56, false)⟩,
  ⟨some 61, .call (F "pullback.Check") [.t 57, .t 58, .t 59, .t 60] [], some (56, false)⟩,
  ⟨some 62, .pick (.t 56) (.k (.bool true)) (.t 61), none⟩,
  ⟨some 2, .mov (.t 62), none⟩]
def c_l11_PullbackOf (F : String → Nat) : LC := (.seq (.reg (c_l11_PullbackOf_r0 F) [1]) (.seq (.seq (.reg (c_l11_PullbackOf_r1 F) [1, 17]) (.cond (.t 17) (.seq (.reg (c_l11_PullbackOf_r2 F) [2]) .ret) .skip)) (.seq (.reg (c_l11_PullbackOf_r3 F) [1, 3, 4, 5, 6]) (.seq (.reg (c_l11_PullbackOf_r4 F) [1, 3, 4, 5, 6, 7, 8, 9, 10]) (.seq (.seq (.reg (c_l11_PullbackOf_r5 F) [1, 3, 4, 5, 6, 53]) (.cond (.t 53) (.seq (.reg (c_l11_PullbackOf_r6 F) [2]) .ret) .skip)) (.seq (.reg (c_l11_PullbackOf_r7 F) [2]) .ret))))))
def h_l11_PullbackOf : Hints := ⟨[], fun _ => [], tab [(0, [1]), (1, [1, 17]), (2, [2]), (3, [1, 3, 4, 5, 6]), (4, [1, 3, 4, 5, 6, 7, 8, 9, 10]), (5, [1, 3, 4, 5, 6, 53]), (6, [2]), (7, [2])], tab []⟩

attribute [go_sem] c_l11_PullbackMediate_r0 c_l11_PullbackMediate_r1 c_l11_PullbackMediate_r2 c_l11_PullbackMediate_r3 c_l11_PullbackMediate_r4 c_l11_PullbackMediate_r5 c_l11_PullbackMediate c_l11_PullbackOf_r0 c_l11_PullbackOf_r1 c_l11_PullbackOf_r2 c_l11_PullbackOf_r3 c_l11_PullbackOf_r4 c_l11_PullbackOf_r5 c_l11_PullbackOf_r6 c_l11_PullbackOf_r7 c_l11_PullbackOf
section
variable (P : Program) (F : String → Nat)
def K_l11_PullbackMediate : Prop := ∀ (s : Cs) (x : G) (h k : Mo), s.sm → h.sm → k.sm → FC P (F "l11.PullbackMediate") [csD s, .agg (gL x ++ (moL h ++ moL k))] (.bool true) []
def K_l11_PullbackOf : Prop := ∀ (s : Cs), s.sm → FC P (F "l11.PullbackOf") [csD s] (.bool true) []
end
section
variable {P : Program} {F : String → Nat} {α : Type}
theorem medM_len {s : Cs} {x : G} {h k : Mo} : (medM s x h k).1.n.length ≤ 1000000 ∧ (medM s x h k).1.e.length ≤ 1000000 := by
  unfold medM
  split
  · simp [m0]
  · rename_i h1
    have h1 := Decidable.not_not.1 h1
    split
    · unfold medErr at h1
      split at h1
      · rename_i h2; exact absurd h1 h2
      · split at h1
        · rename_i h2; exact absurd h1 h2
        · rename_i h2
          have h2 := Decidable.not_not.1 h2
          obtain ⟨q1, q2, _⟩ := validM_len h2
          simp only [meetL, meetI_len]
          omega
    · simp [m0]
theorem w_l11_PullbackMediate (hw : K_l11_awake P F) (hf : K_r11_Few P F) (hc : K_l11_Cone_small P F) (hm : K_pullback_Mediate P F) (hm2 : K_r11_Mediate P F) (hs : K_r06_Same P F) (hk : K_pullback_Check P F) (hk2 : K_r11_Check P F) (s : Cs) (x : G) (h k : Mo) (h1 : s.sm) (h2 : h.sm) (h3 : k.sm) :
    W P (c_l11_PullbackMediate F) (Done [.t 4] [] (.bool true) []) (init [csD s, .agg (gL x ++ (moL h ++ moL k))]) := by
  refine W_of ?_
  have r1 := hf s h1
  have r2 := hc x h k h2 h3
  have r3 := hm s x h k
  have r4 := hm2 s x h k
  have r5 := hk s x h k
  have r6 := hk2 s x h k
  obtain ⟨l1, l2⟩ := @medM_len s x h k
  have r7 := hs (medM s x h k).1 (medM s x h k).1 (by unfold maxL; omega) (by unfold maxL; omega)
  generalize fewCs s = b1 at *
  generalize smallC x h k = b2 at *
  generalize checkM s x h k = b3 at *
  generalize medM s x h k = md at *
  obtain ⟨⟨mn, me⟩, er⟩ := md
  simp only [csD, gL, moL, gD, mD, mA, List.cons_append, List.nil_append] at *
  clear l1 l2
  simp (config := { maxSteps := 1000000 }) (disch := first | omega | (simp only [go_sem]; omega)) only [go_sem, ↓reduceIte]
  refine call_by hw ?_
  simp (config := { maxSteps := 1000000 }) (disch := first | omega | (simp only [go_sem]; omega)) only [go_sem, ↓reduceIte]
  refine call_by r1 ?_
  cases b1
  · simp (config := { maxSteps := 1000000 }) (disch := first | omega | (simp only [go_sem]; omega)) only [go_sem, ↓reduceIte]
    refine call_by hw ?_
    simp (config := { maxSteps := 1000000 }) (disch := first | omega | (simp only [go_sem]; omega)) only [go_sem, ↓reduceIte]
  · simp (config := { maxSteps := 1000000 }) (disch := first | omega | (simp only [go_sem]; omega)) only [go_sem, ↓reduceIte]
    refine call_by r2 ?_
    cases b2
    · simp (config := { maxSteps := 1000000 }) (disch := first | omega | (simp only [go_sem]; omega)) only [go_sem, ↓reduceIte]
      refine call_by hw ?_
      simp (config := { maxSteps := 1000000 }) (disch := first | omega | (simp only [go_sem]; omega)) only [go_sem, ↓reduceIte]
    · simp (config := { maxSteps := 1000000 }) (disch := first | omega | (simp only [go_sem]; omega)) only [go_sem, ↓reduceIte]
      refine call_by r3 ?_
      simp (config := { maxSteps := 1000000 }) (disch := first | omega | (simp only [go_sem]; omega)) only [go_sem, ↓reduceIte]
      refine call_by r4 ?_
      simp (config := { maxSteps := 1000000 }) (disch := first | omega | (simp only [go_sem]; omega)) only [go_sem, ↓reduceIte]
      refine call_by r7 ?_
      simp (config := { maxSteps := 1000000 }) (disch := first | omega | (simp only [go_sem]; omega)) only [go_sem, ↓reduceIte]
      refine call_by r5 ?_
      simp (config := { maxSteps := 1000000 }) (disch := first | omega | (simp only [go_sem]; omega)) only [go_sem, ↓reduceIte]
      refine call_by r6 ?_
      simp (config := { maxSteps := 1000000 }) (disch := first | omega | (simp only [go_sem]; omega)) only [go_sem, ↓reduceIte]
      try simp
theorem pbG_len (s : Cs) : (pbG s).n.length ≤ 40 ∧ (pbG s).e.length ≤ 80 ∧ (pbP s).n.length ≤ 40 ∧ (pbP s).e.length ≤ 80 ∧ (pbQ s).n.length ≤ 40 ∧ (pbQ s).e.length ≤ 80 := by
  by_cases h : pbErr s = 0
  · obtain ⟨l1, l2, _⟩ := pbN_len h
    simp only [pbG, pbP, pbQ, h, if_true, pbG0, asA, asB, List.length_map]
    omega
  · simp [pbG, pbP, pbQ, h, g0, m0]
theorem w_l11_PullbackOf (hw : K_l11_awake P F) (hf : K_r11_Few P F) (hm : K_pullback_Of P F) (hm2 : K_r11_Of P F) (hg : K_r05_Same P F) (hs : K_r06_Same P F) (hk : K_pullback_Check P F) (s : Cs) (h1 : s.sm) :
    W P (c_l11_PullbackOf F) (Done [.t 2] [] (.bool true) []) (init [csD s]) := by
  refine W_of ?_
  have r1 := hf s h1
  have r3 := hm s
  have r4 := hm2 s
  obtain ⟨l1, l2, l3, l4, l5, l6⟩ := pbG_len s
  have r5 := hk s (pbG s) (pbP s) (pbQ s)
  have hch := @check_own s
  have s1 := hg (pbG s) (pbG s) (by unfold maxL; omega) (by unfold maxL; omega)
  have s2 := hs (pbP s) (pbP s) (by unfold maxL; omega) (by unfold maxL; omega)
  have s3 := hs (pbQ s) (pbQ s) (by unfold maxL; omega) (by unfold maxL; omega)
  generalize fewCs s = b1 at *
  generalize checkM s (pbG s) (pbP s) (pbQ s) = b3 at *
  generalize pbErr s = er at *
  generalize pbG s = gg at *
  generalize pbP s = pp at *
  generalize pbQ s = qq at *
  obtain ⟨gn, ge⟩ := gg
  obtain ⟨pn, pe⟩ := pp
  obtain ⟨qn, qe⟩ := qq
  simp only [csD, gD, gA, mD, mA] at *
  simp (config := { maxSteps := 1000000 }) (disch := first | omega | (simp only [go_sem]; omega)) only [go_sem, ↓reduceIte]
  refine call_by hw ?_
  simp (config := { maxSteps := 1000000 }) (disch := first | omega | (simp only [go_sem]; omega)) only [go_sem, ↓reduceIte]
  refine call_by r1 ?_
  cases b1
  · simp (config := { maxSteps := 1000000 }) (disch := first | omega | (simp only [go_sem]; omega)) only [go_sem, ↓reduceIte]
    refine call_by hw ?_
    simp (config := { maxSteps := 1000000 }) (disch := first | omega | (simp only [go_sem]; omega)) only [go_sem, ↓reduceIte]
  · simp (config := { maxSteps := 1000000 }) (disch := first | omega | (simp only [go_sem]; omega)) only [go_sem, ↓reduceIte]
    refine call_by r3 ?_
    simp (config := { maxSteps := 1000000 }) (disch := first | omega | (simp only [go_sem]; omega)) only [go_sem, ↓reduceIte]
    refine call_by r4 ?_
    simp (config := { maxSteps := 1000000 }) (disch := first | omega | (simp only [go_sem]; omega)) only [go_sem, ↓reduceIte]
    refine call_by s1 ?_
    simp (config := { maxSteps := 1000000 }) (disch := first | omega | (simp only [go_sem]; omega)) only [go_sem, ↓reduceIte]
    refine call_by s2 ?_
    simp (config := { maxSteps := 1000000 }) (disch := first | omega | (simp only [go_sem]; omega)) only [go_sem, ↓reduceIte]
    refine call_by s3 ?_
    simp (config := { maxSteps := 1000000 }) (disch := first | omega | (simp only [go_sem]; omega)) only [go_sem, ↓reduceIte]
    refine bran_ndec (fun c => ?_) (fun c => ?_)
    · simp (config := { maxSteps := 1000000 }) (disch := first | omega | (simp only [go_sem]; omega)) only [go_sem, ↓reduceIte, c]
      try simp
    · subst c
      have hch := hch rfl
      subst hch
      simp (config := { maxSteps := 1000000 }) (disch := first | omega | (simp only [go_sem]; omega)) only [go_sem, ↓reduceIte]
      refine call_by r5 ?_
      simp (config := { maxSteps := 1000000 }) (disch := first | omega | (simp only [go_sem]; omega)) only [go_sem, ↓reduceIte]
      try simp
def shCs : Sh := .cat [shG, shG, shG, shM, shM]
def shCo : Sh := .cat [shG, shM, shM]
theorem rd_cospan {x : D} (h : HasEl shCs x) : ∃ s : Cs, x = csD s ∧ s.sm := by
  simp only [shCs, HasEl] at h
  obtain ⟨ds, rfl, h⟩ := h
  obtain ⟨_, _, rfl, h1, h⟩ := hasShs_cat h
  obtain ⟨_, _, rfl, h2, h⟩ := hasShs_cat h
  obtain ⟨_, _, rfl, h3, h⟩ := hasShs_cat h
  obtain ⟨_, _, rfl, h4, h⟩ := hasShs_cat h
  obtain ⟨_, _, rfl, h5, h⟩ := hasShs_cat h
  obtain rfl := hasShs_nil h
  obtain ⟨b, rfl⟩ := rd_gl h1
  obtain ⟨c, rfl⟩ := rd_gl h2
  obtain ⟨d, rfl⟩ := rd_gl h3
  obtain ⟨f, rfl, h6⟩ := rd_ml h4
  obtain ⟨g, rfl, h7⟩ := rd_ml h5
  exact ⟨⟨b, c, d, f, g⟩, rfl, h6, h7⟩
theorem rd_cone {x : D} (h : HasEl shCo x) : ∃ (g : G) (f k : Mo), x = .agg (gL g ++ (moL f ++ moL k)) ∧ f.sm ∧ k.sm := by
  simp only [shCo, HasEl] at h
  obtain ⟨ds, rfl, h⟩ := h
  obtain ⟨_, _, rfl, h1, h⟩ := hasShs_cat h
  obtain ⟨_, _, rfl, h2, h⟩ := hasShs_cat h
  obtain ⟨_, _, rfl, h3, h⟩ := hasShs_cat h
  obtain rfl := hasShs_nil h
  obtain ⟨g, rfl⟩ := rd_gl h1
  obtain ⟨f, rfl, h6⟩ := rd_ml h2
  obtain ⟨k, rfl, h7⟩ := rd_ml h3
  exact ⟨g, f, k, by simp, h6, h7⟩
theorem x_l11_PullbackMediate (h : K_l11_PullbackMediate P F) (args : List D) (ha : HasEls [shCs, shCo] args) : FC P (F "l11.PullbackMediate") args (.bool true) [] := by
  simp only [HasEls] at ha
  obtain ⟨_, _, rfl, h1, _, _, rfl, h2, rfl⟩ := ha
  obtain ⟨s, rfl, k1⟩ := rd_cospan h1
  obtain ⟨g, f, k, rfl, k2, k3⟩ := rd_cone h2
  exact h s g f k k1 k2 k3
theorem x_l11_PullbackOf (h : K_l11_PullbackOf P F) (args : List D) (ha : HasEls [shCs] args) : FC P (F "l11.PullbackOf") args (.bool true) [] := by
  simp only [HasEls] at ha
  obtain ⟨_, _, rfl, h1, rfl⟩ := ha
  obtain ⟨s, rfl, k1⟩ := rd_cospan h1
  exact h s k1
end
end Go.Am
