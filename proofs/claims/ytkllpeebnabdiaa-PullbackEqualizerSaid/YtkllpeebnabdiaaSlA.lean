/- The law PullbackEqualizer. -/
import Derived.Test.YtkllpeebnabdiaaSkI
namespace Go.Am
open Go
set_option linter.unusedVariables false
set_option linter.unusedSimpArgs false
/- l11.PullbackEqualizer -/
def c_l11_PullbackEqualizer_r0 (F : String → Nat) : List LI := [⟨some 1, .bx (.t 0), none⟩,
  ⟨some 2, .mov (.k (.bool false)), none⟩]
def c_l11_PullbackEqualizer_r1 (F : String → Nat) : List LI := [⟨some 13, .call (F "l11.awake") [] [], none⟩,
  ⟨some 14, .not (.t 13), none⟩,
  ⟨some 15, .mov (.t 14), none⟩,
  ⟨some 16, .fad 0 (.t 1), some (15, false)⟩,
  ⟨some 17, .load true 2 (.t 16), some (15, false)⟩,
  ⟨some 18, .call (F "r05.Few") [.t 17] [], some (15, false)⟩,
  ⟨some 19, .not (.t 18), some (15, false)⟩,
  ⟨some 20, .pick (.t 15) (.k (.bool true)) (.t 19), none⟩,
  ⟨some 21, .mov (.t 20), none⟩,
  ⟨some 22, .fad 2 (.t 1), some (21, false)⟩,
  ⟨some 23, .load true 2 (.t 22), some (21, false)⟩,
  ⟨some 24, .call (F "r05.Few") [.t 23] [], some (21, false)⟩,
  ⟨some 25, .not (.t 24), some (21, false)⟩,
  ⟨some 26, .pick (.t 21) (.k (.bool true)) (.t 25), none⟩,
  ⟨some 27, .mov (.t 26), none⟩,
  ⟨some 28, .fad 4 (.t 1), some (27, false)⟩,
  ⟨some 29, .load true 2 (.t 28), some (27, false)⟩,
  ⟨some 30, .call (F "r06.Few") [.t 29, .k (.int .i64 (150))] [], some (27, false)⟩,
  ⟨some 31, .not (.t 30), some (27, false)⟩,
  ⟨some 32, .pick (.t 27) (.k (.bool true)) (.t 31), none⟩,
  ⟨some 33, .mov (.t 32), none⟩,
  ⟨some 34, .fad 6 (.t 1), some (33, false)⟩,
  ⟨some 35, .load true 2 (.t 34), some (33, false)⟩,
  ⟨some 36, .call (F "r06.Few") [.t 35, .k (.int .i64 (150))] [], some (33, false)⟩,
  ⟨some 37, .not (.t 36), some (33, false)⟩,
  ⟨some 38, .pick (.t 33) (.k (.bool true)) (.t 37), none⟩]
def c_l11_PullbackEqualizer_r2 (F : String → Nat) : List LI := [⟨some 39, .call (F "l11.awake") [] [], none⟩,
  ⟨some 2, .mov (.t 39), none⟩]
def c_l11_PullbackEqualizer_r3 (F : String → Nat) : List LI := [⟨some 41, .fad 0 (.t 1), none⟩,
  ⟨some 42, .load true 2 (.t 41), none⟩,
  ⟨some 43, .fad 2 (.t 1), none⟩,
  ⟨some 44, .load true 2 (.t 43), none⟩,
  ⟨some 45, .fad 4 (.t 1), none⟩,
  ⟨some 46, .load true 2 (.t 45), none⟩,
  ⟨some 47, .fad 6 (.t 1), none⟩,
  ⟨some 48, .load true 2 (.t 47), none⟩,
  ⟨some 49, .call (F "pullback.Equalizer") [.t 42, .t 44, .t 46, .t 48] [], none⟩,
  ⟨some 40, .mov (.t 49), none⟩,
  ⟨some 50, .ext (.t 40) 0, none⟩,
  ⟨some 51, .ext (.t 40) 1, none⟩,
  ⟨some 3, .alloc [.nl 1, .nl 1], none⟩,
  ⟨none, .store 2 (.t 3) (.t 50), none⟩,
  ⟨some 4, .mov (.t 51), none⟩]
def c_l11_PullbackEqualizer_r4 (F : String → Nat) : List LI := [⟨some 53, .fad 0 (.t 1), none⟩,
  ⟨some 54, .load true 2 (.t 53), none⟩,
  ⟨some 55, .fad 2 (.t 1), none⟩,
  ⟨some 56, .load true 2 (.t 55), none⟩,
  ⟨some 57, .fad 4 (.t 1), none⟩,
  ⟨some 58, .load true 2 (.t 57), none⟩,
  ⟨some 59, .fad 6 (.t 1), none⟩,
  ⟨some 60, .load true 2 (.t 59), none⟩,
  ⟨some 61, .call (F "r11.Equalizer") [.t 54, .t 56, .t 58, .t 60] [], none⟩,
  ⟨some 52, .mov (.t 61), none⟩,
  ⟨some 62, .ext (.t 52) 0, none⟩,
  ⟨some 63, .ext (.t 52) 1, none⟩,
  ⟨some 5, .alloc [.nl 1, .nl 1], none⟩,
  ⟨none, .store 2 (.t 5) (.t 62), none⟩,
  ⟨some 6, .mov (.t 63), none⟩]
def c_l11_PullbackEqualizer_r5 (F : String → Nat) : List LI := [⟨some 65, .fad 0 (.t 1), none⟩,
  ⟨some 66, .load true 2 (.t 65), none⟩,
  ⟨some 67, .fad 2 (.t 1), none⟩,
  ⟨some 68, .load true 2 (.t 67), none⟩,
  ⟨some 69, .fad 4 (.t 1), none⟩,
  ⟨some 70, .load true 2 (.t 69), none⟩,
  ⟨some 71, .call (F "pullback.Kernel") [.t 66, .t 68, .t 70] [], none⟩,
  ⟨some 64, .mov (.t 71), none⟩,
  ⟨some 72, .ext (.t 64) 0, none⟩,
  ⟨some 73, .ext (.t 64) 1, none⟩,
  ⟨some 74, .ext (.t 64) 2, none⟩,
  ⟨some 7, .mov (.t 72), none⟩,
  ⟨some 8, .mov (.t 73), none⟩,
  ⟨some 9, .mov (.t 74), none⟩]
def c_l11_PullbackEqualizer_r6 (F : String → Nat) : List LI := [⟨some 76, .fad 0 (.t 1), none⟩,
  ⟨some 77, .load true 2 (.t 76), none⟩,
  ⟨some 78, .fad 2 (.t 1), none⟩,
  ⟨some 79, .load true 2 (.t 78), none⟩,
  ⟨some 80, .fad 4 (.t 1), none⟩,
  ⟨some 81, .load true 2 (.t 80), none⟩,
  ⟨some 82, .call (F "r11.Kernel") [.t 77, .t 79, .t 81] [], none⟩,
  ⟨some 75, .mov (.t 82), none⟩,
  ⟨some 83, .ext (.t 75) 0, none⟩,
  ⟨some 84, .ext (.t 75) 1, none⟩,
  ⟨some 85, .ext (.t 75) 2, none⟩,
  ⟨some 10, .mov (.t 83), none⟩,
  ⟨some 11, .mov (.t 84), none⟩,
  ⟨some 12, .mov (.t 85), none⟩]
def c_l11_PullbackEqualizer_r7 (F : String → Nat) : List LI := [⟨some 86, .load true 2 (.t 3), none⟩,
  ⟨some 87, .load true 2 (.t 5), none⟩,
  ⟨some 88, .call (F "r07.Same") [.t 86, .t 87] [], none⟩,
  ⟨some 89, .not (.t 88), none⟩,
  ⟨some 90, .mov (.t 89), none⟩,
  ⟨some 91, .mov (.t 4), some (90, false)⟩,
  ⟨some 92, .mov (.t 6), some (90, false)⟩,
  ⟨some 93, .bin .neq (.t 91) (.t 92), some (90, false)⟩,
  ⟨some 94, .pick (.t 90) (.k (.bool true)) (.t 93), none⟩,
  ⟨some 95, .mov (.t 94), none⟩,
  ⟨some 96, .mov (.t 7), some (95, false)⟩,
  ⟨some 97, .mov (.t 10), some (95, false)⟩,
  ⟨some 98, .call (F "r11.SamePairs") [.t 96, .t 97] [], some (95, false)⟩,
  ⟨some 99, .not (.t 98), some (95, false)⟩,
  ⟨some 100, .pick (.t 95) (.k (.bool true)) (.t 99), none⟩,
  ⟨some 101, .mov (.t 100), none⟩,
  ⟨some 102, .mov (.t 8), some (101, false)⟩,
  ⟨some 103, .mov (.t 11), some (101, false)⟩,
  ⟨some 104, .call (F "r11.SamePairs") [.t 102, .t 103] [], some (101, false)⟩,
  ⟨some 105, .not (.t 104), some (101, false)⟩,
  ⟨some 106, .pick (.t 101) (.k (.bool true)) (.t 105), none⟩,
  ⟨some 107, .mov (.t 106), none⟩,
  ⟨some 108, .mov (.t 9), some (107, false)⟩,
  ⟨some 109, .mov (.t 12), some (107, false)⟩,
  ⟨some 110, .bin .neq (.t 108) (.t 109), some (107, false)⟩,
  ⟨some 111, .pick (.t 107) (.k (.bool true)) (.t 110), none⟩]
def c_l11_PullbackEqualizer_r8 (F : String → Nat) : List LI := [⟨some 2, .mov (.k (.bool false)), none⟩]
def c_l11_PullbackEqualizer_r9 (F : String → Nat) : List LI := [⟨some 112, .mov (.t 9), none⟩,
  ⟨some 113, .bin .neq (.t 112) (.k (.int .i64 (0))), none⟩,
  ⟨some 114, .mov (.t 113), none⟩,
  ⟨some 115, .fad 0 (.t 1), some (114, false)⟩,
  ⟨some 116, .load true 2 (.t 115), some (114, false)⟩,
  ⟨some 117, .fad 2 (.t 1), some (114, false)⟩,
  ⟨some 118, .load true 2 (.t 117), some (114, false)⟩,
  ⟨some 119, .fad 4 (.t 1), some (114, false)⟩,
  ⟨some 120, .load true 2 (.t 119), some (114, false)⟩,
  ⟨some 121, .call (F "r06.Injective") [.t 116, .t 118, .t 120] [], some (114, false)⟩,
  ⟨some 122, .mov (.t 7), some (114, false)⟩,
  ⟨some 123, .len (.t 122), some (114, false)⟩,
  ⟨some 124, .mov (.t 8), some (114, false)⟩,
  ⟨some 125, .len (.t 124), some (114, false)⟩,
  ⟨some 126, .bin .add (.t 123) (.t 125), some (114, false)⟩,
  ⟨some 127, .bin .eql (.t 126) (.k (.int .i64 (0))), some (114, false)⟩,
  ⟨some 128, .eqB false (.t 121) (.t 127), some (114, false)⟩,
  ⟨some 129, .pick (.t 114) (.k (.bool true)) (.t 128), none⟩,
  ⟨some 2, .mov (.t 129), none⟩]
def c_l11_PullbackEqualizer (F : String → Nat) : LC := (.seq (.reg (c_l11_PullbackEqualizer_r0 F) [1]) (.seq (.seq (.reg (c_l11_PullbackEqualizer_r1 F) [1, 38]) (.cond (.t 38) (.seq (.reg (c_l11_PullbackEqualizer_r2 F) [2]) .ret) .skip)) (.seq (.reg (c_l11_PullbackEqualizer_r3 F) [1, 3, 4]) (.seq (.reg (c_l11_PullbackEqualizer_r4 F) [1, 3, 4, 5, 6]) (.seq (.reg (c_l11_PullbackEqualizer_r5 F) [1, 3, 4, 5, 6, 7, 8, 9]) (.seq (.reg (c_l11_PullbackEqualizer_r6 F) [1, 3, 4, 5, 6, 7, 8, 9, 10, 11, 12]) (.seq (.seq (.reg (c_l11_PullbackEqualizer_r7 F) [1, 7, 8, 9, 111]) (.cond (.t 111) (.seq (.reg (c_l11_PullbackEqualizer_r8 F) [2]) .ret) .skip)) (.seq (.reg (c_l11_PullbackEqualizer_r9 F) [2]) .ret))))))))
def h_l11_PullbackEqualizer : Hints := ⟨[], fun _ => [], tab [(0, [1]), (1, [1, 38]), (2, [2]), (3, [1, 3, 4]), (4, [1, 3, 4, 5, 6]), (5, [1, 3, 4, 5, 6, 7, 8, 9]), (6, [1, 3, 4, 5, 6, 7, 8, 9, 10, 11, 12]), (7, [1, 7, 8, 9, 111]), (8, [2]), (9, [2])], tab []⟩

attribute [go_sem] c_l11_PullbackEqualizer_r0 c_l11_PullbackEqualizer_r1 c_l11_PullbackEqualizer_r2 c_l11_PullbackEqualizer_r3 c_l11_PullbackEqualizer_r4 c_l11_PullbackEqualizer_r5 c_l11_PullbackEqualizer_r6 c_l11_PullbackEqualizer_r7 c_l11_PullbackEqualizer_r8 c_l11_PullbackEqualizer_r9 c_l11_PullbackEqualizer
section
variable (P : Program) (F : String → Nat)
def K_l11_PullbackEqualizer : Prop := ∀ (a b : G) (f g : Mo), f.sm → g.sm → FC P (F "l11.PullbackEqualizer") [.agg [.lst 1 (ints a.n), .lst 3 (eds a.e), .lst 1 (ints b.n), .lst 3 (eds b.e), .lst 1 (ints f.n), .lst 1 (ints f.e), .lst 1 (ints g.n), .lst 1 (ints g.e)]] (.bool true) []
end
section
variable {P : Program} {F : String → Nat} {α : Type}
theorem equalI_nil {l : List Int} : ∀ i, i ≤ l.length → (equalI l i = [] ↔ ∀ j k : Nat, j < i → j < k → k < l.length → gt l j ≠ gt l k) := by
  intro i hi
  unfold equalI rowE
  simp only [List.flatMap_eq_nil_iff, List.mem_range, List.map_eq_nil_iff, List.filter_eq_nil_iff, Bool.and_eq_true, decide_eq_true_eq, not_and]
  exact ⟨fun h j k h1 h2 h3 => h j h1 k h3 h2, fun h j h1 k h3 h2 => h j k h1 h2 h3⟩
theorem equalL_nil {l : List Int} : equalL l = [] ↔ l.Nodup := by
  unfold equalL
  rw [equalI_nil l.length (Nat.le_refl _), List.nodup_iff_pairwise_ne, List.pairwise_iff_getElem]
  constructor
  · intro h i j hi hj hij
    have := h i j hi hij hj
    rw [gt_nat hi, gt_nat hj] at this
    exact this
  · intro h j k h1 h2 h3
    rw [gt_nat h1, gt_nat h3]
    exact h j k h1 h3 h2
theorem inj_kern {a b : G} {f : Mo} (h : validM a b f = 0) : injM a b f = decide (((kernN a b f).length : Int) + (kernE a b f).length = 0) := by
  have e1 : (kernN a b f).length = 0 ↔ f.n.Nodup := by rw [List.length_eq_zero_iff, kernN, if_pos h, equalL_nil]
  have e2 : (kernE a b f).length = 0 ↔ f.e.Nodup := by rw [List.length_eq_zero_iff, kernE, if_pos h, equalL_nil]
  unfold injM distinct
  rw [Bool.eq_iff_iff]
  simp only [h, decide_true, Bool.true_and, Bool.and_eq_true, decide_eq_true_eq, ← e1, ← e2]
  omega
theorem kern_len {a b : G} {f : Mo} : (kernN a b f).length ≤ 10000 ∧ (kernE a b f).length ≤ 10000 := by
  unfold kernN kernE
  split
  · rename_i h
    obtain ⟨h1, h2, _⟩ := validM_len h
    refine ⟨Nat.le_trans (equalI_len _ _) (Nat.le_trans (Nat.mul_le_mul h1 h1) (by omega)), Nat.le_trans (equalI_len _ _) (Nat.le_trans (Nat.mul_le_mul h2 h2) (by omega))⟩
  · simp
theorem eqM_len {a b : G} {f g : Mo} : (eqM a b f g).1.n.length ≤ 40 ∧ (eqM a b f g).1.e.length ≤ 80 := by
  unfold eqM
  split
  · simp
  · rename_i h
    have h := Decidable.not_not.1 h
    split
    · simp
    · obtain ⟨h1, h2, _⟩ := validM_len h
      exact ⟨Nat.le_trans (sel_len _ _) h1, Nat.le_trans (sel_len _ _) h2⟩
theorem w_l11_PullbackEqualizer (hw : K_l11_awake P F) (hg : K_r05_Few P F) (hm : K_r06_Few P F) (he : K_pullback_Equalizer P F) (he2 : K_r11_Equalizer P F) (hk : K_pullback_Kernel P F) (hk2 : K_r11_Kernel P F) (hs : K_r07_Same P F) (hp : K_r11_SamePairs P F) (hi : K_r06_Injective P F) (a b : G) (f g : Mo) (h1 : f.sm) (h2 : g.sm) :
    W P (c_l11_PullbackEqualizer F) (Done [.t 2] [] (.bool true) []) (init [.agg [.lst 1 (ints a.n), .lst 3 (eds a.e), .lst 1 (ints b.n), .lst 3 (eds b.e), .lst 1 (ints f.n), .lst 1 (ints f.e), .lst 1 (ints g.n), .lst 1 (ints g.e)]]) := by
  refine W_of ?_
  have g1 := hg a
  have g2 := hg b
  have m1 := hm f 150 h1.1 h1.2
  have m2 := hm g 150 h2.1 h2.2
  have r1 := he a b f g
  have r2 := he2 a b f g
  have k1 := hk a b f
  have k2 := hk2 a b f
  have r3 := hi a b f h1.1 h1.2
  have hin := @inj_kern a b f
  obtain ⟨l1, l2⟩ := @kern_len a b f
  obtain ⟨l3, l4⟩ := @eqM_len a b f g
  generalize few a = b1 at *
  generalize few b = b2 at *
  generalize fewM f 150 = b3 at *
  generalize fewM g 150 = b4 at *
  generalize eqM a b f g = q at *
  generalize validM a b f = v at *
  generalize injM a b f = ij at *
  generalize kernN a b f = kn at *
  generalize kernE a b f = ke at *
  obtain ⟨⟨qn, qe⟩, qq⟩ := q
  simp only [gD, mD, mA] at g1 g2 m1 m2 r1 r2 k1 k2 r3 l3 l4
  have s1 := hs ⟨qn, qe⟩ ⟨qn, qe⟩ (by unfold maxL; simp only; omega) (by unfold maxL; simp only; omega)
  have s2 := hp kn kn (by unfold maxL; omega)
  have s3 := hp ke ke (by unfold maxL; omega)
  simp only [mD] at s1
  have fin : ∀ G : Prop, G → G := fun _ h => h
  simp (config := { maxSteps := 1000000 }) (disch := first | omega | (simp only [go_sem]; omega)) only [go_sem, ↓reduceIte]
  refine call_by hw ?_
  simp (config := { maxSteps := 1000000 }) (disch := first | omega | (simp only [go_sem]; omega)) only [go_sem, ↓reduceIte]
  refine call_by g1 ?_
  cases b1
  · simp (config := { maxSteps := 1000000 }) (disch := first | omega | (simp only [go_sem]; omega)) only [go_sem, ↓reduceIte]
    refine call_by hw ?_
    simp (config := { maxSteps := 1000000 }) (disch := first | omega | (simp only [go_sem]; omega)) only [go_sem, ↓reduceIte]
  · simp (config := { maxSteps := 1000000 }) (disch := first | omega | (simp only [go_sem]; omega)) only [go_sem, ↓reduceIte]
    refine call_by g2 ?_
    cases b2
    · simp (config := { maxSteps := 1000000 }) (disch := first | omega | (simp only [go_sem]; omega)) only [go_sem, ↓reduceIte]
      refine call_by hw ?_
      simp (config := { maxSteps := 1000000 }) (disch := first | omega | (simp only [go_sem]; omega)) only [go_sem, ↓reduceIte]
    · simp (config := { maxSteps := 1000000 }) (disch := first | omega | (simp only [go_sem]; omega)) only [go_sem, ↓reduceIte]
      refine call_by m1 ?_
      cases b3
      · simp (config := { maxSteps := 1000000 }) (disch := first | omega | (simp only [go_sem]; omega)) only [go_sem, ↓reduceIte]
        refine call_by hw ?_
        simp (config := { maxSteps := 1000000 }) (disch := first | omega | (simp only [go_sem]; omega)) only [go_sem, ↓reduceIte]
      · simp (config := { maxSteps := 1000000 }) (disch := first | omega | (simp only [go_sem]; omega)) only [go_sem, ↓reduceIte]
        refine call_by m2 ?_
        cases b4
        · simp (config := { maxSteps := 1000000 }) (disch := first | omega | (simp only [go_sem]; omega)) only [go_sem, ↓reduceIte]
          refine call_by hw ?_
          simp (config := { maxSteps := 1000000 }) (disch := first | omega | (simp only [go_sem]; omega)) only [go_sem, ↓reduceIte]
        · simp (config := { maxSteps := 1000000 }) (disch := first | omega | (simp only [go_sem]; omega)) only [go_sem, ↓reduceIte]
          refine call_by r1 ?_
          simp (config := { maxSteps := 1000000 }) (disch := first | omega | (simp only [go_sem]; omega)) only [go_sem, ↓reduceIte]
          refine call_by r2 ?_
          simp (config := { maxSteps := 1000000 }) (disch := first | omega | (simp only [go_sem]; omega)) only [go_sem, ↓reduceIte]
          refine call_by k1 ?_
          simp (config := { maxSteps := 1000000 }) (disch := first | omega | (simp only [go_sem]; omega)) only [go_sem, ↓reduceIte]
          refine call_by k2 ?_
          simp (config := { maxSteps := 1000000 }) (disch := first | omega | (simp only [go_sem]; omega)) only [go_sem, ↓reduceIte]
          refine call_by s1 ?_
          simp (config := { maxSteps := 1000000 }) (disch := first | omega | (simp only [go_sem]; omega)) only [go_sem, ↓reduceIte]
          refine call_by s2 ?_
          simp (config := { maxSteps := 1000000 }) (disch := first | omega | (simp only [go_sem]; omega)) only [go_sem, ↓reduceIte]
          refine call_by s3 ?_
          simp (config := { maxSteps := 1000000 }) (disch := first | omega | (simp only [go_sem]; omega)) only [go_sem, ↓reduceIte]
          refine bran_ndec (fun c => ?_) (fun c => ?_)
          · simp (config := { maxSteps := 1000000 }) (disch := first | omega | (simp only [go_sem]; omega)) only [go_sem, ↓reduceIte, c]
          · subst c
            have hin := hin rfl
            simp (config := { maxSteps := 1000000 }) (disch := first | omega | (simp only [go_sem]; omega)) only [go_sem, ↓reduceIte]
            refine call_by r3 ?_
            subst hin
            simp (config := { maxSteps := 1000000 }) (disch := first | omega | (simp only [go_sem]; omega)) only [go_sem, ↓reduceIte]
            try simp
theorem x_l11_PullbackEqualizer (h : K_l11_PullbackEqualizer P F) (args : List D) (ha : HasEls [shAr] args) : FC P (F "l11.PullbackEqualizer") args (.bool true) [] := by
  simp only [HasEls] at ha
  obtain ⟨_, _, rfl, h1, rfl⟩ := ha
  obtain ⟨a, b, f, g, rfl, h1, h2⟩ := rd_arrows h1
  exact h a b f g h1 h2
end
end Go.Am
