/- Chapter 6: inverses; the example's check. -/
import Derived.Test.YtgmojdpklekldaaSmF
namespace Go.Am
open Go
set_option linter.unusedVariables false
set_option linter.unusedSimpArgs false
attribute [local irreducible] W
/- l06.awake -/
def c_l06_awake_r0 (F : String → Nat) : List LI := [⟨some 0, .mov (.k (.bool false)), none⟩]
def c_l06_awake_r1 (F : String → Nat) : List LI := [⟨some 9, .buildSl 1 8 (.int .i64 (0)) 2 [(0, .k (.int .i64 (0))), (1, .k (.int .i64 (0)))], none⟩,
  ⟨some 10, .build [.int .i64 (0), .int .i64 (0), .int .i64 (0)] [(1, 1, .k (.int .i64 (0))), (2, 1, .k (.int .i64 (1)))], none⟩,
  ⟨some 11, .buildSl 3 24 (.agg [.int .i64 (0), .int .i64 (0), .int .i64 (0)]) 1 [(0, .t 10)], none⟩,
  ⟨some 12, .build [.nl 1, .nl 3] [(0, 1, .t 9), (1, 1, .t 11)], none⟩,
  ⟨some 1, .alloc [.nl 1, .nl 3], none⟩,
  ⟨none, .store 2 (.t 1) (.t 12), none⟩]
def c_l06_awake_r2 (F : String → Nat) : List LI := [⟨some 13, .buildSl 1 8 (.int .i64 (0)) 1 [(0, .k (.int .i64 (0)))], none⟩,
  ⟨some 14, .build [.int .i64 (0), .int .i64 (0), .int .i64 (0)] [(1, 1, .k (.int .i64 (0))), (2, 1, .k (.int .i64 (0)))], none⟩,
  ⟨some 15, .buildSl 3 24 (.agg [.int .i64 (0), .int .i64 (0), .int .i64 (0)]) 1 [(0, .t 14)], none⟩,
  ⟨some 16, .build [.nl 1, .nl 3] [(0, 1, .t 13), (1, 1, .t 15)], none⟩,
  ⟨some 2, .alloc [.nl 1, .nl 3], none⟩,
  ⟨none, .store 2 (.t 2) (.t 16), none⟩]
def c_l06_awake_r3 (F : String → Nat) : List LI := [⟨some 18, .load true 2 (.t 1), none⟩,
  ⟨some 19, .load true 2 (.t 2), none⟩,
  ⟨some 20, .call (F "morphism.All") [.t 18, .t 19] [], none⟩,
  ⟨some 17, .mov (.t 20), none⟩,
  ⟨some 21, .ext (.t 17) 0, none⟩,
  ⟨some 22, .ext (.t 17) 1, none⟩,
  ⟨some 3, .mov (.t 21), none⟩,
  ⟨some 4, .mov (.t 22), none⟩]
def c_l06_awake_r4 (F : String → Nat) : List LI := [⟨some 24, .load true 2 (.t 2), none⟩,
  ⟨some 25, .load true 2 (.t 1), none⟩,
  ⟨some 26, .call (F "morphism.All") [.t 24, .t 25] [], none⟩,
  ⟨some 23, .mov (.t 26), none⟩,
  ⟨some 27, .ext (.t 23) 0, none⟩,
  ⟨some 28, .ext (.t 23) 1, none⟩,
  ⟨some 5, .mov (.t 27), none⟩,
  ⟨some 6, .mov (.t 28), none⟩]
def c_l06_awake_r5 (F : String → Nat) : List LI := [⟨some 30, .load true 2 (.t 1), none⟩,
  ⟨some 31, .load true 2 (.t 1), none⟩,
  ⟨some 32, .call (F "morphism.All") [.t 30, .t 31] [], none⟩,
  ⟨some 29, .mov (.t 32), none⟩,
  ⟨some 33, .ext (.t 29) 0, none⟩,
  ⟨some 34, .ext (.t 29) 1, none⟩,
  ⟨some 7, .mov (.t 33), none⟩,
  ⟨some 8, .mov (.t 34), none⟩]
def c_l06_awake_r6 (F : String → Nat) : List LI := [⟨some 35, .mov (.t 4), none⟩,
  ⟨some 36, .bin .neq (.t 35) (.k (.int .i64 (0))), none⟩,
  ⟨some 37, .mov (.t 36), none⟩,
  ⟨some 38, .mov (.t 6), some (37, false)⟩,
  ⟨some 39, .bin .neq (.t 38) (.k (.int .i64 (0))), some (37, false)⟩,
  ⟨some 40, .pick (.t 37) (.k (.bool true)) (.t 39), none⟩,
  ⟨some 41, .mov (.t 40), none⟩,
  ⟨some 42, .mov (.t 8), some (41, false)⟩,
  ⟨some 43, .bin .neq (.t 42) (.k (.int .i64 (0))), some (41, false)⟩,
  ⟨some 44, .pick (.t 41) (.k (.bool true)) (.t 43), none⟩,
  ⟨some 45, .mov (.t 44), none⟩,
  ⟨some 46, .mov (.t 3), some (45, false)⟩,
  ⟨some 47, .len (.t 46), some (45, false)⟩,
  ⟨some 48, .bin .neq (.t 47) (.k (.int .i64 (1))), some (45, false)⟩,
  ⟨some 49, .pick (.t 45) (.k (.bool true)) (.t 48), none⟩,
  ⟨some 50, .mov (.t 49), none⟩,
  ⟨some 51, .mov (.t 5), some (50, false)⟩,
  ⟨some 52, .len (.t 51), some (50, false)⟩,
  ⟨some 53, .bin .neq (.t 52) (.k (.int .i64 (0))), some (50, false)⟩,
  ⟨some 54, .pick (.t 50) (.k (.bool true)) (.t 53), none⟩,
  ⟨some 55, .mov (.t 54), none⟩,
  ⟨some 56, .mov (.t 7), some (55, false)⟩,
  ⟨some 57, .len (.t 56), some (55, false)⟩,
  ⟨some 58, .bin .neq (.t 57) (.k (.int .i64 (1))), some (55, false)⟩,
  ⟨some 59, .pick (.t 55) (.k (.bool true)) (.t 58), none⟩]
def c_l06_awake_r7 (F : String → Nat) : List LI := [⟨some 0, .mov (.k (.bool false)), none⟩]
def c_l06_awake_r8 (F : String → Nat) : List LI := [⟨some 60, .mov (.t 3), none⟩,
  ⟨some 61, .iad 2 (.t 60) (.k (.int .i64 (0))), none⟩,
  ⟨some 62, .load true 2 (.t 61), none⟩,
  ⟨some 63, .buildSl 1 8 (.int .i64 (0)) 2 [(0, .k (.int .i64 (0))), (1, .k (.int .i64 (0)))], none⟩,
  ⟨some 64, .buildSl 1 8 (.int .i64 (0)) 1 [(0, .k (.int .i64 (0)))], none⟩,
  ⟨some 65, .build [.nl 1, .nl 1] [(0, 1, .t 63), (1, 1, .t 64)], none⟩,
  ⟨some 66, .call (F "morphism.Same") [.t 62, .t 65] [], none⟩,
  ⟨some 67, .mov (.t 66), none⟩,
  ⟨some 68, .load true 2 (.t 1), some (67, true)⟩,
  ⟨some 69, .load true 2 (.t 2), some (67, true)⟩,
  ⟨some 70, .mov (.t 3), some (67, true)⟩,
  ⟨some 71, .iad 2 (.t 70) (.k (.int .i64 (0))), some (67, true)⟩,
  ⟨some 72, .load true 2 (.t 71), some (67, true)⟩,
  ⟨some 73, .call (F "morphism.Surjective") [.t 68, .t 69, .t 72] [], some (67, true)⟩,
  ⟨some 74, .pick (.t 67) (.t 73) (.k (.bool false)), none⟩,
  ⟨some 75, .mov (.t 74), none⟩,
  ⟨some 76, .load true 2 (.t 1), some (75, true)⟩,
  ⟨some 77, .load true 2 (.t 2), some (75, true)⟩,
  ⟨some 78, .mov (.t 3), some (75, true)⟩,
  ⟨some 79, .iad 2 (.t 78) (.k (.int .i64 (0))), some (75, true)⟩,
  ⟨some 80, .load true 2 (.t 79), some (75, true)⟩,
  ⟨some 81, .call (F "morphism.Injective") [.t 76, .t 77, .t 80] [], some (75, true)⟩,
  ⟨some 82, .not (.t 81), some (75, true)⟩,
  ⟨some 83, .pick (.t 75) (.t 82) (.k (.bool false)), none⟩,
  ⟨some 0, .mov (.t 83), none⟩]
def c_l06_awake (F : String → Nat) : LC := (.seq (.reg (c_l06_awake_r0 F) []) (.seq (.reg (c_l06_awake_r1 F) [1]) (.seq (.reg (c_l06_awake_r2 F) [1, 2]) (.seq (.reg (c_l06_awake_r3 F) [1, 2, 3, 4]) (.seq (.reg (c_l06_awake_r4 F) [1, 2, 3, 4, 5, 6]) (.seq (.reg (c_l06_awake_r5 F) [1, 2, 3, 4, 5, 6, 7, 8]) (.seq (.seq (.reg (c_l06_awake_r6 F) [1, 2, 3, 59]) (.cond (.t 59) (.seq (.reg (c_l06_awake_r7 F) [0]) .ret) .skip)) (.seq (.dreg [(1, none, [], true), (2, none, [], true), (3, none, [1, 2], true), (4, (some 0), [1, 2, 3], false)] (c_l06_awake_r8 F) [0]) .ret))))))))
def h_l06_awake : Hints := ⟨[], fun _ => [], tab [(0, []), (1, [1]), (2, [1, 2]), (3, [1, 2, 3, 4]), (4, [1, 2, 3, 4, 5, 6]), (5, [1, 2, 3, 4, 5, 6, 7, 8]), (6, [1, 2, 3, 59]), (7, [0]), (8, [0])], tab []⟩

attribute [go_sem] c_l06_awake_r0 c_l06_awake_r1 c_l06_awake_r2 c_l06_awake_r3 c_l06_awake_r4 c_l06_awake_r5 c_l06_awake_r6 c_l06_awake_r7 c_l06_awake_r8 c_l06_awake
section
variable (P : Program) (F : String → Nat)
def K_l06_awake : Prop := FC P (F "l06.awake") [] (.bool true) []
end
section
variable {P : Program} {F : String → Nat} {α : Type}
theorem bij_len {l : List Int} {n : Nat} (hd : distinct l = true) (hc : covers l n = true) (hb : ∀ x ∈ l, 0 ≤ x ∧ x < n) : l.length = n := by
  have h1 := imgs_inj.2 (show l.Nodup by simpa [distinct] using hd)
  have h2 := sur_imgs hb
  rw [hc, decide_eq_true_eq] at h2
  omega
theorem bijM {a b : G} {m : Mo} (h1 : injM a b m = true) (h2 : surM a b m = true) : (m.n.Nodup ∧ m.e.Nodup) ∧ m.n.length = b.n.length ∧ m.e.length = b.e.length ∧ (∀ x ∈ m.n, 0 ≤ x ∧ x < m.n.length) ∧ (∀ x ∈ m.e, 0 ≤ x ∧ x < m.e.length) := by
  unfold injM at h1
  unfold surM at h2
  simp only [Bool.and_eq_true, decide_eq_true_eq] at h1 h2
  obtain ⟨hv, h3, h4⟩ := h1
  obtain ⟨_, h5, h6⟩ := h2
  obtain ⟨b1, b2⟩ := validM_bd hv
  have e1 := bij_len h3 h5 b1
  have e2 := bij_len h4 h6 b2
  rw [← e1] at b1
  rw [← e2] at b2
  exact ⟨⟨by simpa [distinct] using h3, by simpa [distinct] using h4⟩, e1, e2, b1, b2⟩
theorem w_morphism_Inverse (hv : K_morphism_Valid P F) (hi : K_morphism_Injective P F) (hj : K_morphism_Surjective P F) (hb : K_morphism_back P F) (a b : G) (m : Mo) :
    W P (c_morphism_Inverse F) (Done [.c 6 true 2, .t 7] [] (.tup [mA (invM a b m).1, .int .i64 (invM a b m).2]) []) (init [gD a, gD b, mD m]) := by
  refine W_of ?_
  have r1 := hv a b m
  have r2 := hi a b m
  have r3 := hj a b m
  have hl := @validM_len a b m
  have hbj := @bijM a b m
  have hE : invM a b m = if validM a b m ≠ 0 then (m0, validM a b m) else if injM a b m = true ∧ surM a b m = true then (⟨backL m.n m.n.length, backL m.e m.e.length⟩, 0) else (m0, 10) := rfl
  generalize invM a b m = q at *
  generalize validM a b m = v at *
  generalize injM a b m = b1 at *
  generalize surM a b m = b2 at *
  by_cases c : v = 0
  · subst c
    rw [if_neg (by simp)] at hE
    obtain ⟨l1, l2, _⟩ := hl rfl
    cases b1
    · rw [if_neg (by simp)] at hE
      subst hE
      simp only [gD, mD] at *
      simp (config := { maxSteps := 1000000 }) (disch := first | omega | (simp only [go_sem]; omega)) only [go_sem, ↓reduceIte]
      refine call_by r1 ?_
      simp (config := { maxSteps := 1000000 }) (disch := first | omega | (simp only [go_sem]; omega)) only [go_sem, ↓reduceIte]
      refine call_by r2 ?_
      simp (config := { maxSteps := 1000000 }) (disch := first | omega | (simp only [go_sem]; omega)) only [go_sem, ↓reduceIte]
      simp [m0, mA, ints]
    · cases b2
      · rw [if_neg (by simp)] at hE
        subst hE
        simp only [gD, mD] at *
        simp (config := { maxSteps := 1000000 }) (disch := first | omega | (simp only [go_sem]; omega)) only [go_sem, ↓reduceIte]
        refine call_by r1 ?_
        simp (config := { maxSteps := 1000000 }) (disch := first | omega | (simp only [go_sem]; omega)) only [go_sem, ↓reduceIte]
        refine call_by r2 ?_
        simp (config := { maxSteps := 1000000 }) (disch := first | omega | (simp only [go_sem]; omega)) only [go_sem, ↓reduceIte]
        refine call_by r3 ?_
        simp (config := { maxSteps := 1000000 }) (disch := first | omega | (simp only [go_sem]; omega)) only [go_sem, ↓reduceIte]
        simp [m0, mA, ints]
      · rw [if_pos (by simp)] at hE
        subst hE
        obtain ⟨⟨n1, n2⟩, _, _, n3, n4⟩ := hbj rfl rfl
        have t1 := hb m.n (by omega) n1 n3
        have t2 := hb m.e (by omega) n2 n4
        generalize backL m.n m.n.length = bn at *
        generalize backL m.e m.e.length = be at *
        simp only [gD, mD] at *
        simp (config := { maxSteps := 1000000 }) (disch := first | omega | (simp only [go_sem]; omega)) only [go_sem, ↓reduceIte]
        refine call_by r1 ?_
        simp (config := { maxSteps := 1000000 }) (disch := first | omega | (simp only [go_sem]; omega)) only [go_sem, ↓reduceIte]
        refine call_by r2 ?_
        simp (config := { maxSteps := 1000000 }) (disch := first | omega | (simp only [go_sem]; omega)) only [go_sem, ↓reduceIte]
        refine call_by r3 ?_
        simp (config := { maxSteps := 1000000 }) (disch := first | omega | (simp only [go_sem]; omega)) only [go_sem, ↓reduceIte]
        refine call_by t1 ?_
        simp (config := { maxSteps := 1000000 }) (disch := first | omega | (simp only [go_sem]; omega)) only [go_sem, ↓reduceIte]
        refine call_by t2 ?_
        simp (config := { maxSteps := 1000000 }) (disch := first | omega | (simp only [go_sem]; omega)) only [go_sem, ↓reduceIte]
        simp [mA]
  · rw [if_pos c] at hE
    subst hE
    simp only [gD, mD] at *
    simp (config := { maxSteps := 1000000 }) (disch := first | omega | (simp only [go_sem]; omega)) only [go_sem, ↓reduceIte]
    refine call_by r1 ?_
    simp (config := { maxSteps := 1000000 }) (disch := first | omega | (simp only [go_sem]; omega)) only [go_sem, ↓reduceIte, c]
    simp [m0, mA, ints]
theorem w_r06_Inverse (hv : K_r06_Valid P F) (hi : K_r06_Injective P F) (hj : K_r06_Surjective P F) (hb : K_r06_Back P F) (a b : G) (m : Mo) :
    W P (c_r06_Inverse F) (Done [.c 6 true 2, .t 7] [] (.tup [mA (invM a b m).1, .int .i64 (invM a b m).2]) []) (init [gD a, gD b, mD m]) := by
  refine W_of ?_
  have r1 := hv a b m
  have r2 := hi a b m
  have r3 := hj a b m
  have hl := @validM_len a b m
  have hbj := @bijM a b m
  have hE : invM a b m = if validM a b m ≠ 0 then (m0, validM a b m) else if injM a b m = true ∧ surM a b m = true then (⟨backL m.n m.n.length, backL m.e m.e.length⟩, 0) else (m0, 10) := rfl
  generalize invM a b m = q at *
  generalize validM a b m = v at *
  generalize injM a b m = b1 at *
  generalize surM a b m = b2 at *
  by_cases c : v = 0
  · subst c
    rw [if_neg (by simp)] at hE
    obtain ⟨l1, l2, _, _, l3, l4⟩ := hl rfl
    have r2 := r2 (by unfold maxL; omega) (by unfold maxL; omega)
    cases b1
    · rw [if_neg (by simp)] at hE
      subst hE
      simp only [gD, mD] at *
      simp (config := { maxSteps := 1000000 }) (disch := first | omega | (simp only [go_sem]; omega)) only [go_sem, ↓reduceIte]
      refine call_by r1 ?_
      simp (config := { maxSteps := 1000000 }) (disch := first | omega | (simp only [go_sem]; omega)) only [go_sem, ↓reduceIte]
      refine call_by r2 ?_
      simp (config := { maxSteps := 1000000 }) (disch := first | omega | (simp only [go_sem]; omega)) only [go_sem, ↓reduceIte]
      simp [m0, mA, ints]
    · cases b2
      · rw [if_neg (by simp)] at hE
        subst hE
        simp only [gD, mD] at *
        simp (config := { maxSteps := 1000000 }) (disch := first | omega | (simp only [go_sem]; omega)) only [go_sem, ↓reduceIte]
        refine call_by r1 ?_
        simp (config := { maxSteps := 1000000 }) (disch := first | omega | (simp only [go_sem]; omega)) only [go_sem, ↓reduceIte]
        refine call_by r2 ?_
        simp (config := { maxSteps := 1000000 }) (disch := first | omega | (simp only [go_sem]; omega)) only [go_sem, ↓reduceIte]
        refine call_by r3 ?_
        simp (config := { maxSteps := 1000000 }) (disch := first | omega | (simp only [go_sem]; omega)) only [go_sem, ↓reduceIte]
        simp [m0, mA, ints]
      · rw [if_pos (by simp)] at hE
        subst hE
        obtain ⟨⟨n1, n2⟩, e1, e2, n3, n4⟩ := hbj rfl rfl
        have t1 := hb m.n b.n.length (by omega) (by omega)
        have t2 := hb m.e b.e.length (by omega) (by omega)
        rw [e1, e2]
        generalize backL m.n b.n.length = bn at *
        generalize backL m.e b.e.length = be at *
        simp only [gD, mD] at *
        simp (config := { maxSteps := 1000000 }) (disch := first | omega | (simp only [go_sem]; omega)) only [go_sem, ↓reduceIte]
        refine call_by r1 ?_
        simp (config := { maxSteps := 1000000 }) (disch := first | omega | (simp only [go_sem]; omega)) only [go_sem, ↓reduceIte]
        refine call_by r2 ?_
        simp (config := { maxSteps := 1000000 }) (disch := first | omega | (simp only [go_sem]; omega)) only [go_sem, ↓reduceIte]
        refine call_by r3 ?_
        simp (config := { maxSteps := 1000000 }) (disch := first | omega | (simp only [go_sem]; omega)) only [go_sem, ↓reduceIte]
        refine call_by t1 ?_
        simp (config := { maxSteps := 1000000 }) (disch := first | omega | (simp only [go_sem]; omega)) only [go_sem, ↓reduceIte]
        refine call_by t2 ?_
        simp (config := { maxSteps := 1000000 }) (disch := first | omega | (simp only [go_sem]; omega)) only [go_sem, ↓reduceIte]
        simp [mA]
  · rw [if_pos c] at hE
    subst hE
    simp only [gD, mD] at *
    simp (config := { maxSteps := 1000000 }) (disch := first | omega | (simp only [go_sem]; omega)) only [go_sem, ↓reduceIte]
    refine call_by r1 ?_
    simp (config := { maxSteps := 1000000 }) (disch := first | omega | (simp only [go_sem]; omega)) only [go_sem, ↓reduceIte, c]
    simp [m0, mA, ints]
theorem w_l06_awake (ha : K_morphism_All P F) (hs : K_morphism_Same P F) (hj : K_morphism_Surjective P F) (hi : K_morphism_Injective P F) : W P (c_l06_awake F) (Done [.t 0] [] (.bool true) []) (init []) := by
  refine W_of ?_
  have r1 := ha ⟨[0, 0], [⟨0, 0, 1⟩]⟩ ⟨[0], [⟨0, 0, 0⟩]⟩
  rw [show allM ⟨[0, 0], [⟨0, 0, 1⟩]⟩ ⟨[0], [⟨0, 0, 0⟩]⟩ = [⟨[0, 0], [0]⟩] by decide +kernel, show allErr ⟨[0, 0], [⟨0, 0, 1⟩]⟩ ⟨[0], [⟨0, 0, 0⟩]⟩ = 0 by decide +kernel] at r1
  have r2 := ha ⟨[0], [⟨0, 0, 0⟩]⟩ ⟨[0, 0], [⟨0, 0, 1⟩]⟩
  rw [show allM ⟨[0], [⟨0, 0, 0⟩]⟩ ⟨[0, 0], [⟨0, 0, 1⟩]⟩ = [] by decide +kernel, show allErr ⟨[0], [⟨0, 0, 0⟩]⟩ ⟨[0, 0], [⟨0, 0, 1⟩]⟩ = 0 by decide +kernel] at r2
  have r3 := ha ⟨[0, 0], [⟨0, 0, 1⟩]⟩ ⟨[0, 0], [⟨0, 0, 1⟩]⟩
  rw [show allM ⟨[0, 0], [⟨0, 0, 1⟩]⟩ ⟨[0, 0], [⟨0, 0, 1⟩]⟩ = [⟨[0, 1], [0]⟩] by decide +kernel, show allErr ⟨[0, 0], [⟨0, 0, 1⟩]⟩ ⟨[0, 0], [⟨0, 0, 1⟩]⟩ = 0 by decide +kernel] at r3
  have r4 := hs ⟨[0, 0], [0]⟩ ⟨[0, 0], [0]⟩ (by decide) (by decide)
  have r5 := hj ⟨[0, 0], [⟨0, 0, 1⟩]⟩ ⟨[0], [⟨0, 0, 0⟩]⟩ ⟨[0, 0], [0]⟩
  rw [show surM ⟨[0, 0], [⟨0, 0, 1⟩]⟩ ⟨[0], [⟨0, 0, 0⟩]⟩ ⟨[0, 0], [0]⟩ = true by decide +kernel] at r5
  have r6 := hi ⟨[0, 0], [⟨0, 0, 1⟩]⟩ ⟨[0], [⟨0, 0, 0⟩]⟩ ⟨[0, 0], [0]⟩
  rw [show injM ⟨[0, 0], [⟨0, 0, 1⟩]⟩ ⟨[0], [⟨0, 0, 0⟩]⟩ ⟨[0, 0], [0]⟩ = false by decide +kernel] at r6
  simp only [gD, mD, pts, List.map_cons, List.map_nil] at *
  simp (config := { maxSteps := 1000000 }) (disch := first | omega | (simp only [go_sem]; omega)) only [go_sem, ↓reduceIte]
  refine call_fz r1 ?_
  simp (config := { maxSteps := 1000000 }) (disch := first | omega | (simp only [go_sem]; omega)) only [go_sem, ↓reduceIte]
  refine call_fz r2 ?_
  simp (config := { maxSteps := 1000000 }) (disch := first | omega | (simp only [go_sem]; omega)) only [go_sem, ↓reduceIte]
  refine call_fz r3 ?_
  simp (config := { maxSteps := 1000000 }) (disch := first | omega | (simp only [go_sem]; omega)) only [go_sem, ↓reduceIte, Int.cast_ofNat_Int, eq_self]
  refine call_by r4 ?_
  simp (config := { maxSteps := 1000000 }) (disch := first | omega | (simp only [go_sem]; omega)) only [go_sem, ↓reduceIte]
  refine call_by r5 ?_
  simp (config := { maxSteps := 1000000 }) (disch := first | omega | (simp only [go_sem]; omega)) only [go_sem, ↓reduceIte]
  refine call_by r6 ?_
  simp (config := { maxSteps := 1000000 }) (disch := first | omega | (simp only [go_sem]; omega)) only [go_sem, ↓reduceIte]
theorem aws_length (l : List Aw) : (aws l).length = l.length := by simp [aws]
theorem aws_at {l : List Aw} {i : Nat} (h : i < l.length) : (aws l)[i]? = some (.agg [.lst 1 (ints (gt l i).t.n), .lst 3 (eds (gt l i).t.e), .lst 1 (ints (gt l i).m.n), .lst 1 (ints (gt l i).m.e)]) := by
  unfold aws
  rw [List.getElem?_map, List.getElem?_eq_getElem h, gt_nat h]
  rfl
theorem w_l06_few (hg : K_r05_Few P F) (hm : K_r06_Few P F) (a : G) (l : List Aw) (hl : l.length ≤ maxL) (hsm : ∀ x ∈ l, x.m.sm) : W P (c_l06_few F) (Done [.t 4] [] (.bool (fewA a l)) []) (init [gD a, .lst 4 (aws l)]) := by
  refine W_of ?_
  have ra := hg a
  have hE : fewA a l = (l.all fewW && few a) := rfl
  rw [hE]
  generalize few a = fa at *
  obtain ⟨an, ae⟩ := a
  have hal := aws_length l
  unfold maxL at hl
  simp only [gD] at *
  simp (config := { maxSteps := 1000000 }) (disch := first | omega | (simp only [go_sem]; omega)) only [go_sem, ↓reduceIte]
  refine W_loop (fun i : Nat => ⟨[(2, .pt 0 0), (7, .lst 4 (aws l)), (8, .int .i64 l.length), (9, .int .i64 i)], [(0, .box [.lst 1 (ints an), .lst 3 (eds ae)])], 1⟩) (fun i => i ≤ l.length ∧ l.all fewW = (l.drop i).all fewW) (fun i => l.length - i) 0 ?_ ?_ ?_
  · simp (config := { maxSteps := 1000000 }) (disch := first | omega | (simp only [go_sem]; omega)) only [go_sem, ↓reduceIte, hal]
    rfl
  · simp
  · rintro i ⟨hi, he⟩
    simp (config := { maxSteps := 1000000 }) (disch := first | omega | (simp only [go_sem]; omega)) only [go_sem, ↓reduceIte, c_l06_few_b7]
    refine bran_dec (fun c => ?_) (fun c => ?_)
    · have hd := drop_gt (l := l) (i := i) (by omega)
      have hall : (l.drop i).all fewW = (fewW (gt l i) && (l.drop (i + 1)).all fewW) := by rw [hd]; rfl
      have hx := hsm _ (gt_mem (l := l) (j := i) (by omega) (by omega))
      have q := aws_at (l := l) (i := i) (by omega)
      have r1 := hg (gt l i).t
      have r2 := hm (gt l i).m 140 hx.1 hx.2
      have hw : fewW (gt l i) = (few (gt l i).t && fewM (gt l i).m 140) := rfl
      generalize few (gt l i).t = b1 at *
      generalize fewM (gt l i).m 140 = b2 at *
      simp only [gD, mD] at r1 r2
      simp (config := { maxSteps := 1000000 }) (disch := first | omega | (simp only [go_sem]; omega)) only [go_sem, ↓reduceIte, q]
      refine call_by r1 ?_
      cases b1
      · simp (config := { maxSteps := 1000000 }) (disch := first | omega | (simp only [go_sem]; omega)) only [go_sem, ↓reduceIte]
        rw [he, hall, hw]
        simp
      · simp (config := { maxSteps := 1000000 }) (disch := first | omega | (simp only [go_sem]; omega)) only [go_sem, ↓reduceIte]
        refine call_by r2 ?_
        cases b2
        · simp (config := { maxSteps := 1000000 }) (disch := first | omega | (simp only [go_sem]; omega)) only [go_sem, ↓reduceIte]
          rw [he, hall, hw]
          simp
        · simp (config := { maxSteps := 1000000 }) (disch := first | omega | (simp only [go_sem]; omega)) only [go_sem, ↓reduceIte]
          exact ⟨i + 1, by simp, ⟨by omega, by rw [he, hall, hw]; simp⟩, by omega⟩
    · have hfin : l.all fewW = true := by rw [he, List.drop_of_length_le (by omega)]; rfl
      simp (config := { maxSteps := 1000000 }) (disch := first | omega | (simp only [go_sem]; omega)) only [go_sem, ↓reduceIte]
      refine call_by ra ?_
      simp (config := { maxSteps := 1000000 }) (disch := first | omega | (simp only [go_sem]; omega)) only [go_sem, ↓reduceIte]
      rw [hfin]
      simp
end
end Go.Am
