/- The laws of chapter 6 about any graphs: All. -/
import Derived.Test.YtgmojdpklekldaaSlD
namespace Go.Am
open Go
set_option linter.unusedVariables false
set_option linter.unusedSimpArgs false
attribute [local irreducible] W
/- l06.MorphismAll -/
def c_l06_MorphismAll_r0 (F : String → Nat) : List LI := [⟨some 2, .bx (.t 0), none⟩,
  ⟨some 3, .bx (.t 1), none⟩,
  ⟨some 4, .mov (.k (.bool false)), none⟩]
def c_l06_MorphismAll_r1 (F : String → Nat) : List LI := [⟨some 12, .call (F "l06.awake") [] [], none⟩,
  ⟨some 13, .not (.t 12), none⟩,
  ⟨some 14, .mov (.t 13), none⟩,
  ⟨some 15, .load true 2 (.t 2), some (14, false)⟩,
  ⟨some 16, .load true 2 (.t 3), some (14, false)⟩,
  ⟨some 17, .build [.nl 1, .nl 3, .nl 1, .nl 1] [(0, 2, .t 16)], some (14, false)⟩,
  ⟨some 18, .buildSl 4 96 (.agg [.lst 1 [], .lst 3 [], .lst 1 [], .lst 1 []]) 1 [(0, .t 17)], some (14, false)⟩,
  ⟨some 19, .call (F "l06.few") [.t 15, .t 18] [], some (14, false)⟩,
  ⟨some 20, .not (.t 19), some (14, false)⟩,
  ⟨some 21, .pick (.t 14) (.k (.bool true)) (.t 20), none⟩]
def c_l06_MorphismAll_r2 (F : String → Nat) : List LI := [⟨some 22, .call (F "l06.awake") [] [], none⟩,
  ⟨some 4, .mov (.t 22), none⟩]
def c_l06_MorphismAll_r3 (F : String → Nat) : List LI := [⟨some 23, .load true 2 (.t 2), none⟩,
  ⟨some 24, .call (F "r05.Valid") [.t 23] [], none⟩,
  ⟨some 25, .bin .neq (.t 24) (.k (.int .i64 (0))), none⟩,
  ⟨some 26, .mov (.t 25), none⟩,
  ⟨some 27, .load true 2 (.t 3), some (26, false)⟩,
  ⟨some 28, .call (F "r05.Valid") [.t 27] [], some (26, false)⟩,
  ⟨some 29, .bin .neq (.t 28) (.k (.int .i64 (0))), some (26, false)⟩,
  ⟨some 30, .pick (.t 26) (.k (.bool true)) (.t 29), none⟩,
  ⟨some 5, .mov (.t 30), none⟩]
def c_l06_MorphismAll_r4 (F : String → Nat) : List LI := [⟨some 31, .mov (.t 5), none⟩,
  ⟨some 32, .not (.t 31), none⟩,
  ⟨some 33, .mov (.t 32), none⟩,
  ⟨some 34, .fad 0 (.t 2), some (33, true)⟩,
  ⟨some 35, .load false 1 (.t 34), some (33, true)⟩,
  ⟨some 36, .len (.t 35), some (33, true)⟩,
  ⟨some 37, .bin .gtr (.t 36) (.k (.int .i64 (5))), some (33, true)⟩,
  ⟨some 38, .mov (.t 37), some (33, true)⟩,
  ⟨some 39, .fad 1 (.t 2), some (38, false)⟩,
  ⟨some 40, .load false 1 (.t 39), some (38, false)⟩,
  ⟨some 41, .len (.t 40), some (38, false)⟩,
  ⟨some 42, .bin .gtr (.t 41) (.k (.int .i64 (6))), some (38, false)⟩,
  ⟨some 43, .pick (.t 38) (.k (.bool true)) (.t 42), some (33, true)⟩,
  ⟨some 44, .mov (.t 43), some (33, true)⟩,
  ⟨some 45, .fad 0 (.t 3), some (44, false)⟩,
  ⟨some 46, .load false 1 (.t 45), some (44, false)⟩,
  ⟨some 47, .len (.t 46), some (44, false)⟩,
  ⟨some 48, .bin .gtr (.t 47) (.k (.int .i64 (8))), some (44, false)⟩,
  ⟨some 49, .pick (.t 44) (.k (.bool true)) (.t 48), some (33, true)⟩,
  ⟨some 50, .mov (.t 49), some (33, true)⟩,
  ⟨some 51, .fad 1 (.t 3), some (50, false)⟩,
  ⟨some 52, .load false 1 (.t 51), some (50, false)⟩,
  ⟨some 53, .len (.t 52), some (50, false)⟩,
  ⟨some 54, .bin .gtr (.t 53) (.k (.int .i64 (14))), some (50, false)⟩,
  ⟨some 55, .pick (.t 50) (.k (.bool true)) (.t 54), some (33, true)⟩,
  ⟨some 56, .pick (.t 33) (.t 55) (.k (.bool false)), none⟩]
def c_l06_MorphismAll_r5 (F : String → Nat) : List LI := [⟨some 4, .mov (.k (.bool true)), none⟩]
def c_l06_MorphismAll_r6 (F : String → Nat) : List LI := [⟨some 58, .load true 2 (.t 2), none⟩,
  ⟨some 59, .load true 2 (.t 3), none⟩,
  ⟨some 60, .call (F "morphism.All") [.t 58, .t 59] [], none⟩,
  ⟨some 57, .mov (.t 60), none⟩,
  ⟨some 61, .ext (.t 57) 0, none⟩,
  ⟨some 62, .ext (.t 57) 1, none⟩,
  ⟨some 6, .mov (.t 61), none⟩,
  ⟨some 7, .mov (.t 62), none⟩]
def c_l06_MorphismAll_r7 (F : String → Nat) : List LI := [⟨some 64, .load true 2 (.t 2), none⟩,
  ⟨some 65, .load true 2 (.t 3), none⟩,
  ⟨some 66, .call (F "r06.All") [.t 64, .t 65] [], none⟩,
  ⟨some 63, .mov (.t 66), none⟩,
  ⟨some 67, .ext (.t 63) 0, none⟩,
  ⟨some 68, .ext (.t 63) 1, none⟩,
  ⟨some 8, .mov (.t 67), none⟩,
  ⟨some 9, .mov (.t 68), none⟩]
def c_l06_MorphismAll_r8 (F : String → Nat) : List LI := [⟨some 69, .mov (.t 7), none⟩,
  ⟨some 70, .mov (.t 9), none⟩,
  ⟨some 71, .bin .neq (.t 69) (.t 70), none⟩,
  ⟨some 72, .mov (.t 71), none⟩,
  ⟨some 73, .mov (.t 6), some (72, false)⟩,
  ⟨some 74, .mov (.t 8), some (72, false)⟩,
  ⟨some 75, .call (F "r06.SameAll") [.t 73, .t 74] [], some (72, false)⟩,
  ⟨some 76, .not (.t 75), some (72, false)⟩,
  ⟨some 77, .pick (.t 72) (.k (.bool true)) (.t 76), none⟩]
def c_l06_MorphismAll_r9 (F : String → Nat) : List LI := [⟨some 4, .mov (.k (.bool false)), none⟩]
def c_l06_MorphismAll_r10 (F : String → Nat) : List LI := [⟨some 78, .mov (.t 6), none⟩,
  ⟨some 79, .len (.t 78), none⟩,
  ⟨some 80, .mov (.k (.int .i64 (0))), none⟩]
def c_l06_MorphismAll_r11 (F : String → Nat) : List LI := [⟨some 81, .bin .lss (.t 80) (.t 79), none⟩]
def c_l06_MorphismAll_r12 (F : String → Nat) : List LI := [⟨some 82, .iad 2 (.t 78) (.t 80), none⟩,
  ⟨some 83, .load true 2 (.t 82), none⟩,
  ⟨some 11, .alloc [.nl 1, .nl 1], none⟩,
  ⟨none, .store 2 (.t 11) (.t 83), none⟩]
def c_l06_MorphismAll_r13 (F : String → Nat) : List LI := [⟨some 84, .load true 2 (.t 2), none⟩,
  ⟨some 85, .load true 2 (.t 3), none⟩,
  ⟨some 86, .load true 2 (.t 11), none⟩,
  ⟨some 87, .call (F "morphism.Valid") [.t 84, .t 85, .t 86] [], none⟩,
  ⟨some 88, .bin .neq (.t 87) (.k (.int .i64 (0))), none⟩]
def c_l06_MorphismAll_r14 (F : String → Nat) : List LI := [⟨some 4, .mov (.k (.bool false)), none⟩]
def c_l06_MorphismAll_r15 (F : String → Nat) : List LI := [⟨some 89, .bin .add (.t 80) (.k (.int .i64 (1))), none⟩,
  ⟨some 80, .mov (.t 89), none⟩]
def c_l06_MorphismAll_b16 (F : String → Nat) : LC := (.seq (.reg (c_l06_MorphismAll_r11 F) [2, 3, 78, 79, 80, 81]) (.seq (.cond (.t 81) .skip (.exit 0)) (.seq (.block 1 (.seq (.reg (c_l06_MorphismAll_r12 F) [2, 3, 11, 78, 79, 80]) (.seq (.reg (c_l06_MorphismAll_r13 F) [2, 3, 78, 79, 80, 88]) (.cond (.t 88) (.seq (.reg (c_l06_MorphismAll_r14 F) [4]) .ret) .skip)))) (.reg (c_l06_MorphismAll_r15 F) [2, 3, 78, 79, 80]))))
def c_l06_MorphismAll_r17 (F : String → Nat) : List LI := [⟨some 4, .mov (.k (.bool true)), none⟩]
def c_l06_MorphismAll (F : String → Nat) : LC := (.seq (.reg (c_l06_MorphismAll_r0 F) [2, 3]) (.seq (.seq (.reg (c_l06_MorphismAll_r1 F) [2, 3, 21]) (.cond (.t 21) (.seq (.reg (c_l06_MorphismAll_r2 F) [4]) .ret) .skip)) (.seq (.reg (c_l06_MorphismAll_r3 F) [2, 3, 5]) (.seq (.seq (.reg (c_l06_MorphismAll_r4 F) [2, 3, 56]) (.cond (.t 56) (.seq (.reg (c_l06_MorphismAll_r5 F) [4]) .ret) .skip)) (.seq (.reg (c_l06_MorphismAll_r6 F) [2, 3, 6, 7]) (.seq (.reg (c_l06_MorphismAll_r7 F) [2, 3, 6, 7, 8, 9]) (.seq (.seq (.reg (c_l06_MorphismAll_r8 F) [2, 3, 6, 77]) (.cond (.t 77) (.seq (.reg (c_l06_MorphismAll_r9 F) [4]) .ret) .skip)) (.seq (.seq (.reg (c_l06_MorphismAll_r10 F) [2, 3, 78, 79, 80]) (.block 0 (.loop [2, 3, 78, 79, 80] (c_l06_MorphismAll_b16 F)))) (.seq (.reg (c_l06_MorphismAll_r17 F) [4]) .ret)))))))))
def h_l06_MorphismAll : Hints := ⟨[], fun _ => [], tab [(0, [2, 3]), (1, [2, 3, 21]), (2, [4]), (3, [2, 3, 5]), (4, [2, 3, 56]), (5, [4]), (6, [2, 3, 6, 7]), (7, [2, 3, 6, 7, 8, 9]), (8, [2, 3, 6, 77]), (9, [4]), (10, [2, 3, 78, 79, 80]), (11, [2, 3, 78, 79, 80, 81]), (12, [2, 3, 11, 78, 79, 80]), (13, [2, 3, 78, 79, 80, 88]), (14, [4]), (15, [2, 3, 78, 79, 80]), (16, [4])], tab [(11, [2, 3, 78, 79, 80])]⟩

attribute [go_sem] c_l06_MorphismAll_r0 c_l06_MorphismAll_r1 c_l06_MorphismAll_r2 c_l06_MorphismAll_r3 c_l06_MorphismAll_r4 c_l06_MorphismAll_r5 c_l06_MorphismAll_r6 c_l06_MorphismAll_r7 c_l06_MorphismAll_r8 c_l06_MorphismAll_r9 c_l06_MorphismAll_r10 c_l06_MorphismAll_r11 c_l06_MorphismAll_r12 c_l06_MorphismAll_r13 c_l06_MorphismAll_r14 c_l06_MorphismAll_r15 c_l06_MorphismAll_r17 c_l06_MorphismAll
section
variable (P : Program) (F : String → Nat)
def K_l06_MorphismAll : Prop := ∀ (a b : G), FC P (F "l06.MorphismAll") [gD a, gD b] (.bool true) []
end
section
variable {P : Program} {F : String → Nat} {α : Type}
set_option maxHeartbeats 2000000 in
theorem w_l06_MorphismAll (hw : K_l06_awake P F) (hf : K_l06_few P F) (hg : K_r05_Valid P F) (h1 : K_morphism_All P F) (h2 : K_r06_All P F) (h3 : K_r06_SameAll P F) (hv : K_morphism_Valid P F) (a b : G) :
    W P (c_l06_MorphismAll F) (Done [.t 4] [] (.bool true) []) (init [gD a, gD b]) := by
  refine W_of ?_
  have rf := hf a [⟨b, m0⟩] (by simp [maxL]) (by simp [m0, Mo.sm])
  have r1 := h1 a b
  have r2 := h2 a b
  have hml := allM_len a b
  have hok : ∀ x ∈ allM a b, validM a b x = 0 := fun x h => allM_ok h
  have r3 := h3 (allM a b) (allM a b) (by unfold maxL; omega) (fun x h => by
    obtain ⟨l1, l2, _⟩ := validM_len (hok x h)
    unfold Mo.sm maxL
    omega)
  have g1 := hg a
  have g2 := hg b
  have rv : ∀ i : Nat, i < (allM a b).length → FC P (F "morphism.Valid") [gD a, gD b, mD (gt (allM a b) i)] (.int .i64 0) [] := fun i hi => by
    have := hv a b (gt (allM a b) i)
    rwa [hok _ (gt_mem (l := allM a b) (j := i) (by omega) (by omega))] at this
  have hdec : decide (allM a b = allM a b) = true := by simp
  rw [hdec] at r3
  clear hok hdec
  generalize fewA a [⟨b, m0⟩] = fw at *
  generalize validG a = va at *
  generalize validG b = vb at *
  generalize allErr a b = er at *
  generalize hL : allM a b = l at *
  clear hL
  have hpl := pts_length l
  obtain ⟨an, ae⟩ := a
  obtain ⟨bn, be⟩ := b
  simp only [aws, List.map_cons, List.map_nil, awD, gD, mD, mA, m0] at *
  simp (config := { maxSteps := 1000000 }) (disch := first | omega | (simp only [go_sem]; omega)) only [go_sem, ↓reduceIte]
  refine call_by hw ?_
  simp (config := { maxSteps := 1000000 }) (disch := first | omega | (simp only [go_sem]; omega)) only [go_sem, ↓reduceIte]
  refine call_by rf ?_
  cases fw
  · simp (config := { maxSteps := 1000000 }) (disch := first | omega | (simp only [go_sem]; omega)) only [go_sem, ↓reduceIte]
    refine call_by hw ?_
    simp (config := { maxSteps := 1000000 }) (disch := first | omega | (simp only [go_sem]; omega)) only [go_sem, ↓reduceIte]
  · simp (config := { maxSteps := 1000000 }) (disch := first | omega | (simp only [go_sem]; omega)) only [go_sem, ↓reduceIte]
    refine call_by g1 ?_
    by_cases ca : va = 0
    · subst ca
      simp (config := { maxSteps := 1000000 }) (disch := first | omega | (simp only [go_sem]; omega)) only [go_sem, ↓reduceIte]
      refine call_by g2 ?_
      by_cases cb : vb = 0
      · subst cb
        by_cases c1 : (5 : Int) < an.length
        · simp (config := { maxSteps := 1000000 }) (disch := first | omega | (simp only [go_sem]; omega)) only [go_sem, ↓reduceIte, c1]
        · by_cases c2 : (6 : Int) < ae.length
          · simp (config := { maxSteps := 1000000 }) (disch := first | omega | (simp only [go_sem]; omega)) only [go_sem, ↓reduceIte, c1, c2]
          · by_cases c3 : (8 : Int) < bn.length
            · simp (config := { maxSteps := 1000000 }) (disch := first | omega | (simp only [go_sem]; omega)) only [go_sem, ↓reduceIte, c1, c2, c3]
            · by_cases c4 : (14 : Int) < be.length
              · simp (config := { maxSteps := 1000000 }) (disch := first | omega | (simp only [go_sem]; omega)) only [go_sem, ↓reduceIte, c1, c2, c3, c4]
              · simp (config := { maxSteps := 1000000 }) (disch := first | omega | (simp only [go_sem]; omega)) only [go_sem, ↓reduceIte, c1, c2, c3, c4]
                refine call_by r1 ?_
                simp (config := { maxSteps := 1000000 }) (disch := first | omega | (simp only [go_sem]; omega)) only [go_sem, ↓reduceIte, ite_self]
                refine call_by r2 ?_
                simp (config := { maxSteps := 1000000 }) (disch := first | omega | (simp only [go_sem]; omega)) only [go_sem, ↓reduceIte, ite_self]
                refine call_by r3 ?_
                simp (config := { maxSteps := 1000000 }) (disch := first | omega | (simp only [go_sem]; omega)) only [go_sem, ↓reduceIte, hpl]
                refine W_loop (fun i : Nat => ⟨[(2, .pt 0 0), (3, .pt 1 0), (78, .sl 2 0 l.length), (79, .int .i64 l.length), (80, .int .i64 i)], [(0, .box [.lst 1 (ints an), .lst 3 (eds ae)]), (1, .box [.lst 1 (ints bn), .lst 3 (eds be)]), (2, .arr 2 (pts l))], 3⟩) (fun i => i ≤ l.length) (fun i => l.length - i) 0 ?_ ?_ ?_
                · simp (config := { maxSteps := 1000000 }) (disch := first | omega | (simp only [go_sem]; omega)) only [go_sem, ↓reduceIte, hpl]
                  rfl
                · omega
                · intro i hi
                  simp (config := { maxSteps := 1000000 }) (disch := first | omega | (simp only [go_sem]; omega)) only [go_sem, ↓reduceIte, c_l06_MorphismAll_b16]
                  refine bran_dec (fun f => ?_) (fun f => ?_)
                  · have q := pts_at (l := l) (i := i) (by omega)
                    have rv := rv i (by omega)
                    simp (config := { maxSteps := 1000000 }) (disch := first | omega | (simp only [go_sem]; omega)) only [go_sem, ↓reduceIte, q]
                    refine call_by rv ?_
                    simp (config := { maxSteps := 1000000 }) (disch := first | omega | (simp only [go_sem]; omega)) only [go_sem, ↓reduceIte]
                    exact ⟨i + 1, by simp, by omega, by omega⟩
                  · simp (config := { maxSteps := 1000000 }) (disch := first | omega | (simp only [go_sem]; omega)) only [go_sem, ↓reduceIte]
      · simp (config := { maxSteps := 1000000 }) (disch := first | omega | (simp only [go_sem]; omega)) only [go_sem, ↓reduceIte, cb]
        refine call_by r1 ?_
        simp (config := { maxSteps := 1000000 }) (disch := first | omega | (simp only [go_sem]; omega)) only [go_sem, ↓reduceIte, ite_self]
        refine call_by r2 ?_
        simp (config := { maxSteps := 1000000 }) (disch := first | omega | (simp only [go_sem]; omega)) only [go_sem, ↓reduceIte, ite_self]
        refine call_by r3 ?_
        simp (config := { maxSteps := 1000000 }) (disch := first | omega | (simp only [go_sem]; omega)) only [go_sem, ↓reduceIte, hpl]
        refine W_loop (fun i : Nat => ⟨[(2, .pt 0 0), (3, .pt 1 0), (78, .sl 2 0 l.length), (79, .int .i64 l.length), (80, .int .i64 i)], [(0, .box [.lst 1 (ints an), .lst 3 (eds ae)]), (1, .box [.lst 1 (ints bn), .lst 3 (eds be)]), (2, .arr 2 (pts l))], 3⟩) (fun i => i ≤ l.length) (fun i => l.length - i) 0 ?_ ?_ ?_
        · simp (config := { maxSteps := 1000000 }) (disch := first | omega | (simp only [go_sem]; omega)) only [go_sem, ↓reduceIte, hpl]
          rfl
        · omega
        · intro i hi
          simp (config := { maxSteps := 1000000 }) (disch := first | omega | (simp only [go_sem]; omega)) only [go_sem, ↓reduceIte, c_l06_MorphismAll_b16]
          refine bran_dec (fun f => ?_) (fun f => ?_)
          · have q := pts_at (l := l) (i := i) (by omega)
            have rv := rv i (by omega)
            simp (config := { maxSteps := 1000000 }) (disch := first | omega | (simp only [go_sem]; omega)) only [go_sem, ↓reduceIte, q]
            refine call_by rv ?_
            simp (config := { maxSteps := 1000000 }) (disch := first | omega | (simp only [go_sem]; omega)) only [go_sem, ↓reduceIte]
            exact ⟨i + 1, by simp, by omega, by omega⟩
          · simp (config := { maxSteps := 1000000 }) (disch := first | omega | (simp only [go_sem]; omega)) only [go_sem, ↓reduceIte]
    · simp (config := { maxSteps := 1000000 }) (disch := first | omega | (simp only [go_sem]; omega)) only [go_sem, ↓reduceIte, ca]
      refine call_by r1 ?_
      simp (config := { maxSteps := 1000000 }) (disch := first | omega | (simp only [go_sem]; omega)) only [go_sem, ↓reduceIte, ite_self]
      refine call_by r2 ?_
      simp (config := { maxSteps := 1000000 }) (disch := first | omega | (simp only [go_sem]; omega)) only [go_sem, ↓reduceIte, ite_self]
      refine call_by r3 ?_
      simp (config := { maxSteps := 1000000 }) (disch := first | omega | (simp only [go_sem]; omega)) only [go_sem, ↓reduceIte, hpl]
      refine W_loop (fun i : Nat => ⟨[(2, .pt 0 0), (3, .pt 1 0), (78, .sl 2 0 l.length), (79, .int .i64 l.length), (80, .int .i64 i)], [(0, .box [.lst 1 (ints an), .lst 3 (eds ae)]), (1, .box [.lst 1 (ints bn), .lst 3 (eds be)]), (2, .arr 2 (pts l))], 3⟩) (fun i => i ≤ l.length) (fun i => l.length - i) 0 ?_ ?_ ?_
      · simp (config := { maxSteps := 1000000 }) (disch := first | omega | (simp only [go_sem]; omega)) only [go_sem, ↓reduceIte, hpl]
        rfl
      · omega
      · intro i hi
        simp (config := { maxSteps := 1000000 }) (disch := first | omega | (simp only [go_sem]; omega)) only [go_sem, ↓reduceIte, c_l06_MorphismAll_b16]
        refine bran_dec (fun f => ?_) (fun f => ?_)
        · have q := pts_at (l := l) (i := i) (by omega)
          have rv := rv i (by omega)
          simp (config := { maxSteps := 1000000 }) (disch := first | omega | (simp only [go_sem]; omega)) only [go_sem, ↓reduceIte, q]
          refine call_by rv ?_
          simp (config := { maxSteps := 1000000 }) (disch := first | omega | (simp only [go_sem]; omega)) only [go_sem, ↓reduceIte]
          exact ⟨i + 1, by simp, by omega, by omega⟩
        · simp (config := { maxSteps := 1000000 }) (disch := first | omega | (simp only [go_sem]; omega)) only [go_sem, ↓reduceIte]
theorem x_l06_MorphismAll (h : K_l06_MorphismAll P F) (args : List D) (ha : HasEls [shG, shG] args) : FC P (F "l06.MorphismAll") args (.bool true) [] := by
  simp only [HasEls] at ha
  obtain ⟨_, _, rfl, h1, _, _, rfl, h2, rfl⟩ := ha
  obtain ⟨a, rfl⟩ := rd_graph h1
  obtain ⟨b, rfl⟩ := rd_graph h2
  exact h a b
end
end Go.Am
