/- Morphisms: identities, composition, inverses. -/
import Derived.Test.YtpdjpdfkacpnnaaSkZ
import Derived.Test.YtpdjpdfkacpnnaaSkV
namespace Go.Am
open Go
set_option linter.unusedVariables false
set_option linter.unusedSimpArgs false
attribute [local irreducible] W
/- morphism.through -/
def c_morphism_through_r0 (F : String → Nat) : List LI := [⟨some 4, .mov (.k (.nl 1)), none⟩]
def c_morphism_through_r1 (F : String → Nat) : List LI := [⟨some 8, .mov (.t 0), none⟩,
  ⟨some 9, .len (.t 8), none⟩,
  ⟨some 10, .makeSl 1 8 (.int .i64 (0)) (.t 9), none⟩,
  ⟨some 5, .mov (.t 10), none⟩]
def c_morphism_through_r2 (F : String → Nat) : List LI := [⟨some 11, .mov (.t 0), none⟩,
  ⟨some 12, .len (.t 11), none⟩,
  ⟨some 13, .mov (.k (.int .i64 (0))), none⟩]
def c_morphism_through_r3 (F : String → Nat) : List LI := [⟨some 14, .bin .lss (.t 13) (.t 12), none⟩]
def c_morphism_through_r4 (F : String → Nat) : List LI := [⟨some 15, .mov (.t 13), none⟩,
  ⟨some 16, .iad 1 (.t 11) (.t 13), none⟩,
  ⟨some 17, .load false 1 (.t 16), none⟩,
  ⟨some 6, .mov (.t 15), none⟩,
  ⟨some 7, .mov (.t 17), none⟩]
def c_morphism_through_r5 (F : String → Nat) : List LI := [⟨some 18, .mov (.t 5), none⟩,
  ⟨some 19, .mov (.t 6), none⟩,
  ⟨some 20, .mov (.t 1), none⟩,
  ⟨some 21, .mov (.t 7), none⟩,
  ⟨some 22, .iad 1 (.t 20) (.t 21), none⟩,
  ⟨some 23, .load false 1 (.t 22), none⟩,
  ⟨some 24, .iad 1 (.t 18) (.t 19), none⟩,
  ⟨none, .store 1 (.t 24) (.t 23), none⟩]
def c_morphism_through_r6 (F : String → Nat) : List LI := [⟨some 25, .bin .add (.t 13) (.k (.int .i64 (1))), none⟩,
  ⟨some 13, .mov (.t 25), none⟩]
def c_morphism_through_b7 (F : String → Nat) : LC := (.seq (.reg (c_morphism_through_r3 F) [1, 5, 11, 12, 13, 14]) (.seq (.cond (.t 14) .skip (.exit 0)) (.seq (.block 1 (.seq (.reg (c_morphism_through_r4 F) [1, 5, 6, 7, 11, 12, 13]) (.reg (c_morphism_through_r5 F) [1, 5, 11, 12, 13]))) (.reg (c_morphism_through_r6 F) [1, 5, 11, 12, 13]))))
def c_morphism_through_r8 (F : String → Nat) : List LI := [⟨some 26, .mov (.t 5), none⟩,
  ⟨some 4, .mov (.t 26), none⟩]
def c_morphism_through (F : String → Nat) : LC := (.seq (.reg (c_morphism_through_r0 F) [0, 1]) (.seq (.reg (c_morphism_through_r1 F) [0, 1, 5]) (.seq (.seq (.reg (c_morphism_through_r2 F) [1, 5, 11, 12, 13]) (.block 0 (.loop [1, 5, 11, 12, 13] (c_morphism_through_b7 F)))) (.seq (.reg (c_morphism_through_r8 F) [4]) .ret))))
def h_morphism_through : Hints := ⟨[], fun _ => [], tab [(0, [0, 1]), (1, [0, 1, 5]), (2, [1, 5, 11, 12, 13]), (3, [1, 5, 11, 12, 13, 14]), (4, [1, 5, 6, 7, 11, 12, 13]), (5, [1, 5, 11, 12, 13]), (6, [1, 5, 11, 12, 13]), (7, [4])], tab [(3, [1, 5, 11, 12, 13])]⟩

/- morphism.Compose -/
def c_morphism_Compose_r0 (F : String → Nat) : List LI := [⟨some 5, .bx (.t 0), none⟩,
  ⟨some 6, .bx (.t 1), none⟩,
  ⟨some 7, .bx (.t 2), none⟩,
  ⟨some 8, .bx (.t 3), none⟩,
  ⟨some 9, .bx (.t 4), none⟩,
  ⟨some 10, .alloc [.nl 1, .nl 1], none⟩,
  ⟨some 11, .mov (.k (.int .i64 (0))), none⟩]
def c_morphism_Compose_r1 (F : String → Nat) : List LI := [⟨some 14, .load true 2 (.t 5), none⟩,
  ⟨some 15, .load true 2 (.t 6), none⟩,
  ⟨some 16, .load true 2 (.t 8), none⟩,
  ⟨some 17, .call (F "morphism.Valid") [.t 14, .t 15, .t 16] [], none⟩,
  ⟨some 12, .mov (.t 17), none⟩]
def c_morphism_Compose_r2 (F : String → Nat) : List LI := [⟨some 18, .mov (.t 12), none⟩,
  ⟨some 19, .bin .neq (.t 18) (.k (.int .i64 (0))), none⟩]
def c_morphism_Compose_r3 (F : String → Nat) : List LI := [⟨some 20, .build [.nl 1, .nl 1] [], none⟩,
  ⟨some 21, .mov (.t 12), none⟩,
  ⟨none, .store 2 (.t 10) (.t 20), none⟩,
  ⟨some 11, .mov (.t 21), none⟩]
def c_morphism_Compose_r4 (F : String → Nat) : List LI := [⟨some 22, .load true 2 (.t 6), none⟩,
  ⟨some 23, .load true 2 (.t 7), none⟩,
  ⟨some 24, .load true 2 (.t 9), none⟩,
  ⟨some 25, .call (F "morphism.Valid") [.t 22, .t 23, .t 24] [], none⟩,
  ⟨some 13, .mov (.t 25), none⟩]
def c_morphism_Compose_r5 (F : String → Nat) : List LI := [⟨some 26, .mov (.t 13), none⟩,
  ⟨some 27, .bin .neq (.t 26) (.k (.int .i64 (0))), none⟩]
def c_morphism_Compose_r6 (F : String → Nat) : List LI := [⟨some 28, .build [.nl 1, .nl 1] [], none⟩,
  ⟨some 29, .mov (.t 13), none⟩,
  ⟨none, .store 2 (.t 10) (.t 28), none⟩,
  ⟨some 11, .mov (.t 29), none⟩]
def c_morphism_Compose_r7 (F : String → Nat) : List LI := [⟨some 30, .fad 0 (.t 8), none⟩,
  ⟨some 31, .load false 1 (.t 30), none⟩,
  ⟨some 32, .fad 0 (.t 9), none⟩,
  ⟨some 33, .load false 1 (.t 32), none⟩,
  ⟨some 34, .call (F "morphism.through") [.t 31, .t 33] [], none⟩,
  ⟨some 35, .fad 1 (.t 8), none⟩,
  ⟨some 36, .load false 1 (.t 35), none⟩,
  ⟨some 37, .fad 1 (.t 9), none⟩,
  ⟨some 38, .load false 1 (.t 37), none⟩,
  ⟨some 39, .call (F "morphism.through") [.t 36, .t 38] [], none⟩,
  ⟨some 40, .build [.nl 1, .nl 1] [(0, 1, .t 34), (1, 1, .t 39)], none⟩,
  ⟨none, .store 2 (.t 10) (.t 40), none⟩,
  ⟨some 11, .mov (.k (.int .i64 (0))), none⟩]
def c_morphism_Compose (F : String → Nat) : LC := (.seq (.reg (c_morphism_Compose_r0 F) [5, 6, 7, 8, 9, 10]) (.seq (.seq (.reg (c_morphism_Compose_r1 F) [6, 7, 8, 9, 10, 12]) (.seq (.reg (c_morphism_Compose_r2 F) [6, 7, 8, 9, 10, 12, 19]) (.cond (.t 19) (.seq (.reg (c_morphism_Compose_r3 F) [10, 11]) .ret) .skip))) (.seq (.seq (.reg (c_morphism_Compose_r4 F) [8, 9, 10, 13]) (.seq (.reg (c_morphism_Compose_r5 F) [8, 9, 10, 13, 27]) (.cond (.t 27) (.seq (.reg (c_morphism_Compose_r6 F) [10, 11]) .ret) .skip))) (.seq (.dreg [(4, none, [], true), (6, (some 32), [4], false), (8, (some 128), [4], false)] (c_morphism_Compose_r7 F) [10, 11]) .ret))))
def h_morphism_Compose : Hints := ⟨[], fun _ => [], tab [(0, [5, 6, 7, 8, 9, 10]), (1, [6, 7, 8, 9, 10, 12]), (2, [6, 7, 8, 9, 10, 12, 19]), (3, [10, 11]), (4, [8, 9, 10, 13]), (5, [8, 9, 10, 13, 27]), (6, [10, 11]), (7, [10, 11])], tab []⟩

/- morphism.Same -/
def c_morphism_Same_r0 (F : String → Nat) : List LI := [⟨some 2, .bx (.t 0), none⟩,
  ⟨some 3, .bx (.t 1), none⟩,
  ⟨some 4, .mov (.k (.bool false)), none⟩]
def c_morphism_Same_r1 (F : String → Nat) : List LI := [⟨some 5, .fad 0 (.t 2), none⟩,
  ⟨some 6, .load false 1 (.t 5), none⟩,
  ⟨some 7, .fad 0 (.t 3), none⟩,
  ⟨some 8, .load false 1 (.t 7), none⟩,
  ⟨some 9, .call (F "slices.Equal.I") [.t 6, .t 8] [], none⟩,
  ⟨some 10, .mov (.t 9), none⟩,
  ⟨some 11, .fad 1 (.t 2), some (10, true)⟩,
  ⟨some 12, .load false 1 (.t 11), some (10, true)⟩,
  ⟨some 13, .fad 1 (.t 3), some (10, true)⟩,
  ⟨some 14, .load false 1 (.t 13), some (10, true)⟩,
  ⟨some 15, .call (F "slices.Equal.I") [.t 12, .t 14] [], some (10, true)⟩,
  ⟨some 16, .pick (.t 10) (.t 15) (.k (.bool false)), none⟩,
  ⟨some 4, .mov (.t 16), none⟩]
def c_morphism_Same (F : String → Nat) : LC := (.seq (.reg (c_morphism_Same_r0 F) [2, 3]) (.seq (.reg (c_morphism_Same_r1 F) [4]) .ret))
def h_morphism_Same : Hints := ⟨[], fun _ => [], tab [(0, [2, 3]), (1, [4])], tab []⟩

/- r02.Finest -/
def c_r02_Finest_r0 (F : String → Nat) : List LI := [⟨some 2, .mov (.k (.nl 1)), none⟩]
def c_r02_Finest_r1 (F : String → Nat) : List LI := [⟨some 3, .mov (.k (.nl 1)), none⟩]
def c_r02_Finest_r2 (F : String → Nat) : List LI := [⟨some 4, .mov (.k (.int .i64 (0))), none⟩]
def c_r02_Finest_r3 (F : String → Nat) : List LI := [⟨some 5, .mov (.t 4), none⟩,
  ⟨some 6, .mov (.t 0), none⟩,
  ⟨some 7, .bin .lss (.t 5) (.t 6), none⟩]
def c_r02_Finest_r4 (F : String → Nat) : List LI := [⟨some 10, .mov (.t 3), none⟩,
  ⟨some 11, .mov (.t 4), none⟩,
  ⟨some 12, .buildSl 1 8 (.int .i64 (0)) 1 [(0, .t 11)], none⟩,
  ⟨some 13, .app 1 8 (.t 10) (.t 12), none⟩,
  ⟨some 3, .mov (.t 13), none⟩]
def c_r02_Finest_r5 (F : String → Nat) : List LI := [⟨some 8, .mov (.t 4), none⟩,
  ⟨some 9, .bin .add (.t 8) (.k (.int .i64 (1))), none⟩,
  ⟨some 4, .mov (.t 9), none⟩]
def c_r02_Finest_b6 (F : String → Nat) : LC := (.seq (.seq (.reg (c_r02_Finest_r3 F) [0, 3, 4, 7]) (.cond (.t 7) .skip (.exit 0))) (.seq (.block 1 (.reg (c_r02_Finest_r4 F) [0, 3, 4])) (.reg (c_r02_Finest_r5 F) [0, 3, 4])))
def c_r02_Finest_r7 (F : String → Nat) : List LI := [⟨some 14, .mov (.t 3), none⟩,
  ⟨some 2, .mov (.t 14), none⟩]
def c_r02_Finest (F : String → Nat) : LC := (.seq (.reg (c_r02_Finest_r0 F) [0]) (.seq (.reg (c_r02_Finest_r1 F) [0, 3]) (.seq (.seq (.reg (c_r02_Finest_r2 F) [0, 3, 4]) (.block 0 (.loop [0, 3, 4] (c_r02_Finest_b6 F)))) (.seq (.reg (c_r02_Finest_r7 F) [2]) .ret))))
def h_r02_Finest : Hints := ⟨[], fun _ => [], tab [(0, [0]), (1, [0, 3]), (2, [0, 3, 4]), (3, [0, 3, 4, 7]), (4, [0, 3, 4]), (5, [0, 3, 4]), (6, [2])], tab [(3, [0, 3, 4])]⟩

attribute [go_sem] c_morphism_through_r0 c_morphism_through_r1 c_morphism_through_r2 c_morphism_through_r3 c_morphism_through_r4 c_morphism_through_r5 c_morphism_through_r6 c_morphism_through_r8 c_morphism_through c_morphism_Compose_r0 c_morphism_Compose_r1 c_morphism_Compose_r2 c_morphism_Compose_r3 c_morphism_Compose_r4 c_morphism_Compose_r5 c_morphism_Compose_r6 c_morphism_Compose_r7 c_morphism_Compose c_morphism_Same_r0 c_morphism_Same_r1 c_morphism_Same c_r02_Finest_r0 c_r02_Finest_r1 c_r02_Finest_r2 c_r02_Finest_r3 c_r02_Finest_r4 c_r02_Finest_r5 c_r02_Finest_r7 c_r02_Finest
def comM (a b c : G) (m n : Mo) : Mo × Int := if validM a b m ≠ 0 then (m0, validM a b m) else if validM b c n ≠ 0 then (m0, validM b c n) else (thenM m n, 0)
section
variable (P : Program) (F : String → Nat)
def K_morphism_through : Prop := ∀ l b : List Int, l.length ≤ 1000000 → (∀ x ∈ l, 0 ≤ x ∧ x < b.length) → FC P (F "morphism.through") [.lst 1 (ints l), .lst 1 (ints b)] (.arr 1 (ints (thr l b))) []
def K_morphism_Compose : Prop := ∀ (a b c : G) (m n : Mo), FC P (F "morphism.Compose") [gD a, gD b, gD c, mD m, mD n] (.tup [mA (comM a b c m n).1, .int .i64 (comM a b c m n).2]) []
def K_morphism_Same : Prop := ∀ a b : Mo, a.n.length ≤ maxL → a.e.length ≤ maxL → FC P (F "morphism.Same") [mD a, mD b] (.bool (decide (a = b))) []
def K_r02_Finest : Prop := ∀ n : Nat, n ≤ 1000000 → FC P (F "r02.Finest") [.int .i64 n] (.arr 1 (ints (nums 0 n))) []
end
section
variable {P : Program} {F : String → Nat} {α : Type}
theorem fillL {α : Type} (l : List α) (x z : α) (m : Nat) : (l ++ List.replicate (m + 1) z).set l.length x = (l ++ [x]) ++ List.replicate m z := by
  rw [List.set_append_right _ _ (Nat.le_refl _)]
  simp [List.replicate_succ]
theorem w_r02_Finest (n : Nat) (h2 : n ≤ 1000000) : W P (c_r02_Finest F) (Done [.t 2] [] (.arr 1 (ints (nums 0 n))) []) (init [.int .i64 n]) := by
  refine W_of ?_
  simp (config := { maxSteps := 1000000 }) (disch := first | omega | (simp only [go_sem]; omega)) only [go_sem, ↓reduceIte]
  refine W_loop (fun i : Nat => ⟨[(0, .int .i64 n), (3, .sl 0 0 i), (4, .int .i64 i)], [(0, .arr 1 (ints (nums 0 i)))], 1⟩) (fun i => i ≤ n) (fun i => n - i) 0 ?_ ?_ ?_
  · simp (config := { maxSteps := 1000000 }) (disch := first | omega | (simp only [go_sem]; omega)) only [go_sem, ↓reduceIte, nums_zero, ints_nil]
    rfl
  · omega
  · intro i hi
    have e1 := nums_len 0 i
    simp (config := { maxSteps := 1000000 }) (disch := first | omega | (simp only [go_sem]; omega)) only [go_sem, ↓reduceIte, c_r02_Finest_b6]
    refine bran_dec (fun a => ?_) (fun a => ?_)
    · simp (config := { maxSteps := 1000000 }) (disch := first | omega | (simp only [go_sem]; omega)) only [go_sem, ↓reduceIte, e1]
      exact ⟨i + 1, by simp [nums_succ], by omega, by omega⟩
    · obtain rfl : i = n := by omega
      simp (config := { maxSteps := 1000000 }) (disch := first | omega | (simp only [go_sem]; omega)) only [go_sem, ↓reduceIte, e1]
theorem w_morphism_through (l b : List Int) (hl : l.length ≤ 1000000) (hb : ∀ x ∈ l, 0 ≤ x ∧ x < b.length) : W P (c_morphism_through F) (Done [.t 4] [] (.arr 1 (ints (thr l b))) []) (init [.lst 1 (ints l), .lst 1 (ints b)]) := by
  refine W_of ?_
  simp (config := { maxSteps := 1000000 }) (disch := first | omega | (simp only [go_sem]; omega)) only [go_sem, ↓reduceIte]
  refine W_loop (fun i : Nat => ⟨[(1, .lst 1 (ints b)), (5, .sl 0 0 l.length), (11, .lst 1 (ints l)), (12, .int .i64 l.length), (13, .int .i64 i)], [(0, .arr 1 (ints (thr (l.take i) b ++ List.replicate (l.length - i) 0)))], 1⟩) (fun i => i ≤ l.length) (fun i => l.length - i) 0 ?_ ?_ ?_
  · simp (config := { maxSteps := 1000000 }) (disch := first | omega | (simp only [go_sem]; omega)) only [go_sem, ↓reduceIte]
    rfl
  · simp
  · intro i hi
    have el : (thr (l.take i) b).length = i := by rw [thr_len]; simp; omega
    simp (config := { maxSteps := 1000000 }) (disch := first | omega | (simp only [go_sem]; omega)) only [go_sem, ↓reduceIte, c_morphism_through_b7]
    refine bran_dec (fun c => ?_) (fun c => ?_)
    · have hx := hb _ (gt_mem (l := l) (j := i) (by omega) (by omega))
      have hf : (thr (l.take i) b ++ List.replicate (l.length - i) 0).set i (gt b (gt l i)) = thr (l.take (i + 1)) b ++ List.replicate (l.length - (i + 1)) 0 := by
        have := fillL (thr (l.take i) b) (gt b (gt l i)) 0 (l.length - (i + 1))
        rw [el, show l.length - (i + 1) + 1 = l.length - i by omega] at this
        rw [this, thr_step (by omega)]
      simp (config := { maxSteps := 1000000 }) (disch := first | omega | (simp only [go_sem]; omega)) only [go_sem, ↓reduceIte, el, hf]
      exact ⟨i + 1, by simp, by omega, by omega⟩
    · obtain rfl : i = l.length := by omega
      rw [List.take_length] at el
      simp (config := { maxSteps := 1000000 }) (disch := first | omega | (simp only [go_sem]; omega)) only [go_sem, ↓reduceIte, el]
      simp
theorem w_morphism_Same (he : K_slices_Equal_I P F) (a b : Mo) (h1 : a.n.length ≤ maxL) (h2 : a.e.length ≤ maxL) : W P (c_morphism_Same F) (Done [.t 4] [] (.bool (decide (a = b))) []) (init [mD a, mD b]) := by
  refine W_of ?_
  obtain ⟨an, ae⟩ := a
  obtain ⟨bn, be⟩ := b
  simp only at h1 h2
  simp (config := { maxSteps := 1000000 }) (disch := first | omega | (simp only [go_sem]; omega)) only [go_sem, ↓reduceIte, mD]
  refine call_by (he _ _ h1) ?_
  simp (config := { maxSteps := 1000000 }) (disch := first | omega | (simp only [go_sem]; omega)) only [go_sem, ↓reduceIte]
  refine bran_dec (fun c => ?_) (fun c => ?_)
  · subst c
    simp (config := { maxSteps := 1000000 }) (disch := first | omega | (simp only [go_sem]; omega)) only [go_sem, ↓reduceIte]
    refine call_by (he _ _ h2) ?_
    simp (config := { maxSteps := 1000000 }) (disch := first | omega | (simp only [go_sem]; omega)) only [go_sem, ↓reduceIte]
    simp
  · simp (config := { maxSteps := 1000000 }) (disch := first | omega | (simp only [go_sem]; omega)) only [go_sem, ↓reduceIte, c]
    simp [c]
theorem w_morphism_Compose (hv : K_morphism_Valid P F) (ht : K_morphism_through P F) (a b c : G) (m n : Mo) : W P (c_morphism_Compose F) (Done [.c 10 true 2, .t 11] [] (.tup [mA (comM a b c m n).1, .int .i64 (comM a b c m n).2]) []) (init [gD a, gD b, gD c, mD m, mD n]) := by
  refine W_of ?_
  have r1 := hv a b m
  have r2 := hv b c n
  have hl := @validM_len a b m
  have hb := @validM_bd a b m
  have hs := @validM_spec b c n
  have hE : comM a b c m n = if validM a b m ≠ 0 then (m0, validM a b m) else if validM b c n ≠ 0 then (m0, validM b c n) else (thenM m n, 0) := rfl
  generalize comM a b c m n = q at *
  generalize validM a b m = v at *
  generalize validM b c n = u at *
  by_cases c1 : v = 0
  · subst c1
    rw [if_neg (by simp)] at hE
    by_cases c2 : u = 0
    · subst c2
      rw [if_neg (by simp)] at hE
      subst hE
      obtain ⟨l1, l2, _⟩ := hl rfl
      obtain ⟨b1, b2⟩ := hb rfl
      obtain ⟨_, _, s1, s2, _⟩ := hs rfl
      rw [← s1] at b1
      rw [← s2] at b2
      have t1 := ht m.n n.n (by omega) b1
      have t2 := ht m.e n.e (by omega) b2
      simp only [gD, mD, mA, thenM] at *
      simp (config := { maxSteps := 1000000 }) (disch := first | omega | (simp only [go_sem]; omega)) only [go_sem, ↓reduceIte]
      refine call_by r1 ?_
      simp (config := { maxSteps := 1000000 }) (disch := first | omega | (simp only [go_sem]; omega)) only [go_sem, ↓reduceIte]
      refine call_by r2 ?_
      simp (config := { maxSteps := 1000000 }) (disch := first | omega | (simp only [go_sem]; omega)) only [go_sem, ↓reduceIte]
      refine call_by t1 ?_
      simp (config := { maxSteps := 1000000 }) (disch := first | omega | (simp only [go_sem]; omega)) only [go_sem, ↓reduceIte]
      refine call_by t2 ?_
      simp (config := { maxSteps := 1000000 }) (disch := first | omega | (simp only [go_sem]; omega)) only [go_sem, ↓reduceIte]
      simp [mA, thenM]
    · rw [if_pos c2] at hE
      subst hE
      simp only [gD, mD] at *
      simp (config := { maxSteps := 1000000 }) (disch := first | omega | (simp only [go_sem]; omega)) only [go_sem, ↓reduceIte]
      refine call_by r1 ?_
      simp (config := { maxSteps := 1000000 }) (disch := first | omega | (simp only [go_sem]; omega)) only [go_sem, ↓reduceIte]
      refine call_by r2 ?_
      simp (config := { maxSteps := 1000000 }) (disch := first | omega | (simp only [go_sem]; omega)) only [go_sem, ↓reduceIte, c2]
      simp [m0, mA, ints]
  · rw [if_pos c1] at hE
    subst hE
    simp only [gD, mD] at *
    simp (config := { maxSteps := 1000000 }) (disch := first | omega | (simp only [go_sem]; omega)) only [go_sem, ↓reduceIte]
    refine call_by r1 ?_
    simp (config := { maxSteps := 1000000 }) (disch := first | omega | (simp only [go_sem]; omega)) only [go_sem, ↓reduceIte, c1]
    simp [m0, mA, ints]
end
end Go.Am
