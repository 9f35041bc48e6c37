/- slices.Concat; disjoint unions. -/
import Derived.Test.YtoeomfoohdheoaaSkV
namespace Go.Am
open Go
set_option linter.unusedVariables false
set_option linter.unusedSimpArgs false
/- slices.Grow.I -/
def c_slices_Grow_I_r0 (F : String → Nat) : List LI := [⟨some 4, .mov (.k (.nl 1)), none⟩]
def c_slices_Grow_I_r1 (F : String → Nat) : List LI := [⟨some 5, .mov (.t 1), none⟩,
  ⟨some 6, .bin .lss (.t 5) (.k (.int .i64 (0))), none⟩]
def c_slices_Grow_I_r2 (F : String → Nat) : List LI := [⟨some 7, .bad, none⟩,
  ⟨none, .bad, none⟩]
def c_slices_Grow_I_r3 (F : String → Nat) : List LI := [⟨some 8, .mov (.t 1), none⟩,
  ⟨some 9, .mov (.t 0), none⟩,
  ⟨some 10, .cap (.t 9), none⟩,
  ⟨some 11, .mov (.t 0), none⟩,
  ⟨some 12, .len (.t 11), none⟩,
  ⟨some 13, .bin .sub (.t 10) (.t 12), none⟩,
  ⟨some 14, .bin .sub (.t 8) (.t 13), none⟩,
  ⟨some 1, .mov (.t 14), none⟩]
def c_slices_Grow_I_r4 (F : String → Nat) : List LI := [⟨some 15, .mov (.t 1), none⟩,
  ⟨some 16, .bin .gtr (.t 15) (.k (.int .i64 (0))), none⟩]
def c_slices_Grow_I_r5 (F : String → Nat) : List LI := [⟨some 17, .mov (.t 0), none⟩,
  ⟨some 18, .mov (.t 0), none⟩,
  ⟨some 19, .cap (.t 18), none⟩,
  ⟨some 20, .slc 1 (.t 17) none (some (.t 19)), none⟩,
  ⟨some 21, .mov (.t 1), none⟩,
  ⟨some 22, .appz 1 8 (.int .i64 (0)) (.t 20) (.t 21), none⟩,
  ⟨some 23, .mov (.t 0), none⟩,
  ⟨some 24, .len (.t 23), none⟩,
  ⟨some 25, .slc 1 (.t 22) none (some (.t 24)), none⟩,
  ⟨some 0, .mov (.t 25), none⟩]
def c_slices_Grow_I_r6 (F : String → Nat) : List LI := [⟨some 26, .mov (.t 0), none⟩,
  ⟨some 4, .mov (.t 26), none⟩]
def c_slices_Grow_I (F : String → Nat) : LC := (.seq (.reg (c_slices_Grow_I_r0 F) [0, 1]) (.seq (.seq (.reg (c_slices_Grow_I_r1 F) [0, 1, 6]) (.cond (.t 6) (.reg (c_slices_Grow_I_r2 F) [0, 1]) .skip)) (.seq (.seq (.reg (c_slices_Grow_I_r3 F) [0, 1]) (.seq (.reg (c_slices_Grow_I_r4 F) [0, 1, 16]) (.cond (.t 16) (.reg (c_slices_Grow_I_r5 F) [0]) .skip))) (.seq (.reg (c_slices_Grow_I_r6 F) [4]) .ret))))
def h_slices_Grow_I : Hints := ⟨[], fun _ => [], tab [(0, [0, 1]), (1, [0, 1, 6]), (2, [0, 1]), (3, [0, 1]), (4, [0, 1, 16]), (5, [0]), (6, [4])], tab []⟩

/- slices.Concat.I -/
def c_slices_Concat_I_r0 (F : String → Nat) : List LI := [⟨some 2, .mov (.k (.nl 1)), none⟩]
def c_slices_Concat_I_r1 (F : String → Nat) : List LI := [⟨some 3, .mov (.k (.int .i64 (0))), none⟩]
def c_slices_Concat_I_r2 (F : String → Nat) : List LI := [⟨some 9, .mov (.t 0), none⟩,
  ⟨some 10, .len (.t 9), none⟩,
  ⟨some 11, .mov (.k (.int .i64 (0))), none⟩]
def c_slices_Concat_I_r3 (F : String → Nat) : List LI := [⟨some 12, .bin .lss (.t 11) (.t 10), none⟩]
def c_slices_Concat_I_r4 (F : String → Nat) : List LI := [⟨some 13, .iad 1 (.t 9) (.t 11), none⟩,
  ⟨some 14, .load false 1 (.t 13), none⟩,
  ⟨some 5, .mov (.t 14), none⟩]
def c_slices_Concat_I_r5 (F : String → Nat) : List LI := [⟨some 15, .mov (.t 3), none⟩,
  ⟨some 16, .mov (.t 5), none⟩,
  ⟨some 17, .len (.t 16), none⟩,
  ⟨some 18, .bin .add (.t 15) (.t 17), none⟩,
  ⟨some 3, .mov (.t 18), none⟩]
def c_slices_Concat_I_r6 (F : String → Nat) : List LI := [⟨some 19, .mov (.t 3), none⟩,
  ⟨some 20, .bin .lss (.t 19) (.k (.int .i64 (0))), none⟩]
def c_slices_Concat_I_r7 (F : String → Nat) : List LI := [⟨some 21, .bad, none⟩,
  ⟨none, .bad, none⟩]
def c_slices_Concat_I_r8 (F : String → Nat) : List LI := [⟨some 22, .bin .add (.t 11) (.k (.int .i64 (1))), none⟩,
  ⟨some 11, .mov (.t 22), none⟩]
def c_slices_Concat_I_b9 (F : String → Nat) : LC := (.seq (.reg (c_slices_Concat_I_r3 F) [0, 3, 9, 10, 11, 12]) (.seq (.cond (.t 12) .skip (.exit 0)) (.seq (.block 1 (.seq (.reg (c_slices_Concat_I_r4 F) [0, 3, 5, 9, 10, 11]) (.seq (.reg (c_slices_Concat_I_r5 F) [0, 3, 9, 10, 11]) (.seq (.reg (c_slices_Concat_I_r6 F) [0, 3, 9, 10, 11, 20]) (.cond (.t 20) (.reg (c_slices_Concat_I_r7 F) [0, 3, 9, 10, 11]) .skip))))) (.reg (c_slices_Concat_I_r8 F) [0, 3, 9, 10, 11]))))
def c_slices_Concat_I_r10 (F : String → Nat) : List LI := [⟨some 23, .mov (.t 3), none⟩,
  ⟨some 24, .call (F "slices.Grow.I") [.k (.nl 0), .t 23] [], none⟩,
  ⟨some 6, .mov (.t 24), none⟩]
def c_slices_Concat_I_r11 (F : String → Nat) : List LI := [⟨some 25, .mov (.t 0), none⟩,
  ⟨some 26, .len (.t 25), none⟩,
  ⟨some 27, .mov (.k (.int .i64 (0))), none⟩]
def c_slices_Concat_I_r12 (F : String → Nat) : List LI := [⟨some 28, .bin .lss (.t 27) (.t 26), none⟩]
def c_slices_Concat_I_r13 (F : String → Nat) : List LI := [⟨some 29, .iad 1 (.t 25) (.t 27), none⟩,
  ⟨some 30, .load false 1 (.t 29), none⟩,
  ⟨some 8, .mov (.t 30), none⟩]
def c_slices_Concat_I_r14 (F : String → Nat) : List LI := [⟨some 31, .mov (.t 6), none⟩,
  ⟨some 32, .mov (.t 8), none⟩,
  ⟨some 33, .app 1 8 (.t 31) (.t 32), none⟩,
  ⟨some 6, .mov (.t 33), none⟩]
def c_slices_Concat_I_r15 (F : String → Nat) : List LI := [⟨some 34, .bin .add (.t 27) (.k (.int .i64 (1))), none⟩,
  ⟨some 27, .mov (.t 34), none⟩]
def c_slices_Concat_I_b16 (F : String → Nat) : LC := (.seq (.reg (c_slices_Concat_I_r12 F) [6, 25, 26, 27, 28]) (.seq (.cond (.t 28) .skip (.exit 2)) (.seq (.block 3 (.seq (.reg (c_slices_Concat_I_r13 F) [6, 8, 25, 26, 27]) (.reg (c_slices_Concat_I_r14 F) [6, 25, 26, 27]))) (.reg (c_slices_Concat_I_r15 F) [6, 25, 26, 27]))))
def c_slices_Concat_I_r17 (F : String → Nat) : List LI := [⟨some 35, .mov (.t 6), none⟩,
  ⟨some 2, .mov (.t 35), none⟩]
def c_slices_Concat_I (F : String → Nat) : LC := (.seq (.reg (c_slices_Concat_I_r0 F) [0]) (.seq (.reg (c_slices_Concat_I_r1 F) [0, 3]) (.seq (.seq (.reg (c_slices_Concat_I_r2 F) [0, 3, 9, 10, 11]) (.block 0 (.loop [0, 3, 9, 10, 11] (c_slices_Concat_I_b9 F)))) (.seq (.reg (c_slices_Concat_I_r10 F) [0, 6]) (.seq (.seq (.reg (c_slices_Concat_I_r11 F) [6, 25, 26, 27]) (.block 2 (.loop [6, 25, 26, 27] (c_slices_Concat_I_b16 F)))) (.seq (.reg (c_slices_Concat_I_r17 F) [2]) .ret))))))
def h_slices_Concat_I : Hints := ⟨[], fun _ => [], tab [(0, [0]), (1, [0, 3]), (2, [0, 3, 9, 10, 11]), (3, [0, 3, 9, 10, 11, 12]), (4, [0, 3, 5, 9, 10, 11]), (5, [0, 3, 9, 10, 11]), (6, [0, 3, 9, 10, 11, 20]), (7, [0, 3, 9, 10, 11]), (8, [0, 3, 9, 10, 11]), (9, [0, 6]), (10, [6, 25, 26, 27]), (11, [6, 25, 26, 27, 28]), (12, [6, 8, 25, 26, 27]), (13, [6, 25, 26, 27]), (14, [6, 25, 26, 27]), (15, [2])], tab [(3, [0, 3, 9, 10, 11]), (11, [6, 25, 26, 27])]⟩

attribute [go_sem] c_slices_Grow_I_r0 c_slices_Grow_I_r1 c_slices_Grow_I_r2 c_slices_Grow_I_r3 c_slices_Grow_I_r4 c_slices_Grow_I_r5 c_slices_Grow_I_r6 c_slices_Grow_I c_slices_Concat_I_r0 c_slices_Concat_I_r1 c_slices_Concat_I_r2 c_slices_Concat_I_r3 c_slices_Concat_I_r4 c_slices_Concat_I_r5 c_slices_Concat_I_r6 c_slices_Concat_I_r7 c_slices_Concat_I_r8 c_slices_Concat_I_r10 c_slices_Concat_I_r11 c_slices_Concat_I_r12 c_slices_Concat_I_r13 c_slices_Concat_I_r14 c_slices_Concat_I_r15 c_slices_Concat_I_r17 c_slices_Concat_I
def shE1 (n : Int) (x : E) : E := ⟨x.t, x.f + n, x.o + n⟩
section
variable (P : Program) (F : String → Nat)
def K_slices_Grow_I : Prop := ∀ n : Nat, n ≤ 10000000000000 → FC P (F "slices.Grow.I") [.nl 1, .int .i64 n] (.arr 1 []) []
def K_slices_Concat_I : Prop := ∀ a b : List Int, a.length ≤ 1000000000000 → b.length ≤ 1000000000000 → FC P (F "slices.Concat.I") [.lst 1 [.lst 1 (ints a), .lst 1 (ints b)]] (.arr 1 (ints (a ++ b))) []
end
section
variable {P : Program} {F : String → Nat} {α : Type}
def catL (a b : List Int) : Nat → List Int
  | 0 => []
  | 1 => a
  | _ => a ++ b
theorem FC.nl {P : Program} {f a b : Nat} {args : List D} {r : D} {outs : List (Nat × D)} (h : FC P f (.nl a :: args) r outs) : FC P f (.nl b :: args) r outs := by
  unfold FC at *
  simp only [DRs, DR] at *
  exact h
theorem w_slices_Grow_I (n : Nat) (hn : n ≤ 10000000000000) : W P (c_slices_Grow_I F) (Done [.t 4] [] (.arr 1 []) []) (init [.nl 1, .int .i64 n]) := by
  refine W_of ?_
  simp (config := { maxSteps := 1000000 }) (disch := first | omega | (simp only [go_sem]; omega)) only [go_sem, ↓reduceIte]
  refine bran_dec (fun c => ?_) (fun c => ?_)
  · omega
  · simp (config := { maxSteps := 1000000 }) (disch := first | omega | (simp only [go_sem]; omega)) only [go_sem, ↓reduceIte]
    refine bran_dec (fun c => ?_) (fun c => ?_)
    · simp (config := { maxSteps := 1000000 }) (disch := first | omega | (simp only [go_sem]; omega)) only [go_sem, ↓reduceIte]
      rw [if_neg (by omega)]
      rfl
    · simp (config := { maxSteps := 1000000 }) (disch := first | omega | (simp only [go_sem]; omega)) only [go_sem, ↓reduceIte]
theorem w_slices_Concat_I (hg : K_slices_Grow_I P F) (a b : List Int) (ha : a.length ≤ 1000000000000) (hb : b.length ≤ 1000000000000) : W P (c_slices_Concat_I F) (Done [.t 2] [] (.arr 1 (ints (a ++ b))) []) (init [.lst 1 [.lst 1 (ints a), .lst 1 (ints b)]]) := by
  refine W_of ?_
  simp (config := { maxSteps := 1000000 }) (disch := first | omega | (simp only [go_sem]; omega)) only [go_sem, ↓reduceIte]
  refine W_loop (fun i : Nat => ⟨[(0, D.lst 1 [D.lst 1 (ints a), D.lst 1 (ints b)]), (3, D.int IntKind.i64 (catL a b i).length), (9, D.lst 1 [D.lst 1 (ints a), D.lst 1 (ints b)]), (10, D.int IntKind.i64 (2 : Nat)), (11, D.int IntKind.i64 i)], [], 0⟩) (fun i => i ≤ 2) (fun i => 2 - i) 0 ?_ ?_ ?_
  · simp (config := { maxSteps := 1000000 }) (disch := first | omega | (simp only [go_sem]; omega)) only [go_sem, ↓reduceIte]
    rfl
  · omega
  · intro i hi
    have h3 : i = 0 ∨ i = 1 ∨ i = 2 := by omega
    rcases h3 with rfl | rfl | rfl
    · simp (config := { maxSteps := 1000000 }) (disch := first | omega | (simp only [go_sem]; omega)) only [go_sem, ↓reduceIte, c_slices_Concat_I_b9, catL]
      refine bran_dec (fun c => ?_) (fun c => absurd c (by omega))
      simp (config := { maxSteps := 1000000 }) (disch := first | omega | (simp only [go_sem]; omega)) only [go_sem, ↓reduceIte, catL]
      refine bran_dec (fun c => by omega) (fun c => ?_)
      simp (config := { maxSteps := 1000000 }) (disch := first | omega | (simp only [go_sem]; omega)) only [go_sem, ↓reduceIte]
      exact ⟨1, by simp [catL], by omega, by omega⟩
    · simp (config := { maxSteps := 1000000 }) (disch := first | omega | (simp only [go_sem]; omega)) only [go_sem, ↓reduceIte, c_slices_Concat_I_b9, catL]
      refine bran_dec (fun c => ?_) (fun c => absurd c (by omega))
      simp (config := { maxSteps := 1000000 }) (disch := first | omega | (simp only [go_sem]; omega)) only [go_sem, ↓reduceIte, catL]
      refine bran_dec (fun c => by omega) (fun c => ?_)
      simp (config := { maxSteps := 1000000 }) (disch := first | omega | (simp only [go_sem]; omega)) only [go_sem, ↓reduceIte]
      exact ⟨2, by simp [catL], by omega, by omega⟩
    · simp (config := { maxSteps := 1000000 }) (disch := first | omega | (simp only [go_sem]; omega)) only [go_sem, ↓reduceIte, c_slices_Concat_I_b9]
      refine bran_dec (fun c => absurd c (by omega)) (fun c => ?_)
      simp (config := { maxSteps := 1000000 }) (disch := first | omega | (simp only [go_sem]; omega)) only [go_sem, ↓reduceIte]
      have r := FC.nl (b := 0) (hg (catL a b 2).length (by simp [catL]; omega))
      refine call_by r ?_
      simp (config := { maxSteps := 1000000 }) (disch := first | omega | (simp only [go_sem]; omega)) only [go_sem, ↓reduceIte]
      refine W_loop (fun i : Nat => ⟨[(6, D.sl 0 0 (catL a b i).length), (25, D.lst 1 [D.lst 1 (ints a), D.lst 1 (ints b)]), (26, D.int IntKind.i64 (2 : Nat)), (27, D.int IntKind.i64 i)], [(0, Ent.arr 1 (ints (catL a b i)))], 1⟩) (fun i => i ≤ 2) (fun i => 2 - i) 0 ?_ ?_ ?_
      · simp (config := { maxSteps := 1000000 }) (disch := first | omega | (simp only [go_sem]; omega)) only [go_sem, ↓reduceIte]
        rfl
      · omega
      · intro i hi
        have h3 : i = 0 ∨ i = 1 ∨ i = 2 := by omega
        rcases h3 with rfl | rfl | rfl
        · simp (config := { maxSteps := 1000000 }) (disch := first | omega | (simp only [go_sem]; omega)) only [go_sem, ↓reduceIte, c_slices_Concat_I_b16, catL]
          refine bran_dec (fun c => ?_) (fun c => absurd c (by omega))
          simp (config := { maxSteps := 1000000 }) (disch := first | omega | (simp only [go_sem]; omega)) only [go_sem, ↓reduceIte, catL]
          exact ⟨1, by simp, by omega, by omega⟩
        · simp (config := { maxSteps := 1000000 }) (disch := first | omega | (simp only [go_sem]; omega)) only [go_sem, ↓reduceIte, c_slices_Concat_I_b16, catL]
          refine bran_dec (fun c => ?_) (fun c => absurd c (by omega))
          simp (config := { maxSteps := 1000000 }) (disch := first | omega | (simp only [go_sem]; omega)) only [go_sem, ↓reduceIte, catL]
          exact ⟨2, by simp, by omega, by omega⟩
        · simp (config := { maxSteps := 1000000 }) (disch := first | omega | (simp only [go_sem]; omega)) only [go_sem, ↓reduceIte, c_slices_Concat_I_b16, catL]
          refine bran_dec (fun c => absurd c (by omega)) (fun c => ?_)
          simp (config := { maxSteps := 1000000 }) (disch := first | omega | (simp only [go_sem]; omega)) only [go_sem, ↓reduceIte, catL]
end
end Go.Am
