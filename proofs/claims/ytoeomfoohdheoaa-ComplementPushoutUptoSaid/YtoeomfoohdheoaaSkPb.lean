/- slices.Compact at []int; injective and surjective morphisms. -/
/- Injective and surjective morphisms. -/
import Derived.Test.YtoeomfoohdheoaaSkS
import Derived.Test.YtoeomfoohdheoaaSkV
import Derived.Test.YtoeomfoohdheoaaSkC
namespace Go.Am
open Go
set_option linter.unusedVariables false
set_option linter.unusedSimpArgs false
/- slices.Compact.I -/
def c_slices_Compact_I_r0 (F : String → Nat) : List LI := [⟨some 2, .mov (.k (.nl 1)), none⟩]
def c_slices_Compact_I_r1 (F : String → Nat) : List LI := [⟨some 6, .mov (.t 0), none⟩,
  ⟨some 7, .len (.t 6), none⟩,
  ⟨some 8, .bin .lss (.t 7) (.k (.int .i64 (2))), none⟩]
def c_slices_Compact_I_r2 (F : String → Nat) : List LI := [⟨some 9, .mov (.t 0), none⟩,
  ⟨some 2, .mov (.t 9), none⟩]
def c_slices_Compact_I_r3 (F : String → Nat) : List LI := [⟨some 3, .mov (.k (.int .i64 (1))), none⟩]
def c_slices_Compact_I_r4 (F : String → Nat) : List LI := [⟨some 10, .mov (.t 3), none⟩,
  ⟨some 11, .mov (.t 0), none⟩,
  ⟨some 12, .len (.t 11), none⟩,
  ⟨some 13, .bin .lss (.t 10) (.t 12), none⟩]
def c_slices_Compact_I_r5 (F : String → Nat) : List LI := [⟨some 16, .mov (.t 0), none⟩,
  ⟨some 17, .mov (.t 3), none⟩,
  ⟨some 18, .iad 1 (.t 16) (.t 17), none⟩,
  ⟨some 19, .load false 1 (.t 18), none⟩,
  ⟨some 20, .mov (.t 0), none⟩,
  ⟨some 21, .mov (.t 3), none⟩,
  ⟨some 22, .bin .sub (.t 21) (.k (.int .i64 (1))), none⟩,
  ⟨some 23, .iad 1 (.t 20) (.t 22), none⟩,
  ⟨some 24, .load false 1 (.t 23), none⟩,
  ⟨some 25, .bin .eql (.t 19) (.t 24), none⟩]
def c_slices_Compact_I_r6 (F : String → Nat) : List LI := [⟨some 26, .mov (.t 0), none⟩,
  ⟨some 27, .mov (.t 3), none⟩,
  ⟨some 28, .slc 1 (.t 26) (some (.t 27)) none, none⟩,
  ⟨some 4, .mov (.t 28), none⟩]
def c_slices_Compact_I_r7 (F : String → Nat) : List LI := [⟨some 5, .mov (.k (.int .i64 (1))), none⟩]
def c_slices_Compact_I_r8 (F : String → Nat) : List LI := [⟨some 29, .mov (.t 5), none⟩,
  ⟨some 30, .mov (.t 4), none⟩,
  ⟨some 31, .len (.t 30), none⟩,
  ⟨some 32, .bin .lss (.t 29) (.t 31), none⟩]
def c_slices_Compact_I_r9 (F : String → Nat) : List LI := [⟨some 35, .mov (.t 4), none⟩,
  ⟨some 36, .mov (.t 5), none⟩,
  ⟨some 37, .iad 1 (.t 35) (.t 36), none⟩,
  ⟨some 38, .load false 1 (.t 37), none⟩,
  ⟨some 39, .mov (.t 4), none⟩,
  ⟨some 40, .mov (.t 5), none⟩,
  ⟨some 41, .bin .sub (.t 40) (.k (.int .i64 (1))), none⟩,
  ⟨some 42, .iad 1 (.t 39) (.t 41), none⟩,
  ⟨some 43, .load false 1 (.t 42), none⟩,
  ⟨some 44, .bin .neq (.t 38) (.t 43), none⟩]
def c_slices_Compact_I_r10 (F : String → Nat) : List LI := [⟨some 45, .mov (.t 0), none⟩,
  ⟨some 46, .mov (.t 3), none⟩,
  ⟨some 47, .mov (.t 4), none⟩,
  ⟨some 48, .mov (.t 5), none⟩,
  ⟨some 49, .iad 1 (.t 47) (.t 48), none⟩,
  ⟨some 50, .load false 1 (.t 49), none⟩,
  ⟨some 51, .iad 1 (.t 45) (.t 46), none⟩,
  ⟨none, .store 1 (.t 51) (.t 50), none⟩]
def c_slices_Compact_I_r11 (F : String → Nat) : List LI := [⟨some 52, .mov (.t 3), none⟩,
  ⟨some 53, .bin .add (.t 52) (.k (.int .i64 (1))), none⟩,
  ⟨some 3, .mov (.t 53), none⟩]
def c_slices_Compact_I_r12 (F : String → Nat) : List LI := [⟨some 33, .mov (.t 5), none⟩,
  ⟨some 34, .bin .add (.t 33) (.k (.int .i64 (1))), none⟩,
  ⟨some 5, .mov (.t 34), none⟩]
def c_slices_Compact_I_b13 (F : String → Nat) : LC := (.seq (.seq (.reg (c_slices_Compact_I_r8 F) [0, 3, 4, 5, 32]) (.cond (.t 32) .skip (.exit 2))) (.seq (.block 3 (.seq (.dreg [] (c_slices_Compact_I_r9 F) [0, 3, 4, 5, 44]) (.cond (.t 44) (.seq (.reg (c_slices_Compact_I_r10 F) [0, 3, 4, 5]) (.reg (c_slices_Compact_I_r11 F) [0, 3, 4, 5])) .skip))) (.reg (c_slices_Compact_I_r12 F) [0, 3, 4, 5])))
def c_slices_Compact_I_r14 (F : String → Nat) : List LI := [⟨some 54, .mov (.t 0), none⟩,
  ⟨some 55, .mov (.t 3), none⟩,
  ⟨some 56, .slc 1 (.t 54) (some (.t 55)) none, none⟩,
  ⟨none, .clr 1 (.t 56), none⟩]
def c_slices_Compact_I_r15 (F : String → Nat) : List LI := [⟨some 57, .mov (.t 0), none⟩,
  ⟨some 58, .mov (.t 3), none⟩,
  ⟨some 59, .slc 1 (.t 57) none (some (.t 58)), none⟩,
  ⟨some 2, .mov (.t 59), none⟩]
def c_slices_Compact_I_r16 (F : String → Nat) : List LI := [⟨some 14, .mov (.t 3), none⟩,
  ⟨some 15, .bin .add (.t 14) (.k (.int .i64 (1))), none⟩,
  ⟨some 3, .mov (.t 15), none⟩]
def c_slices_Compact_I_b17 (F : String → Nat) : LC := (.seq (.seq (.reg (c_slices_Compact_I_r4 F) [0, 3, 13]) (.cond (.t 13) .skip (.exit 0))) (.seq (.block 1 (.seq (.dreg [] (c_slices_Compact_I_r5 F) [0, 3, 25]) (.cond (.t 25) (.seq (.reg (c_slices_Compact_I_r6 F) [0, 3, 4]) (.seq (.seq (.reg (c_slices_Compact_I_r7 F) [0, 3, 4, 5]) (.block 2 (.loop [0, 3, 4, 5] (c_slices_Compact_I_b13 F)))) (.seq (.reg (c_slices_Compact_I_r14 F) [0, 3]) (.seq (.reg (c_slices_Compact_I_r15 F) [2]) .ret)))) .skip))) (.reg (c_slices_Compact_I_r16 F) [0, 3])))
def c_slices_Compact_I_r18 (F : String → Nat) : List LI := [⟨some 60, .mov (.t 0), none⟩,
  ⟨some 2, .mov (.t 60), none⟩]
def c_slices_Compact_I (F : String → Nat) : LC := (.seq (.reg (c_slices_Compact_I_r0 F) [0]) (.seq (.seq (.reg (c_slices_Compact_I_r1 F) [0, 8]) (.cond (.t 8) (.seq (.reg (c_slices_Compact_I_r2 F) [2]) .ret) .skip)) (.seq (.seq (.reg (c_slices_Compact_I_r3 F) [0, 3]) (.block 0 (.loop [0, 3] (c_slices_Compact_I_b17 F)))) (.seq (.reg (c_slices_Compact_I_r18 F) [2]) .ret))))
def h_slices_Compact_I : Hints := ⟨[], fun _ => [], tab [(0, [0]), (1, [0, 8]), (2, [2]), (3, [0, 3]), (4, [0, 3, 13]), (5, [0, 3]), (6, [0, 3, 25]), (7, [0, 3, 4]), (8, [0, 3, 4, 5]), (9, [0, 3, 4, 5, 32]), (10, [0, 3, 4, 5]), (11, [0, 3, 4, 5, 44]), (12, [0, 3, 4, 5]), (13, [0, 3, 4, 5]), (14, [0, 3]), (15, [2]), (16, [2])], tab [(4, [0, 3]), (9, [0, 3, 4, 5])]⟩

/- morphism.images -/
def c_morphism_images_r0 (F : String → Nat) : List LI := [⟨some 2, .mov (.k (.int .i64 (0))), none⟩]
def c_morphism_images_r1 (F : String → Nat) : List LI := [⟨some 4, .mov (.t 0), none⟩,
  ⟨some 5, .call (F "slices.Clone.I") [.t 4] [], none⟩,
  ⟨some 3, .mov (.t 5), none⟩]
def c_morphism_images_r2 (F : String → Nat) : List LI := [⟨some 6, .mov (.t 3), none⟩,
  ⟨some 7, .call (F "slices.Sort.I") [.t 6] [.mu], none⟩]
def c_morphism_images_r3 (F : String → Nat) : List LI := [⟨some 8, .mov (.t 3), none⟩,
  ⟨some 9, .call (F "slices.Compact.I") [.t 8] [.ow], none⟩,
  ⟨some 10, .len (.t 9), none⟩,
  ⟨some 2, .mov (.t 10), none⟩]
def c_morphism_images (F : String → Nat) : LC := (.seq (.reg (c_morphism_images_r0 F) [0]) (.seq (.reg (c_morphism_images_r1 F) [3]) (.seq (.reg (c_morphism_images_r2 F) [3]) (.seq (.reg (c_morphism_images_r3 F) [2]) .ret))))
def h_morphism_images : Hints := ⟨[], fun _ => [], tab [(0, [0]), (1, [3]), (2, [3]), (3, [2])], tab []⟩

/- morphism.Injective -/
def c_morphism_Injective_r0 (F : String → Nat) : List LI := [⟨some 3, .bx (.t 0), none⟩,
  ⟨some 4, .bx (.t 1), none⟩,
  ⟨some 5, .bx (.t 2), none⟩,
  ⟨some 6, .mov (.k (.bool false)), none⟩]
def c_morphism_Injective_r1 (F : String → Nat) : List LI := [⟨some 7, .load true 2 (.t 3), none⟩,
  ⟨some 8, .load true 2 (.t 4), none⟩,
  ⟨some 9, .load true 2 (.t 5), none⟩,
  ⟨some 10, .call (F "morphism.Valid") [.t 7, .t 8, .t 9] [], none⟩,
  ⟨some 11, .bin .eql (.t 10) (.k (.int .i64 (0))), none⟩,
  ⟨some 12, .mov (.t 11), none⟩,
  ⟨some 13, .fad 0 (.t 5), some (12, true)⟩,
  ⟨some 14, .load false 1 (.t 13), some (12, true)⟩,
  ⟨some 15, .call (F "morphism.images") [.t 14] [], some (12, true)⟩,
  ⟨some 16, .fad 0 (.t 5), some (12, true)⟩,
  ⟨some 17, .load false 1 (.t 16), some (12, true)⟩,
  ⟨some 18, .len (.t 17), some (12, true)⟩,
  ⟨some 19, .bin .eql (.t 15) (.t 18), some (12, true)⟩,
  ⟨some 20, .pick (.t 12) (.t 19) (.k (.bool false)), none⟩,
  ⟨some 21, .mov (.t 20), none⟩,
  ⟨some 22, .fad 1 (.t 5), some (21, true)⟩,
  ⟨some 23, .load false 1 (.t 22), some (21, true)⟩,
  ⟨some 24, .call (F "morphism.images") [.t 23] [], some (21, true)⟩,
  ⟨some 25, .fad 1 (.t 5), some (21, true)⟩,
  ⟨some 26, .load false 1 (.t 25), some (21, true)⟩,
  ⟨some 27, .len (.t 26), some (21, true)⟩,
  ⟨some 28, .bin .eql (.t 24) (.t 27), some (21, true)⟩,
  ⟨some 29, .pick (.t 21) (.t 28) (.k (.bool false)), none⟩,
  ⟨some 6, .mov (.t 29), none⟩]
def c_morphism_Injective (F : String → Nat) : LC := (.seq (.reg (c_morphism_Injective_r0 F) [3, 4, 5]) (.seq (.dreg [(8, none, [], true), (10, (some 575), [8], false), (17, none, [], true), (19, (some 294911), [17], false)] (c_morphism_Injective_r1 F) [6]) .ret))
def h_morphism_Injective : Hints := ⟨[], fun _ => [], tab [(0, [3, 4, 5]), (1, [6])], tab []⟩

/- morphism.Surjective -/
def c_morphism_Surjective_r0 (F : String → Nat) : List LI := [⟨some 3, .bx (.t 0), none⟩,
  ⟨some 4, .bx (.t 1), none⟩,
  ⟨some 5, .bx (.t 2), none⟩,
  ⟨some 6, .mov (.k (.bool false)), none⟩]
def c_morphism_Surjective_r1 (F : String → Nat) : List LI := [⟨some 7, .load true 2 (.t 3), none⟩,
  ⟨some 8, .load true 2 (.t 4), none⟩,
  ⟨some 9, .load true 2 (.t 5), none⟩,
  ⟨some 10, .call (F "morphism.Valid") [.t 7, .t 8, .t 9] [], none⟩,
  ⟨some 11, .bin .eql (.t 10) (.k (.int .i64 (0))), none⟩,
  ⟨some 12, .mov (.t 11), none⟩,
  ⟨some 13, .fad 0 (.t 5), some (12, true)⟩,
  ⟨some 14, .load false 1 (.t 13), some (12, true)⟩,
  ⟨some 15, .call (F "morphism.images") [.t 14] [], some (12, true)⟩,
  ⟨some 16, .fad 0 (.t 4), some (12, true)⟩,
  ⟨some 17, .load false 1 (.t 16), some (12, true)⟩,
  ⟨some 18, .len (.t 17), some (12, true)⟩,
  ⟨some 19, .bin .eql (.t 15) (.t 18), some (12, true)⟩,
  ⟨some 20, .pick (.t 12) (.t 19) (.k (.bool false)), none⟩,
  ⟨some 21, .mov (.t 20), none⟩,
  ⟨some 22, .fad 1 (.t 5), some (21, true)⟩,
  ⟨some 23, .load false 1 (.t 22), some (21, true)⟩,
  ⟨some 24, .call (F "morphism.images") [.t 23] [], some (21, true)⟩,
  ⟨some 25, .fad 1 (.t 4), some (21, true)⟩,
  ⟨some 26, .load false 1 (.t 25), some (21, true)⟩,
  ⟨some 27, .len (.t 26), some (21, true)⟩,
  ⟨some 28, .bin .eql (.t 24) (.t 27), some (21, true)⟩,
  ⟨some 29, .pick (.t 21) (.t 28) (.k (.bool false)), none⟩,
  ⟨some 6, .mov (.t 29), none⟩]
def c_morphism_Surjective (F : String → Nat) : LC := (.seq (.reg (c_morphism_Surjective_r0 F) [3, 4, 5]) (.seq (.dreg [(8, none, [], true), (10, (some 575), [8], false), (17, none, [], true), (19, (some 294911), [17], false)] (c_morphism_Surjective_r1 F) [6]) .ret))
def h_morphism_Surjective : Hints := ⟨[], fun _ => [], tab [(0, [3, 4, 5]), (1, [6])], tab []⟩

attribute [go_sem] c_slices_Compact_I_r0 c_slices_Compact_I_r1 c_slices_Compact_I_r2 c_slices_Compact_I_r3 c_slices_Compact_I_r4 c_slices_Compact_I_r5 c_slices_Compact_I_r6 c_slices_Compact_I_r7 c_slices_Compact_I_r8 c_slices_Compact_I_r9 c_slices_Compact_I_r10 c_slices_Compact_I_r11 c_slices_Compact_I_r12 c_slices_Compact_I_r14 c_slices_Compact_I_r15 c_slices_Compact_I_r16 c_slices_Compact_I_r18 c_slices_Compact_I c_morphism_images_r0 c_morphism_images_r1 c_morphism_images_r2 c_morphism_images_r3 c_morphism_images c_morphism_Injective_r0 c_morphism_Injective_r1 c_morphism_Injective c_morphism_Surjective_r0 c_morphism_Surjective_r1 c_morphism_Surjective
/-- Is an element kept? -/
def kept (l : List Int) (i : Nat) : Bool := decide (i = 0) || decide (gt l i ≠ gt l ((i : Int) - 1))
/-- What is kept of the first `n`. -/
def kp (l : List Int) (n : Nat) : List Int := ((List.range n).filter (kept l)).map fun i : Nat => gt l i
def cpt (l : List Int) : List Int := kp l l.length
def imgs (l : List Int) : List Int := cpt (srt l)
def covers (l : List Int) (n : Nat) : Bool := (List.range n).all fun k : Nat => decide ((k : Int) ∈ l)
def surM (a b : G) (m : Mo) : Bool := decide (validM a b m = 0) && (covers m.n b.n.length && covers m.e b.e.length)
section
variable (P : Program) (F : String → Nat)
def K_slices_Compact_I : Prop := ∀ l : List Int, l.length ≤ maxL → FC P (F "slices.Compact.I") [.arr 1 (ints l)] (.arr 1 (ints (cpt l))) []
def K_morphism_images : Prop := ∀ l : List Int, l.length ≤ 1000000 → FC P (F "morphism.images") [.lst 1 (ints l)] (.int .i64 (imgs l).length) []
def K_morphism_Injective : Prop := ∀ (a b : G) (m : Mo), FC P (F "morphism.Injective") [gD a, gD b, mD m] (.bool (injM a b m)) []
def K_morphism_Surjective : Prop := ∀ (a b : G) (m : Mo), FC P (F "morphism.Surjective") [gD a, gD b, mD m] (.bool (surM a b m)) []
end
section
variable {P : Program} {F : String → Nat} {α : Type}
theorem kp_succ (l : List Int) (n : Nat) : kp l (n + 1) = if kept l n = true then kp l n ++ [gt l n] else kp l n := by
  simp only [kp, List.range_succ, List.filter_append, List.filter_cons, List.filter_nil, List.map_append]
  split <;> simp
theorem kp_len (l : List Int) (n : Nat) : (kp l n).length ≤ n := by
  simp only [kp, List.length_map]
  exact Nat.le_trans (List.length_filter_le _ _) (by simp)
theorem w_slices_Compact_I (l : List Int) (hl : l.length ≤ maxL) : W P (c_slices_Compact_I F) (Done [.t 2] [] (.arr 1 (ints (cpt l))) []) (init [.arr 1 (ints l)]) := by
  refine W_of ?_
  unfold maxL at hl
  simp (config := { maxSteps := 1000000 }) (disch := first | omega | (simp only [go_sem]; omega)) only [go_sem, ↓reduceIte]
  refine bran_dec (fun c => ?_) (fun c => ?_)
  · have : cpt l = l := by
      match l, c with
      | [], _ => rfl
      | [x], _ => simp [cpt, kp, kept, List.range_succ, gt]
      | x :: y :: l, c => simp at c; omega
    simp (config := { maxSteps := 1000000 }) (disch := first | omega | (simp only [go_sem]; omega)) only [go_sem, ↓reduceIte]
    rw [this]
  · simp (config := { maxSteps := 1000000 }) (disch := first | omega | (simp only [go_sem]; omega)) only [go_sem, ↓reduceIte]
    refine W_loop (fun k : Nat => ⟨[(0, .sl 0 0 l.length), (3, .int .i64 k)], [(0, .arr 1 (ints l))], 1⟩) (fun k => 1 ≤ k ∧ k ≤ l.length ∧ kp l k = l.take k) (fun k => l.length - k) 1 ?_ ?_ ?_
    · simp (config := { maxSteps := 1000000 }) (disch := first | omega | (simp only [go_sem]; omega)) only [go_sem, ↓reduceIte]
      rfl
    · refine ⟨by omega, by omega, ?_⟩
      rw [kp_succ, if_pos (by simp [kept]), take_gt (by omega)]
      rfl
    · rintro k ⟨h1, h2, h3⟩
      have hs := kp_succ l k
      simp (config := { maxSteps := 1000000 }) (disch := first | omega | (simp only [go_sem]; omega)) only [go_sem, ↓reduceIte, c_slices_Compact_I_b17]
      refine bran_dec (fun d => ?_) (fun d => ?_)
      · simp (config := { maxSteps := 1000000 }) (disch := first | omega | (simp only [go_sem]; omega)) only [go_sem, ↓reduceIte]
        refine bran_dec (fun e => ?_) (fun e => ?_)
        · rw [if_neg (by simp [kept, e]; omega)] at hs
          simp (config := { maxSteps := 1000000 }) (disch := first | omega | (simp only [go_sem]; omega)) only [go_sem, ↓reduceIte]
          refine W_loop (fun s : Nat × Nat × List Int => ⟨[(0, .sl 0 0 l.length), (3, .int .i64 s.2.1), (4, .sl 0 k (l.length - k)), (5, .int .i64 s.1)], [(0, .arr 1 (ints s.2.2))], 1⟩)
            (fun s => 1 ≤ s.1 ∧ k + s.1 ≤ l.length ∧ s.2.1 + 1 ≤ k + s.1 ∧ s.2.2.length = l.length ∧ s.2.2.take s.2.1 = kp l (k + s.1) ∧ s.2.2.drop (k + s.1 - 1) = l.drop (k + s.1 - 1)) (fun s => l.length - s.1) (1, k, l) ?_ ?_ ?_
          · simp (config := { maxSteps := 1000000 }) (disch := first | omega | (simp only [go_sem]; omega)) only [go_sem, ↓reduceIte]
            rfl
          · exact ⟨by simp, by simp only; omega, by simp, rfl, by simp only; rw [hs, h3], rfl⟩
          · rintro ⟨j, i, xs⟩ ⟨g1, g2, g3, g4, g5, g6⟩
            simp only at g1 g2 g3 g4 g5 g6
            have hs2 := kp_succ l (k + j)
            have gat : ∀ m : Nat, k + j - 1 ≤ m → m < l.length → gt xs m = gt l m := fun m hm1 hm2 => by
              have := congrArg (fun l : List Int => l[m - (k + j - 1)]?) g6
              simp only [List.getElem?_drop] at this
              rw [show k + j - 1 + (m - (k + j - 1)) = m by omega, List.getElem?_eq_getElem (by omega), List.getElem?_eq_getElem (by omega)] at this
              rw [gt_nat (by omega), gt_nat (by omega)]
              simpa using this
            simp (config := { maxSteps := 1000000 }) (disch := first | omega | (simp only [go_sem]; omega)) only [go_sem, ↓reduceIte, c_slices_Compact_I_b13, g4]
            refine bran_dec (fun d => ?_) (fun d => ?_)
            · have e1 := gat (k + j) (by omega) (by omega)
              have e2 : gt xs ((k + ((j : Int) - 1).toNat : Nat) : Int) = gt l (((k + j : Nat) : Int) - 1) := by
                rw [show k + ((j : Int) - 1).toNat = k + j - 1 by omega, gat (k + j - 1) (by omega) (by omega)]
                congr 1
                omega
              have hd : xs.drop (k + j) = l.drop (k + j) := by
                have := congrArg (fun l : List Int => l.drop 1) g6
                simp only [List.drop_drop] at this
                rw [show k + j - 1 + 1 = k + j by omega] at this
                exact this
              simp (config := { maxSteps := 1000000 }) (disch := first | omega | (simp only [go_sem]; omega)) only [go_sem, ↓reduceIte, g4, e1, e2]
              refine bran_ndec (fun f => ?_) (fun f => ?_)
              · rw [if_pos (by unfold kept; rw [Bool.or_eq_true]; exact .inr (decide_eq_true f))] at hs2
                simp (config := { maxSteps := 1000000 }) (disch := first | omega | (simp only [go_sem]; omega)) only [go_sem, ↓reduceIte, g4, e1]
                refine ⟨(j + 1, i + 1, xs.set i (gt l ((k + j : Nat) : Int))), by simp, ⟨by simp only; omega, by simp only; omega, by simp only; omega, by simp [g4], ?_, ?_⟩, by simp only; omega⟩
                · simp only
                  rw [← Nat.add_assoc, hs2, ← g5, List.take_succ_eq_append_getElem (by simp; omega), List.take_set_of_le (Nat.le_refl _)]
                  simp
                · simp only
                  rw [show k + (j + 1) - 1 = k + j by omega, List.drop_set_of_lt (by omega), hd]
              · rw [if_neg (by unfold kept; simp only [Bool.or_eq_true, decide_eq_true_eq, not_or, ne_eq, Decidable.not_not]; exact ⟨by omega, f⟩)] at hs2
                simp (config := { maxSteps := 1000000 }) (disch := first | omega | (simp only [go_sem]; omega)) only [go_sem, ↓reduceIte, g4]
                refine ⟨(j + 1, i, xs), by simp, ⟨by simp only; omega, by simp only; omega, by simp only; omega, g4, ?_, ?_⟩, by simp only; omega⟩
                · simp only
                  rw [← Nat.add_assoc, hs2, ← g5]
                · simp only
                  rw [show k + (j + 1) - 1 = k + j by omega, hd]
            · have hi : (xs.take i).length = i := by simp; omega
              have hkj : k + j = l.length := by omega
              simp (config := { maxSteps := 1000000 }) (disch := first | omega | (simp only [go_sem]; omega)) only [go_sem, ↓reduceIte, g4, hi, Nat.sub_zero]
              rw [g5, hkj, cpt]
        · rw [if_pos (by simp [kept, e])] at hs
          simp (config := { maxSteps := 1000000 }) (disch := first | omega | (simp only [go_sem]; omega)) only [go_sem, ↓reduceIte]
          exact ⟨k + 1, by simp, ⟨by omega, by omega, by rw [hs, h3, take_gt (by omega)]⟩, by omega⟩
      · obtain rfl : k = l.length := by omega
        simp (config := { maxSteps := 1000000 }) (disch := first | omega | (simp only [go_sem]; omega)) only [go_sem, ↓reduceIte]
        rw [cpt, h3, List.take_length]
/-! What is kept of a sorted list. -/
theorem kp_sub (l : List Int) : ∀ n, n ≤ l.length → (kp l n).Sublist (l.take n)
  | 0, _ => by simp [kp]
  | n + 1, h => by
    rw [kp_succ, take_gt (by omega)]
    split
    · exact (kp_sub l n (by omega)).append (List.Sublist.refl _)
    · exact (kp_sub l n (by omega)).trans (List.sublist_append_left _ _)
theorem kp_mem (l : List Int) : ∀ n, n ≤ l.length → ∀ x ∈ l.take n, x ∈ kp l n
  | 0, _ => by simp
  | n + 1, h => by
    intro x hx
    rw [take_gt (by omega)] at hx
    rw [kp_succ]
    rcases List.mem_append.1 hx with hx | hx
    · split
      · exact List.mem_append_left _ (kp_mem l n (by omega) x hx)
      · exact kp_mem l n (by omega) x hx
    · simp only [List.mem_singleton] at hx
      subst hx
      split
      · simp
      · rename_i hk
        simp only [kept, Bool.or_eq_true, decide_eq_true_eq, not_or, ne_eq, Decidable.not_not] at hk
        refine kp_mem l n (by omega) _ ?_
        rw [hk.2, show (n : Int) - 1 = ((n - 1 : Nat) : Int) by omega, gt_nat (by omega)]
        exact List.mem_take_iff_getElem.2 ⟨n - 1, by omega, rfl⟩
theorem kp_lt {l : List Int} (hs : l.Pairwise (· ≤ ·)) : ∀ n, n ≤ l.length → (kp l n).Pairwise (· < ·)
  | 0, _ => by simp [kp]
  | n + 1, h => by
    rw [kp_succ]
    split
    · rename_i hk
      rw [List.pairwise_append]
      refine ⟨kp_lt hs n (by omega), by simp, fun x hx y hy => ?_⟩
      simp only [List.mem_singleton] at hy
      subst hy
      obtain ⟨m, hm, rfl⟩ := List.mem_take_iff_getElem.1 ((kp_sub l n (by omega)).subset hx)
      simp only [kept, Bool.or_eq_true, decide_eq_true_eq, ne_eq] at hk
      have hn : n ≠ 0 := by omega
      have hne : gt l n ≠ gt l ((n : Int) - 1) := hk.resolve_left hn
      rw [gt_nat (by omega), show (n : Int) - 1 = ((n - 1 : Nat) : Int) by omega, gt_nat (by omega)] at hne
      rw [gt_nat (by omega)]
      have h1 : l[n - 1] ≤ l[n] := List.pairwise_iff_getElem.1 hs (n - 1) n (by omega) (by omega) (by omega)
      have h2 : l[m] ≤ l[n - 1] := by
        by_cases he : m = n - 1
        · subst he; exact Int.le_refl _
        · exact List.pairwise_iff_getElem.1 hs m (n - 1) (by omega) (by omega) (by omega)
      omega
    · exact kp_lt hs n (by omega)
theorem imgs_mem {l : List Int} {x : Int} : x ∈ imgs l ↔ x ∈ l := by
  unfold imgs cpt
  constructor
  · intro h
    have := (kp_sub (srt l) _ (Nat.le_refl _)).subset h
    rw [List.take_length] at this
    exact (srt_perm l).mem_iff.1 this
  · intro h
    exact kp_mem (srt l) _ (Nat.le_refl _) x (by rw [List.take_length]; exact (srt_perm l).mem_iff.2 h)
theorem imgs_lt (l : List Int) : (imgs l).Pairwise (· < ·) := kp_lt (srt_sorted l) _ (Nat.le_refl _)
theorem imgs_nodup (l : List Int) : (imgs l).Nodup := (imgs_lt l).imp (fun h => by omega)
theorem imgs_len (l : List Int) : (imgs l).length ≤ l.length := by
  rw [← srt_len l]; exact kp_len _ _
/-- As many images as elements: none occurs twice. -/
theorem imgs_inj {l : List Int} : (imgs l).length = l.length ↔ l.Nodup := by
  have hsub : (imgs l).Sublist (srt l) := by
    have := kp_sub (srt l) _ (Nat.le_refl _)
    rwa [List.take_length] at this
  constructor
  · intro h
    have : imgs l = srt l := hsub.eq_of_length (by rw [h, srt_len])
    exact (srt_perm l).nodup_iff.1 (this ▸ imgs_nodup l)
  · intro h
    have hp : (imgs l).Perm l := (List.perm_ext_iff_of_nodup (imgs_nodup l) h).2 fun x => imgs_mem
    exact hp.length_eq
/-- As many images as numbers: all occur. -/
theorem imgs_sur {l : List Int} {n : Nat} (hb : ∀ x ∈ l, 0 ≤ x ∧ x < n) : (imgs l).length = n ↔ ∀ k : Nat, k < n → (k : Int) ∈ l := by
  have hnn : (nums 0 n).Nodup := by
    unfold nums List.Nodup
    rw [List.pairwise_map]
    exact (List.nodup_range (n := n)).imp fun h => by omega
  have hmem : ∀ x : Int, x ∈ nums 0 n ↔ 0 ≤ x ∧ x < n := fun x => by
    unfold nums
    simp only [List.mem_map, List.mem_range]
    constructor
    · rintro ⟨k, hk, rfl⟩; omega
    · rintro ⟨h1, h2⟩; exact ⟨x.toNat, by omega, by omega⟩
  have hp : (imgs l).Perm ((nums 0 n).filter fun x => decide (x ∈ l)) := (List.perm_ext_iff_of_nodup (imgs_nodup l) (hnn.filter _)).2 fun x => by
    rw [imgs_mem, List.mem_filter, hmem, decide_eq_true_eq]
    exact ⟨fun h => ⟨hb x h, h⟩, fun h => h.2⟩
  rw [hp.length_eq]
  have hn := nums_len 0 n
  constructor
  · intro h k hk
    have := (List.filter_eq_self.1 ((List.filter_sublist (l := nums 0 n) (p := fun x => decide (x ∈ l))).eq_of_length (by rw [h, hn]))) k ((hmem k).2 (by omega))
    simpa using this
  · intro h
    rw [List.filter_eq_self.2 fun x hx => ?_, hn]
    have hx := (hmem x).1 hx
    have := h x.toNat (by omega)
    rw [Int.toNat_of_nonneg hx.1] at this
    simpa using this
end
end Go.Am
namespace Go.Am
open Go
set_option linter.unusedVariables false
set_option linter.unusedSimpArgs false
section
variable {P : Program} {F : String → Nat} {α : Type}
theorem w_morphism_images (hc : K_slices_Clone_I P F) (hs : K_slices_Sort_I P F) (hp : K_slices_Compact_I P F) (l : List Int) (hl : l.length ≤ 1000000) : W P (c_morphism_images F) (Done [.t 2] [] (.int .i64 (imgs l).length) []) (init [.lst 1 (ints l)]) := by
  refine W_of ?_
  have e1 := srt_len l
  have e2 := imgs_len l
  have r1 := hc l (by omega)
  have r2 := hs l (by unfold maxL; omega)
  have r3 := hp (srt l) (by unfold maxL; omega)
  change FC P _ _ (.arr 1 (ints (imgs l))) _ at r3
  generalize imgs l = m at *
  generalize srt l = q at *
  simp (config := { maxSteps := 1000000 }) (disch := first | omega | (simp only [go_sem]; omega)) only [go_sem, ↓reduceIte]
  refine call_by r1 ?_
  simp (config := { maxSteps := 1000000 }) (disch := first | omega | (simp only [go_sem]; omega)) only [go_sem, ↓reduceIte]
  refine call_by r2 ?_
  simp (config := { maxSteps := 1000000 }) (disch := first | omega | (simp only [go_sem]; omega)) only [go_sem, ↓reduceIte, e1]
  refine call_by r3 ?_
  simp (config := { maxSteps := 1000000 }) (disch := first | omega | (simp only [go_sem]; omega)) only [go_sem, ↓reduceIte]
theorem inj_imgs (l : List Int) : decide (((imgs l).length : Int) = l.length) = distinct l := by
  rw [Bool.eq_iff_iff, distinct, decide_eq_true_eq, decide_eq_true_eq, ← imgs_inj]
  omega
theorem w_morphism_Injective (hv : K_morphism_Valid P F) (hi : K_morphism_images P F) (a b : G) (m : Mo) : W P (c_morphism_Injective F) (Done [.t 6] [] (.bool (injM a b m)) []) (init [gD a, gD b, mD m]) := by
  refine W_of ?_
  have rv := hv a b m
  have hl := @validM_len a b m
  have hd : injM a b m = (decide (validM a b m = 0) && (distinct m.n && distinct m.e)) := rfl
  rw [hd, ← inj_imgs m.n, ← inj_imgs m.e]
  generalize validM a b m = v at *
  obtain ⟨an, ae⟩ := a
  obtain ⟨bn, be⟩ := b
  obtain ⟨mn, me⟩ := m
  simp only [gD, mD] at rv ⊢
  simp (config := { maxSteps := 1000000 }) (disch := first | omega | (simp only [go_sem]; omega)) only [go_sem, ↓reduceIte]
  refine call_by rv ?_
  simp (config := { maxSteps := 1000000 }) (disch := first | omega | (simp only [go_sem]; omega)) only [go_sem, ↓reduceIte]
  refine bran_dec (fun c => ?_) (fun c => ?_)
  · subst c
    obtain ⟨l1, l2, _⟩ := hl rfl
    simp only at l1 l2
    have r1 := hi mn (by omega)
    have r2 := hi me (by omega)
    have e1 := imgs_len mn
    have e2 := imgs_len me
    generalize imgs mn = pn at *
    generalize imgs me = pe at *
    simp (config := { maxSteps := 1000000 }) (disch := first | omega | (simp only [go_sem]; omega)) only [go_sem, ↓reduceIte]
    refine call_by r1 ?_
    simp (config := { maxSteps := 1000000 }) (disch := first | omega | (simp only [go_sem]; omega)) only [go_sem, ↓reduceIte]
    refine bran_dec (fun d => ?_) (fun d => ?_)
    · simp (config := { maxSteps := 1000000 }) (disch := first | omega | (simp only [go_sem]; omega)) only [go_sem, ↓reduceIte, d]
      refine call_by r2 ?_
      simp (config := { maxSteps := 1000000 }) (disch := first | omega | (simp only [go_sem]; omega)) only [go_sem, ↓reduceIte, d]
      try simp
    · simp (config := { maxSteps := 1000000 }) (disch := first | omega | (simp only [go_sem]; omega)) only [go_sem, ↓reduceIte, d]
      try simp
  · simp (config := { maxSteps := 1000000 }) (disch := first | omega | (simp only [go_sem]; omega)) only [go_sem, ↓reduceIte, c]
    try simp
theorem nodeE_all {bn : List Int} : ∀ {ms as : List Int}, nodeE bn ms as = 0 → ms.length = as.length → ∀ i : Nat, i < ms.length → (0 ≤ gt ms i ∧ gt ms i < bn.length) ∧ gt bn (gt ms i) = gt as i
  | [], _, _, _, i, hi => by simp at hi
  | k :: ms, [], _, hl, _, _ => by simp at hl
  | k :: ms, t :: as, h, hl, i, hi => by
    rw [nodeE] at h
    split at h
    · rename_i h1
      split at h
      · rename_i h2
        cases i with
        | zero => exact ⟨h1, h2⟩
        | succ i =>
          have := nodeE_all h (by simpa using hl) i (by simpa using hi)
          have e1 : gt (k :: ms) ((i + 1 : Nat) : Int) = gt ms i := by simp [gt]
          have e2 : gt (t :: as) ((i + 1 : Nat) : Int) = gt as i := by simp [gt]
          rw [e1, e2]; exact this
      · simp at h
    · simp at h
theorem edgeE_all {be : List E} {mn : List Int} : ∀ {ms : List Int} {as : List E}, edgeE be mn ms as = 0 → ms.length = as.length → ∀ i : Nat, i < ms.length →
    (0 ≤ gt ms i ∧ gt ms i < be.length) ∧ (gt as i).t = (gt be (gt ms i)).t ∧ gt mn (gt as i).f = (gt be (gt ms i)).f ∧ gt mn (gt as i).o = (gt be (gt ms i)).o
  | [], _, _, _, i, hi => by simp at hi
  | k :: ms, [], _, hl, _, _ => by simp at hl
  | k :: ms, x :: as, h, hl, i, hi => by
    rw [edgeE] at h
    split at h
    · rename_i h1
      split at h
      · rename_i h2
        split at h
        · rename_i h3
          cases i with
          | zero => exact ⟨h1, h2, h3⟩
          | succ i =>
            have := edgeE_all h (by simpa using hl) i (by simpa using hi)
            have e1 : gt (k :: ms) ((i + 1 : Nat) : Int) = gt ms i := by simp [gt]
            have e2 : gt (x :: as) ((i + 1 : Nat) : Int) = gt as i := by simp [gt]
            rw [e1, e2]; exact this
        · simp at h
      · simp at h
    · simp at h
theorem mem_gt {α : Type} [Inhabited α] {l : List α} {x : α} (h : x ∈ l) : ∃ i : Nat, i < l.length ∧ gt l i = x := by
  obtain ⟨i, hi, rfl⟩ := List.getElem_of_mem h
  exact ⟨i, hi, gt_nat hi⟩
theorem validM_bd {a b : G} {m : Mo} (h : validM a b m = 0) : (∀ x ∈ m.n, 0 ≤ x ∧ x < b.n.length) ∧ ∀ x ∈ m.e, 0 ≤ x ∧ x < b.e.length := by
  obtain ⟨_, _, h3, h4, h5, h6⟩ := validM_spec h
  refine ⟨fun x hx => ?_, fun x hx => ?_⟩
  · obtain ⟨i, hi, rfl⟩ := mem_gt hx
    exact (nodeE_all h5 h3 i hi).1
  · obtain ⟨i, hi, rfl⟩ := mem_gt hx
    exact (edgeE_all h6 h4 i hi).1
theorem sur_imgs {l : List Int} {n : Nat} (hb : ∀ x ∈ l, 0 ≤ x ∧ x < n) : decide (((imgs l).length : Int) = n) = covers l n := by
  rw [Bool.eq_iff_iff, covers, decide_eq_true_eq, List.all_eq_true]
  simp only [List.mem_range, decide_eq_true_eq]
  rw [← imgs_sur hb]
  omega
theorem w_morphism_Surjective (hv : K_morphism_Valid P F) (hi : K_morphism_images P F) (a b : G) (m : Mo) : W P (c_morphism_Surjective F) (Done [.t 6] [] (.bool (surM a b m)) []) (init [gD a, gD b, mD m]) := by
  refine W_of ?_
  have rv := hv a b m
  have hl := @validM_len a b m
  have hbd := @validM_bd a b m
  have hd : surM a b m = (decide (validM a b m = 0) && (covers m.n b.n.length && covers m.e b.e.length)) := rfl
  rw [hd]
  generalize validM a b m = v at *
  obtain ⟨an, ae⟩ := a
  obtain ⟨bn, be⟩ := b
  obtain ⟨mn, me⟩ := m
  simp only [gD, mD] at rv ⊢
  simp (config := { maxSteps := 1000000 }) (disch := first | omega | (simp only [go_sem]; omega)) only [go_sem, ↓reduceIte]
  refine call_by rv ?_
  simp (config := { maxSteps := 1000000 }) (disch := first | omega | (simp only [go_sem]; omega)) only [go_sem, ↓reduceIte]
  refine bran_dec (fun c => ?_) (fun c => ?_)
  · subst c
    obtain ⟨l1, l2, _⟩ := hl rfl
    obtain ⟨b1, b2⟩ := hbd rfl
    simp only at l1 l2 b1 b2
    rw [← sur_imgs b1, ← sur_imgs b2]
    have r1 := hi mn (by omega)
    have r2 := hi me (by omega)
    have e1 := imgs_len mn
    have e2 := imgs_len me
    generalize imgs mn = pn at *
    generalize imgs me = pe at *
    simp (config := { maxSteps := 1000000 }) (disch := first | omega | (simp only [go_sem]; omega)) only [go_sem, ↓reduceIte]
    refine call_by r1 ?_
    simp (config := { maxSteps := 1000000 }) (disch := first | omega | (simp only [go_sem]; omega)) only [go_sem, ↓reduceIte]
    refine bran_dec (fun d => ?_) (fun d => ?_)
    · simp (config := { maxSteps := 1000000 }) (disch := first | omega | (simp only [go_sem]; omega)) only [go_sem, ↓reduceIte, d]
      refine call_by r2 ?_
      simp (config := { maxSteps := 1000000 }) (disch := first | omega | (simp only [go_sem]; omega)) only [go_sem, ↓reduceIte, d]
      try simp
    · simp (config := { maxSteps := 1000000 }) (disch := first | omega | (simp only [go_sem]; omega)) only [go_sem, ↓reduceIte, d]
      try simp
  · simp (config := { maxSteps := 1000000 }) (disch := first | omega | (simp only [go_sem]; omega)) only [go_sem, ↓reduceIte, c]
    try simp
end
end Go.Am
