/- Morphisms: identities, composition, inverses. -/
import Derived.Test.YtpdjpdfkacpnnaaGreatSkZ
import Derived.Test.YtpdjpdfkacpnnaaGreatSkV
namespace Go.Am
open Go
set_option linter.unusedVariables false
set_option linter.unusedSimpArgs false
attribute [local irreducible] W
/- morphism.Same -/
def c_morphism_Same_r0 (F : String → Nat) : List LI := [⟨some 2, .bx (.t 0), none⟩,
  ⟨some 3, .bx (.t 1), none⟩,
  ⟨some 4, .mov (.k (.bool false)), none⟩]
def c_morphism_Same_r1 (F : String → Nat) : List LI := [⟨some 5, .fad 0 (.t 2), none⟩,
  ⟨some 6, .load false 1 (.t 5), none⟩,
  ⟨some 7, .fad 0 (.t 3), none⟩,
  ⟨some 8, .load false 1 (.t 7), none⟩,
  ⟨some 9, .call (F "slices.Equal.I") [.t 6, .t 8] [], none⟩,
  ⟨some 10, .mov (.t 9), none⟩,
  ⟨some 11, .fad 1 (.t 2), some (10, true)⟩,
  ⟨some 12, .load false 1 (.t 11), some (10, true)⟩,
  ⟨some 13, .fad 1 (.t 3), some (10, true)⟩,
  ⟨some 14, .load false 1 (.t 13), some (10, true)⟩,
  ⟨some 15, .call (F "slices.Equal.I") [.t 12, .t 14] [], some (10, true)⟩,
  ⟨some 16, .pick (.t 10) (.t 15) (.k (.bool false)), none⟩,
  ⟨some 4, .mov (.t 16), none⟩]
def c_morphism_Same (F : String → Nat) : LC := (.seq (.reg (c_morphism_Same_r0 F) [2, 3]) (.seq (.reg (c_morphism_Same_r1 F) [4]) .ret))
def h_morphism_Same : Hints := ⟨[], fun _ => [], tab [(0, [2, 3]), (1, [4])], tab []⟩

/- r02.Finest -/
def c_r02_Finest_r0 (F : String → Nat) : List LI := [⟨some 2, .mov (.k (.nl 1)), none⟩]
def c_r02_Finest_r1 (F : String → Nat) : List LI := [⟨some 3, .mov (.k (.nl 1)), none⟩]
def c_r02_Finest_r2 (F : String → Nat) : List LI := [⟨some 4, .mov (.k (.int .i64 (0))), none⟩]
def c_r02_Finest_r3 (F : String → Nat) : List LI := [⟨some 5, .mov (.t 4), none⟩,
  ⟨some 6, .mov (.t 0), none⟩,
  ⟨some 7, .bin .lss (.t 5) (.t 6), none⟩]
def c_r02_Finest_r4 (F : String → Nat) : List LI := [⟨some 10, .mov (.t 3), none⟩,
  ⟨some 11, .mov (.t 4), none⟩,
  ⟨some 12, .buildSl 1 8 (.int .i64 (0)) 1 [(0, .t 11)], none⟩,
  ⟨some 13, .app 1 8 (.t 10) (.t 12), none⟩,
  ⟨some 3, .mov (.t 13), none⟩]
def c_r02_Finest_r5 (F : String → Nat) : List LI := [⟨some 8, .mov (.t 4), none⟩,
  ⟨some 9, .bin .add (.t 8) (.k (.int .i64 (1))), none⟩,
  ⟨some 4, .mov (.t 9), none⟩]
def c_r02_Finest_b6 (F : String → Nat) : LC := (.seq (.seq (.reg (c_r02_Finest_r3 F) [0, 3, 4, 7]) (.cond (.t 7) .skip (.exit 0))) (.seq (.block 1 (.reg (c_r02_Finest_r4 F) [0, 3, 4])) (.reg (c_r02_Finest_r5 F) [0, 3, 4])))
def c_r02_Finest_r7 (F : String → Nat) : List LI := [⟨some 14, .mov (.t 3), none⟩,
  ⟨some 2, .mov (.t 14), none⟩]
def c_r02_Finest (F : String → Nat) : LC := (.seq (.reg (c_r02_Finest_r0 F) [0]) (.seq (.reg (c_r02_Finest_r1 F) [0, 3]) (.seq (.seq (.reg (c_r02_Finest_r2 F) [0, 3, 4]) (.block 0 (.loop [0, 3, 4] (c_r02_Finest_b6 F)))) (.seq (.reg (c_r02_Finest_r7 F) [2]) .ret))))
def h_r02_Finest : Hints := ⟨[], fun _ => [], tab [(0, [0]), (1, [0, 3]), (2, [0, 3, 4]), (3, [0, 3, 4, 7]), (4, [0, 3, 4]), (5, [0, 3, 4]), (6, [2])], tab [(3, [0, 3, 4])]⟩

/- r06.Back -/
def c_r06_Back_r0 (F : String → Nat) : List LI := [⟨some 4, .mov (.k (.nl 1)), none⟩]
def c_r06_Back_r1 (F : String → Nat) : List LI := [⟨some 5, .mov (.k (.nl 1)), none⟩]
def c_r06_Back_r2 (F : String → Nat) : List LI := [⟨some 6, .mov (.k (.int .i64 (0))), none⟩]
def c_r06_Back_r3 (F : String → Nat) : List LI := [⟨some 8, .mov (.t 6), none⟩,
  ⟨some 9, .mov (.t 1), none⟩,
  ⟨some 10, .bin .lss (.t 8) (.t 9), none⟩]
def c_r06_Back_r4 (F : String → Nat) : List LI := [⟨some 13, .mov (.t 5), none⟩,
  ⟨some 14, .buildSl 1 8 (.int .i64 (0)) 1 [(0, .k (.int .i64 (-1)))], none⟩,
  ⟨some 15, .app 1 8 (.t 13) (.t 14), none⟩,
  ⟨some 5, .mov (.t 15), none⟩]
def c_r06_Back_r5 (F : String → Nat) : List LI := [⟨some 7, .mov (.k (.int .i64 (0))), none⟩]
def c_r06_Back_r6 (F : String → Nat) : List LI := [⟨some 16, .mov (.t 7), none⟩,
  ⟨some 17, .mov (.t 0), none⟩,
  ⟨some 18, .len (.t 17), none⟩,
  ⟨some 19, .bin .lss (.t 16) (.t 18), none⟩]
def c_r06_Back_r7 (F : String → Nat) : List LI := [⟨some 22, .mov (.t 0), none⟩,
  ⟨some 23, .mov (.t 7), none⟩,
  ⟨some 24, .iad 1 (.t 22) (.t 23), none⟩,
  ⟨some 25, .load false 1 (.t 24), none⟩,
  ⟨some 26, .mov (.t 6), none⟩,
  ⟨some 27, .bin .eql (.t 25) (.t 26), none⟩]
def c_r06_Back_r8 (F : String → Nat) : List LI := [⟨some 28, .mov (.t 5), none⟩,
  ⟨some 29, .mov (.t 6), none⟩,
  ⟨some 30, .mov (.t 7), none⟩,
  ⟨some 31, .iad 1 (.t 28) (.t 29), none⟩,
  ⟨none, .store 1 (.t 31) (.t 30), none⟩]
def c_r06_Back_r9 (F : String → Nat) : List LI := [⟨some 20, .mov (.t 7), none⟩,
  ⟨some 21, .bin .add (.t 20) (.k (.int .i64 (1))), none⟩,
  ⟨some 7, .mov (.t 21), none⟩]
def c_r06_Back_b10 (F : String → Nat) : LC := (.seq (.seq (.reg (c_r06_Back_r6 F) [0, 1, 5, 6, 7, 19]) (.cond (.t 19) .skip (.exit 2))) (.seq (.block 3 (.seq (.reg (c_r06_Back_r7 F) [0, 1, 5, 6, 7, 27]) (.cond (.t 27) (.reg (c_r06_Back_r8 F) [0, 1, 5, 6, 7]) .skip))) (.reg (c_r06_Back_r9 F) [0, 1, 5, 6, 7])))
def c_r06_Back_r11 (F : String → Nat) : List LI := [⟨some 11, .mov (.t 6), none⟩,
  ⟨some 12, .bin .add (.t 11) (.k (.int .i64 (1))), none⟩,
  ⟨some 6, .mov (.t 12), none⟩]
def c_r06_Back_b12 (F : String → Nat) : LC := (.seq (.seq (.reg (c_r06_Back_r3 F) [0, 1, 5, 6, 10]) (.cond (.t 10) .skip (.exit 0))) (.seq (.block 1 (.seq (.reg (c_r06_Back_r4 F) [0, 1, 5, 6]) (.seq (.reg (c_r06_Back_r5 F) [0, 1, 5, 6, 7]) (.block 2 (.loop [0, 1, 5, 6, 7] (c_r06_Back_b10 F)))))) (.reg (c_r06_Back_r11 F) [0, 1, 5, 6])))
def c_r06_Back_r13 (F : String → Nat) : List LI := [⟨some 32, .mov (.t 5), none⟩,
  ⟨some 4, .mov (.t 32), none⟩]
def c_r06_Back (F : String → Nat) : LC := (.seq (.reg (c_r06_Back_r0 F) [0, 1]) (.seq (.reg (c_r06_Back_r1 F) [0, 1, 5]) (.seq (.seq (.reg (c_r06_Back_r2 F) [0, 1, 5, 6]) (.block 0 (.loop [0, 1, 5, 6] (c_r06_Back_b12 F)))) (.seq (.reg (c_r06_Back_r13 F) [4]) .ret))))
def h_r06_Back : Hints := ⟨[], fun _ => [], tab [(0, [0, 1]), (1, [0, 1, 5]), (2, [0, 1, 5, 6]), (3, [0, 1, 5, 6, 10]), (4, [0, 1, 5, 6]), (5, [0, 1, 5, 6]), (6, [0, 1, 5, 6, 7]), (7, [0, 1, 5, 6, 7, 19]), (8, [0, 1, 5, 6, 7]), (9, [0, 1, 5, 6, 7, 27]), (10, [0, 1, 5, 6, 7]), (11, [4])], tab [(3, [0, 1, 5, 6]), (7, [0, 1, 5, 6, 7])]⟩

/- r06.Inverse -/
def c_r06_Inverse_r0 (F : String → Nat) : List LI := [⟨some 3, .bx (.t 0), none⟩,
  ⟨some 4, .bx (.t 1), none⟩,
  ⟨some 5, .bx (.t 2), none⟩,
  ⟨some 6, .alloc [.nl 1, .nl 1], none⟩,
  ⟨some 7, .mov (.k (.int .i64 (0))), none⟩]
def c_r06_Inverse_r1 (F : String → Nat) : List LI := [⟨some 9, .load true 2 (.t 3), none⟩,
  ⟨some 10, .load true 2 (.t 4), none⟩,
  ⟨some 11, .load true 2 (.t 5), none⟩,
  ⟨some 12, .call (F "r06.Valid") [.t 9, .t 10, .t 11] [], none⟩,
  ⟨some 8, .mov (.t 12), none⟩]
def c_r06_Inverse_r2 (F : String → Nat) : List LI := [⟨some 13, .mov (.t 8), none⟩,
  ⟨some 14, .bin .neq (.t 13) (.k (.int .i64 (0))), none⟩]
def c_r06_Inverse_r3 (F : String → Nat) : List LI := [⟨some 15, .build [.nl 1, .nl 1] [], none⟩,
  ⟨some 16, .mov (.t 8), none⟩,
  ⟨none, .store 2 (.t 6) (.t 15), none⟩,
  ⟨some 7, .mov (.t 16), none⟩]
def c_r06_Inverse_r4 (F : String → Nat) : List LI := [⟨some 17, .load true 2 (.t 3), none⟩,
  ⟨some 18, .load true 2 (.t 4), none⟩,
  ⟨some 19, .load true 2 (.t 5), none⟩,
  ⟨some 20, .call (F "r06.Injective") [.t 17, .t 18, .t 19] [], none⟩,
  ⟨some 21, .not (.t 20), none⟩,
  ⟨some 22, .mov (.t 21), none⟩,
  ⟨some 23, .load true 2 (.t 3), some (22, false)⟩,
  ⟨some 24, .load true 2 (.t 4), some (22, false)⟩,
  ⟨some 25, .load true 2 (.t 5), some (22, false)⟩,
  ⟨some 26, .call (F "r06.Surjective") [.t 23, .t 24, .t 25] [], some (22, false)⟩,
  ⟨some 27, .not (.t 26), some (22, false)⟩,
  ⟨some 28, .pick (.t 22) (.k (.bool true)) (.t 27), none⟩]
def c_r06_Inverse_r5 (F : String → Nat) : List LI := [⟨some 29, .build [.nl 1, .nl 1] [], none⟩,
  ⟨none, .store 2 (.t 6) (.t 29), none⟩,
  ⟨some 7, .mov (.k (.int .i64 (10))), none⟩]
def c_r06_Inverse_r6 (F : String → Nat) : List LI := [⟨some 30, .fad 0 (.t 5), none⟩,
  ⟨some 31, .load false 1 (.t 30), none⟩,
  ⟨some 32, .fad 0 (.t 4), none⟩,
  ⟨some 33, .load false 1 (.t 32), none⟩,
  ⟨some 34, .len (.t 33), none⟩,
  ⟨some 35, .call (F "r06.Back") [.t 31, .t 34] [], none⟩,
  ⟨some 36, .fad 1 (.t 5), none⟩,
  ⟨some 37, .load false 1 (.t 36), none⟩,
  ⟨some 38, .fad 1 (.t 4), none⟩,
  ⟨some 39, .load false 1 (.t 38), none⟩,
  ⟨some 40, .len (.t 39), none⟩,
  ⟨some 41, .call (F "r06.Back") [.t 37, .t 40] [], none⟩,
  ⟨some 42, .build [.nl 1, .nl 1] [(0, 1, .t 35), (1, 1, .t 41)], none⟩,
  ⟨none, .store 2 (.t 6) (.t 42), none⟩,
  ⟨some 7, .mov (.k (.int .i64 (0))), none⟩]
def c_r06_Inverse (F : String → Nat) : LC := (.seq (.reg (c_r06_Inverse_r0 F) [3, 4, 5, 6]) (.seq (.seq (.reg (c_r06_Inverse_r1 F) [3, 4, 5, 6, 8]) (.seq (.reg (c_r06_Inverse_r2 F) [3, 4, 5, 6, 8, 14]) (.cond (.t 14) (.seq (.reg (c_r06_Inverse_r3 F) [6, 7]) .ret) .skip))) (.seq (.seq (.reg (c_r06_Inverse_r4 F) [4, 5, 6, 28]) (.cond (.t 28) (.seq (.reg (c_r06_Inverse_r5 F) [6, 7]) .ret) .skip)) (.seq (.dreg [(5, none, [], true), (7, (some 64), [5], false), (9, (some 256), [5], false)] (c_r06_Inverse_r6 F) [6, 7]) .ret))))
def h_r06_Inverse : Hints := ⟨[], fun _ => [], tab [(0, [3, 4, 5, 6]), (1, [3, 4, 5, 6, 8]), (2, [3, 4, 5, 6, 8, 14]), (3, [6, 7]), (4, [4, 5, 6, 28]), (5, [6, 7]), (6, [6, 7])], tab []⟩

attribute [go_sem] c_morphism_Same_r0 c_morphism_Same_r1 c_morphism_Same c_r02_Finest_r0 c_r02_Finest_r1 c_r02_Finest_r2 c_r02_Finest_r3 c_r02_Finest_r4 c_r02_Finest_r5 c_r02_Finest_r7 c_r02_Finest c_r06_Back_r0 c_r06_Back_r1 c_r06_Back_r2 c_r06_Back_r3 c_r06_Back_r4 c_r06_Back_r5 c_r06_Back_r6 c_r06_Back_r7 c_r06_Back_r8 c_r06_Back_r9 c_r06_Back_r11 c_r06_Back_r13 c_r06_Back c_r06_Inverse_r0 c_r06_Inverse_r1 c_r06_Inverse_r2 c_r06_Inverse_r3 c_r06_Inverse_r4 c_r06_Inverse_r5 c_r06_Inverse_r6 c_r06_Inverse
/-- Where a number stands last. -/
def lastI (l : List Int) (k : Int) : Nat → Int
  | 0 => -1
  | i + 1 => if gt l i = k then i else lastI l k i
def backL (l : List Int) (n : Nat) : List Int := (List.range n).map fun k : Nat => lastI l k l.length
def invM (a b : G) (m : Mo) : Mo × Int := if validM a b m ≠ 0 then (m0, validM a b m) else if injM a b m = true ∧ surM a b m = true then (⟨backL m.n m.n.length, backL m.e m.e.length⟩, 0) else (m0, 10)
section
variable (P : Program) (F : String → Nat)
def K_r06_Back : Prop := ∀ (l : List Int) (n : Nat), l.length ≤ 1000000 → n ≤ 1000000 → FC P (F "r06.Back") [.lst 1 (ints l), .int .i64 n] (.arr 1 (ints (backL l n))) []
def K_r06_Inverse : Prop := ∀ (a b : G) (m : Mo), FC P (F "r06.Inverse") [gD a, gD b, mD m] (.tup [mA (invM a b m).1, .int .i64 (invM a b m).2]) []
def K_morphism_Same : Prop := ∀ a b : Mo, a.n.length ≤ maxL → a.e.length ≤ maxL → FC P (F "morphism.Same") [mD a, mD b] (.bool (decide (a = b))) []
def K_r02_Finest : Prop := ∀ n : Nat, n ≤ 1000000 → FC P (F "r02.Finest") [.int .i64 n] (.arr 1 (ints (nums 0 n))) []
end
section
variable {P : Program} {F : String → Nat} {α : Type}
theorem fillL {α : Type} (l : List α) (x z : α) (m : Nat) : (l ++ List.replicate (m + 1) z).set l.length x = (l ++ [x]) ++ List.replicate m z := by
  rw [List.set_append_right _ _ (Nat.le_refl _)]
  simp [List.replicate_succ]
theorem w_r02_Finest (n : Nat) (h2 : n ≤ 1000000) : W P (c_r02_Finest F) (Done [.t 2] [] (.arr 1 (ints (nums 0 n))) []) (init [.int .i64 n]) := by
  refine W_of ?_
  simp (config := { maxSteps := 1000000 }) (disch := first | omega | (simp only [go_sem]; omega)) only [go_sem, ↓reduceIte]
  refine W_loop (fun i : Nat => ⟨[(0, .int .i64 n), (3, .sl 0 0 i), (4, .int .i64 i)], [(0, .arr 1 (ints (nums 0 i)))], 1⟩) (fun i => i ≤ n) (fun i => n - i) 0 ?_ ?_ ?_
  · simp (config := { maxSteps := 1000000 }) (disch := first | omega | (simp only [go_sem]; omega)) only [go_sem, ↓reduceIte, nums_zero, ints_nil]
    rfl
  · omega
  · intro i hi
    have e1 := nums_len 0 i
    simp (config := { maxSteps := 1000000 }) (disch := first | omega | (simp only [go_sem]; omega)) only [go_sem, ↓reduceIte, c_r02_Finest_b6]
    refine bran_dec (fun a => ?_) (fun a => ?_)
    · simp (config := { maxSteps := 1000000 }) (disch := first | omega | (simp only [go_sem]; omega)) only [go_sem, ↓reduceIte, e1]
      exact ⟨i + 1, by simp [nums_succ], by omega, by omega⟩
    · obtain rfl : i = n := by omega
      simp (config := { maxSteps := 1000000 }) (disch := first | omega | (simp only [go_sem]; omega)) only [go_sem, ↓reduceIte, e1]
theorem w_morphism_Same (he : K_slices_Equal_I P F) (a b : Mo) (h1 : a.n.length ≤ maxL) (h2 : a.e.length ≤ maxL) : W P (c_morphism_Same F) (Done [.t 4] [] (.bool (decide (a = b))) []) (init [mD a, mD b]) := by
  refine W_of ?_
  obtain ⟨an, ae⟩ := a
  obtain ⟨bn, be⟩ := b
  simp only at h1 h2
  simp (config := { maxSteps := 1000000 }) (disch := first | omega | (simp only [go_sem]; omega)) only [go_sem, ↓reduceIte, mD]
  refine call_by (he _ _ h1) ?_
  simp (config := { maxSteps := 1000000 }) (disch := first | omega | (simp only [go_sem]; omega)) only [go_sem, ↓reduceIte]
  refine bran_dec (fun c => ?_) (fun c => ?_)
  · subst c
    simp (config := { maxSteps := 1000000 }) (disch := first | omega | (simp only [go_sem]; omega)) only [go_sem, ↓reduceIte]
    refine call_by (he _ _ h2) ?_
    simp (config := { maxSteps := 1000000 }) (disch := first | omega | (simp only [go_sem]; omega)) only [go_sem, ↓reduceIte]
    simp
  · simp (config := { maxSteps := 1000000 }) (disch := first | omega | (simp only [go_sem]; omega)) only [go_sem, ↓reduceIte, c]
    simp [c]
theorem w_r06_Back (l : List Int) (n : Nat) (hl : l.length ≤ 1000000) (hn : n ≤ 1000000) : W P (c_r06_Back F) (Done [.t 4] [] (.arr 1 (ints (backL l n))) []) (init [.lst 1 (ints l), .int .i64 n]) := by
  refine W_of ?_
  have hbl : ∀ k, ((List.range k).map fun k : Nat => lastI l k l.length).length = k := fun k => by simp
  have hbs : ∀ k, ((List.range (k + 1)).map fun k : Nat => lastI l k l.length) = ((List.range k).map fun k : Nat => lastI l k l.length) ++ [lastI l k l.length] := fun k => by simp [List.range_succ]
  have hbE : backL l n = (List.range n).map fun k : Nat => lastI l k l.length := rfl
  rw [hbE]
  generalize hB : (fun k : Nat => (List.range k).map fun k : Nat => lastI l k l.length) = B
  have hB' : ∀ k, ((List.range k).map fun k : Nat => lastI l k l.length) = B k := fun k => by rw [← hB]
  have hB0 : B 0 = [] := by rw [← hB]; rfl
  rw [hB']
  simp only [hB'] at hbl hbs
  clear hB hB'
  simp (config := { maxSteps := 1000000 }) (disch := first | omega | (simp only [go_sem]; omega)) only [go_sem, ↓reduceIte]
  refine W_loop (fun k : Nat => ⟨[(0, .lst 1 (ints l)), (1, .int .i64 n), (5, .sl 0 0 k), (6, .int .i64 k)], [(0, .arr 1 (ints (B k)))], 1⟩) (fun k => k ≤ n) (fun k => n - k) 0 ?_ ?_ ?_
  · simp (config := { maxSteps := 1000000 }) (disch := first | omega | (simp only [go_sem]; omega)) only [go_sem, ↓reduceIte, hB0, ints_nil]
    rfl
  · simp
  · intro k hk
    have e1 := hbl k
    have e2 := hbs k
    simp (config := { maxSteps := 1000000 }) (disch := first | omega | (simp only [go_sem]; omega)) only [go_sem, ↓reduceIte, c_r06_Back_b12]
    refine bran_dec (fun c => ?_) (fun c => ?_)
    · simp (config := { maxSteps := 1000000 }) (disch := first | omega | (simp only [go_sem]; omega)) only [go_sem, ↓reduceIte, e1]
      refine W_loop (fun i : Nat => ⟨[(0, .lst 1 (ints l)), (1, .int .i64 n), (5, .sl 0 0 (k + 1)), (6, .int .i64 k), (7, .int .i64 i)], [(0, .arr 1 (ints (B k ++ [lastI l k i])))], 1⟩) (fun i => i ≤ l.length) (fun i => l.length - i) 0 ?_ ?_ ?_
      · simp (config := { maxSteps := 1000000 }) (disch := first | omega | (simp only [go_sem]; omega)) only [go_sem, ↓reduceIte, e1, lastI]
        rfl
      · simp
      · intro i hi
        have hset : ∀ x y : Int, (B k ++ [x]).set k y = B k ++ [y] := fun x y => by rw [List.set_append_right _ _ (by omega), e1]; simp
        have hla : lastI l k (i + 1) = if gt l i = k then (i : Int) else lastI l k i := rfl
        simp (config := { maxSteps := 1000000 }) (disch := first | omega | (simp only [go_sem]; omega)) only [go_sem, ↓reduceIte, c_r06_Back_b10, e1]
        refine bran_dec (fun d => ?_) (fun d => ?_)
        · simp (config := { maxSteps := 1000000 }) (disch := first | omega | (simp only [go_sem]; omega)) only [go_sem, ↓reduceIte, e1]
          refine bran_dec (fun e => ?_) (fun e => ?_)
          · rw [if_pos e] at hla
            simp (config := { maxSteps := 1000000 }) (disch := first | omega | (simp only [go_sem]; omega)) only [go_sem, ↓reduceIte, e1, hset]
            exact ⟨i + 1, by simp [hla], by omega, by omega⟩
          · rw [if_neg e] at hla
            simp (config := { maxSteps := 1000000 }) (disch := first | omega | (simp only [go_sem]; omega)) only [go_sem, ↓reduceIte, e1]
            exact ⟨i + 1, by simp [hla], by omega, by omega⟩
        · obtain rfl : i = l.length := by omega
          simp (config := { maxSteps := 1000000 }) (disch := first | omega | (simp only [go_sem]; omega)) only [go_sem, ↓reduceIte, e1]
          exact ⟨k + 1, by simp [e2], by omega, by omega⟩
    · obtain rfl : k = n := by omega
      simp (config := { maxSteps := 1000000 }) (disch := first | omega | (simp only [go_sem]; omega)) only [go_sem, ↓reduceIte, e1]
end
end Go.Am
