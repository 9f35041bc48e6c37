/- Morphisms: identities, composition, inverses. -/
import Derived.Test.YtoeomfoohdheoaaSkZ
import Derived.Test.YtoeomfoohdheoaaSkV
namespace Go.Am
open Go
set_option linter.unusedVariables false
set_option linter.unusedSimpArgs false
attribute [local irreducible] W
/- morphism.Same -/
def c_morphism_Same_r0 (F : String → Nat) : List LI := [⟨some 2, .bx (.t 0), none⟩,
  ⟨some 3, .bx (.t 1), none⟩,
  ⟨some 4, .mov (.k (.bool false)), none⟩]
def c_morphism_Same_r1 (F : String → Nat) : List LI := [⟨some 5, .fad 0 (.t 2), none⟩,
  ⟨some 6, .load false 1 (.t 5), none⟩,
  ⟨some 7, .fad 0 (.t 3), none⟩,
  ⟨some 8, .load false 1 (.t 7), none⟩,
  ⟨some 9, .call (F "slices.Equal.I") [.t 6, .t 8] [], none⟩,
  ⟨some 10, .mov (.t 9), none⟩,
  ⟨some 11, .fad 1 (.t 2), some (10, true)⟩,
  ⟨some 12, .load false 1 (.t 11), some (10, true)⟩,
  ⟨some 13, .fad 1 (.t 3), some (10, true)⟩,
  ⟨some 14, .load false 1 (.t 13), some (10, true)⟩,
  ⟨some 15, .call (F "slices.Equal.I") [.t 12, .t 14] [], some (10, true)⟩,
  ⟨some 16, .pick (.t 10) (.t 15) (.k (.bool false)), none⟩,
  ⟨some 4, .mov (.t 16), none⟩]
def c_morphism_Same (F : String → Nat) : LC := (.seq (.reg (c_morphism_Same_r0 F) [2, 3]) (.seq (.reg (c_morphism_Same_r1 F) [4]) .ret))
def h_morphism_Same : Hints := ⟨[], fun _ => [], tab [(0, [2, 3]), (1, [4])], tab []⟩

/- r02.Finest -/
def c_r02_Finest_r0 (F : String → Nat) : List LI := [⟨some 2, .mov (.k (.nl 1)), none⟩]
def c_r02_Finest_r1 (F : String → Nat) : List LI := [⟨some 3, .mov (.k (.nl 1)), none⟩]
def c_r02_Finest_r2 (F : String → Nat) : List LI := [⟨some 4, .mov (.k (.int .i64 (0))), none⟩]
def c_r02_Finest_r3 (F : String → Nat) : List LI := [⟨some 5, .mov (.t 4), none⟩,
  ⟨some 6, .mov (.t 0), none⟩,
  ⟨some 7, .bin .lss (.t 5) (.t 6), none⟩]
def c_r02_Finest_r4 (F : String → Nat) : List LI := [⟨some 10, .mov (.t 3), none⟩,
  ⟨some 11, .mov (.t 4), none⟩,
  ⟨some 12, .buildSl 1 8 (.int .i64 (0)) 1 [(0, .t 11)], none⟩,
  ⟨some 13, .app 1 8 (.t 10) (.t 12), none⟩,
  ⟨some 3, .mov (.t 13), none⟩]
def c_r02_Finest_r5 (F : String → Nat) : List LI := [⟨some 8, .mov (.t 4), none⟩,
  ⟨some 9, .bin .add (.t 8) (.k (.int .i64 (1))), none⟩,
  ⟨some 4, .mov (.t 9), none⟩]
def c_r02_Finest_b6 (F : String → Nat) : LC := (.seq (.seq (.reg (c_r02_Finest_r3 F) [0, 3, 4, 7]) (.cond (.t 7) .skip (.exit 0))) (.seq (.block 1 (.reg (c_r02_Finest_r4 F) [0, 3, 4])) (.reg (c_r02_Finest_r5 F) [0, 3, 4])))
def c_r02_Finest_r7 (F : String → Nat) : List LI := [⟨some 14, .mov (.t 3), none⟩,
  ⟨some 2, .mov (.t 14), none⟩]
def c_r02_Finest (F : String → Nat) : LC := (.seq (.reg (c_r02_Finest_r0 F) [0]) (.seq (.reg (c_r02_Finest_r1 F) [0, 3]) (.seq (.seq (.reg (c_r02_Finest_r2 F) [0, 3, 4]) (.block 0 (.loop [0, 3, 4] (c_r02_Finest_b6 F)))) (.seq (.reg (c_r02_Finest_r7 F) [2]) .ret))))
def h_r02_Finest : Hints := ⟨[], fun _ => [], tab [(0, [0]), (1, [0, 3]), (2, [0, 3, 4]), (3, [0, 3, 4, 7]), (4, [0, 3, 4]), (5, [0, 3, 4]), (6, [2])], tab [(3, [0, 3, 4])]⟩

/- r06.Of -/
def c_r06_Of_r0 (F : String → Nat) : List LI := [⟨some 1, .bx (.t 0), none⟩,
  ⟨some 2, .alloc [.nl 1, .nl 1], none⟩]
def c_r06_Of_r1 (F : String → Nat) : List LI := [⟨some 3, .fad 0 (.t 1), none⟩,
  ⟨some 4, .load false 1 (.t 3), none⟩,
  ⟨some 5, .len (.t 4), none⟩,
  ⟨some 6, .call (F "r02.Finest") [.t 5] [], none⟩,
  ⟨some 7, .fad 1 (.t 1), none⟩,
  ⟨some 8, .load false 1 (.t 7), none⟩,
  ⟨some 9, .len (.t 8), none⟩,
  ⟨some 10, .call (F "r02.Finest") [.t 9] [], none⟩,
  ⟨some 11, .build [.nl 1, .nl 1] [(0, 1, .t 6), (1, 1, .t 10)], none⟩,
  ⟨none, .store 2 (.t 2) (.t 11), none⟩]
def c_r06_Of (F : String → Nat) : LC := (.seq (.reg (c_r06_Of_r0 F) [1, 2]) (.seq (.dreg [(3, none, [], true), (5, (some 16), [3], false)] (c_r06_Of_r1 F) [2]) .ret))
def h_r06_Of : Hints := ⟨[], fun _ => [], tab [(0, [1, 2]), (1, [2])], tab []⟩

attribute [go_sem] c_morphism_Same_r0 c_morphism_Same_r1 c_morphism_Same c_r02_Finest_r0 c_r02_Finest_r1 c_r02_Finest_r2 c_r02_Finest_r3 c_r02_Finest_r4 c_r02_Finest_r5 c_r02_Finest_r7 c_r02_Finest c_r06_Of_r0 c_r06_Of_r1 c_r06_Of
section
variable (P : Program) (F : String → Nat)
def K_morphism_Same : Prop := ∀ a b : Mo, a.n.length ≤ maxL → a.e.length ≤ maxL → FC P (F "morphism.Same") [mD a, mD b] (.bool (decide (a = b))) []
def K_r02_Finest : Prop := ∀ n : Nat, n ≤ 1000000 → FC P (F "r02.Finest") [.int .i64 n] (.arr 1 (ints (nums 0 n))) []
def K_r06_Of : Prop := ∀ g : G, g.n.length ≤ 1000000 → g.e.length ≤ 1000000 → FC P (F "r06.Of") [gD g] (mA (idM g)) []
end
section
variable {P : Program} {F : String → Nat} {α : Type}
theorem fillL {α : Type} (l : List α) (x z : α) (m : Nat) : (l ++ List.replicate (m + 1) z).set l.length x = (l ++ [x]) ++ List.replicate m z := by
  rw [List.set_append_right _ _ (Nat.le_refl _)]
  simp [List.replicate_succ]
theorem w_r02_Finest (n : Nat) (h2 : n ≤ 1000000) : W P (c_r02_Finest F) (Done [.t 2] [] (.arr 1 (ints (nums 0 n))) []) (init [.int .i64 n]) := by
  refine W_of ?_
  simp (config := { maxSteps := 1000000 }) (disch := first | omega | (simp only [go_sem]; omega)) only [go_sem, ↓reduceIte]
  refine W_loop (fun i : Nat => ⟨[(0, .int .i64 n), (3, .sl 0 0 i), (4, .int .i64 i)], [(0, .arr 1 (ints (nums 0 i)))], 1⟩) (fun i => i ≤ n) (fun i => n - i) 0 ?_ ?_ ?_
  · simp (config := { maxSteps := 1000000 }) (disch := first | omega | (simp only [go_sem]; omega)) only [go_sem, ↓reduceIte, nums_zero, ints_nil]
    rfl
  · omega
  · intro i hi
    have e1 := nums_len 0 i
    simp (config := { maxSteps := 1000000 }) (disch := first | omega | (simp only [go_sem]; omega)) only [go_sem, ↓reduceIte, c_r02_Finest_b6]
    refine bran_dec (fun a => ?_) (fun a => ?_)
    · simp (config := { maxSteps := 1000000 }) (disch := first | omega | (simp only [go_sem]; omega)) only [go_sem, ↓reduceIte, e1]
      exact ⟨i + 1, by simp [nums_succ], by omega, by omega⟩
    · obtain rfl : i = n := by omega
      simp (config := { maxSteps := 1000000 }) (disch := first | omega | (simp only [go_sem]; omega)) only [go_sem, ↓reduceIte, e1]
theorem w_r06_Of (hn : K_r02_Finest P F) (g : G) (h1 : g.n.length ≤ 1000000) (h2 : g.e.length ≤ 1000000) : W P (c_r06_Of F) (Done [.c 2 true 2] [] (mA (idM g)) []) (init [gD g]) := by
  refine W_of ?_
  obtain ⟨gn, ge⟩ := g
  simp only at h1 h2
  have r1 := hn gn.length (by omega)
  have r2 := hn ge.length (by omega)
  simp only [gD]
  simp (config := { maxSteps := 1000000 }) (disch := first | omega | (simp only [go_sem]; omega)) only [go_sem, ↓reduceIte]
  refine call_by r1 ?_
  simp (config := { maxSteps := 1000000 }) (disch := first | omega | (simp only [go_sem]; omega)) only [go_sem, ↓reduceIte]
  refine call_by r2 ?_
  simp (config := { maxSteps := 1000000 }) (disch := first | omega | (simp only [go_sem]; omega)) only [go_sem, ↓reduceIte]
  simp [idM, mA]
theorem w_morphism_Same (he : K_slices_Equal_I P F) (a b : Mo) (h1 : a.n.length ≤ maxL) (h2 : a.e.length ≤ maxL) : W P (c_morphism_Same F) (Done [.t 4] [] (.bool (decide (a = b))) []) (init [mD a, mD b]) := by
  refine W_of ?_
  obtain ⟨an, ae⟩ := a
  obtain ⟨bn, be⟩ := b
  simp only at h1 h2
  simp (config := { maxSteps := 1000000 }) (disch := first | omega | (simp only [go_sem]; omega)) only [go_sem, ↓reduceIte, mD]
  refine call_by (he _ _ h1) ?_
  simp (config := { maxSteps := 1000000 }) (disch := first | omega | (simp only [go_sem]; omega)) only [go_sem, ↓reduceIte]
  refine bran_dec (fun c => ?_) (fun c => ?_)
  · subst c
    simp (config := { maxSteps := 1000000 }) (disch := first | omega | (simp only [go_sem]; omega)) only [go_sem, ↓reduceIte]
    refine call_by (he _ _ h2) ?_
    simp (config := { maxSteps := 1000000 }) (disch := first | omega | (simp only [go_sem]; omega)) only [go_sem, ↓reduceIte]
    simp
  · simp (config := { maxSteps := 1000000 }) (disch := first | omega | (simp only [go_sem]; omega)) only [go_sem, ↓reduceIte, c]
    simp [c]
end
end Go.Am
