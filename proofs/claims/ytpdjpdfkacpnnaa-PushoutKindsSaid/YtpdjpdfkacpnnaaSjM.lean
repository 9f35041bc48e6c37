/- Drafts of graphs; permutations. -/
import Derived.Test.YtpdjpdfkacpnnaaSkA
namespace Go.Am
open Go
set_option linter.unusedVariables false
set_option linter.unusedSimpArgs false
/- r05.Shuffle -/
def c_r05_Shuffle_r0 (F : String → Nat) : List LI := [⟨some 4, .mov (.k (.nl 1)), none⟩]
def c_r05_Shuffle_r1 (F : String → Nat) : List LI := [⟨some 8, .mov (.t 0), none⟩,
  ⟨some 9, .call (F "r05.Numbers") [.k (.int .i64 (0)), .t 8] [], none⟩,
  ⟨some 5, .mov (.t 9), none⟩]
def c_r05_Shuffle_r2 (F : String → Nat) : List LI := [⟨some 6, .mov (.k (.int .i64 (0))), none⟩]
def c_r05_Shuffle_r3 (F : String → Nat) : List LI := [⟨some 10, .mov (.t 6), none⟩,
  ⟨some 11, .mov (.t 0), none⟩,
  ⟨some 12, .bin .lss (.t 10) (.t 11), none⟩,
  ⟨some 13, .mov (.t 12), none⟩,
  ⟨some 14, .mov (.t 6), some (13, true)⟩,
  ⟨some 15, .mov (.t 1), some (13, true)⟩,
  ⟨some 16, .len (.t 15), some (13, true)⟩,
  ⟨some 17, .bin .lss (.t 14) (.t 16), some (13, true)⟩,
  ⟨some 18, .pick (.t 13) (.t 17) (.k (.bool false)), none⟩]
def c_r05_Shuffle_r4 (F : String → Nat) : List LI := [⟨some 21, .mov (.t 6), none⟩,
  ⟨some 22, .mov (.t 1), none⟩,
  ⟨some 23, .mov (.t 6), none⟩,
  ⟨some 24, .iad 1 (.t 22) (.t 23), none⟩,
  ⟨some 25, .load false 1 (.t 24), none⟩,
  ⟨some 26, .conv .i64 (.t 25), none⟩,
  ⟨some 27, .mov (.t 0), none⟩,
  ⟨some 28, .mov (.t 6), none⟩,
  ⟨some 29, .bin .sub (.t 27) (.t 28), none⟩,
  ⟨some 30, .bin .rem (.t 26) (.t 29), none⟩,
  ⟨some 31, .bin .add (.t 21) (.t 30), none⟩,
  ⟨some 7, .mov (.t 31), none⟩]
def c_r05_Shuffle_r5 (F : String → Nat) : List LI := [⟨some 32, .mov (.t 5), none⟩,
  ⟨some 33, .mov (.t 6), none⟩,
  ⟨some 34, .mov (.t 5), none⟩,
  ⟨some 35, .mov (.t 7), none⟩,
  ⟨some 36, .mov (.t 5), none⟩,
  ⟨some 37, .mov (.t 7), none⟩,
  ⟨some 38, .iad 1 (.t 36) (.t 37), none⟩,
  ⟨some 39, .load false 1 (.t 38), none⟩,
  ⟨some 40, .mov (.t 5), none⟩,
  ⟨some 41, .mov (.t 6), none⟩,
  ⟨some 42, .iad 1 (.t 40) (.t 41), none⟩,
  ⟨some 43, .load false 1 (.t 42), none⟩,
  ⟨some 44, .iad 1 (.t 32) (.t 33), none⟩,
  ⟨none, .store 1 (.t 44) (.t 39), none⟩,
  ⟨some 45, .iad 1 (.t 34) (.t 35), none⟩,
  ⟨none, .store 1 (.t 45) (.t 43), none⟩]
def c_r05_Shuffle_r6 (F : String → Nat) : List LI := [⟨some 19, .mov (.t 6), none⟩,
  ⟨some 20, .bin .add (.t 19) (.k (.int .i64 (1))), none⟩,
  ⟨some 6, .mov (.t 20), none⟩]
def c_r05_Shuffle_b7 (F : String → Nat) : LC := (.seq (.seq (.reg (c_r05_Shuffle_r3 F) [0, 1, 5, 6, 18]) (.cond (.t 18) .skip (.exit 0))) (.seq (.block 1 (.seq (.reg (c_r05_Shuffle_r4 F) [0, 1, 5, 6, 7]) (.dreg [] (c_r05_Shuffle_r5 F) [0, 1, 5, 6]))) (.reg (c_r05_Shuffle_r6 F) [0, 1, 5, 6])))
def c_r05_Shuffle_r8 (F : String → Nat) : List LI := [⟨some 46, .mov (.t 5), none⟩,
  ⟨some 4, .mov (.t 46), none⟩]
def c_r05_Shuffle (F : String → Nat) : LC := (.seq (.reg (c_r05_Shuffle_r0 F) [0, 1]) (.seq (.reg (c_r05_Shuffle_r1 F) [0, 1, 5]) (.seq (.seq (.reg (c_r05_Shuffle_r2 F) [0, 1, 5, 6]) (.block 0 (.loop [0, 1, 5, 6] (c_r05_Shuffle_b7 F)))) (.seq (.reg (c_r05_Shuffle_r8 F) [4]) .ret))))
def h_r05_Shuffle : Hints := ⟨[], fun _ => [], tab [(0, [0, 1]), (1, [0, 1, 5]), (2, [0, 1, 5, 6]), (3, [0, 1, 5, 6, 18]), (4, [0, 1, 5, 6]), (5, [0, 1, 5, 6, 7]), (6, [0, 1, 5, 6]), (7, [4])], tab [(3, [0, 1, 5, 6])]⟩

attribute [go_sem] c_r05_Shuffle_r0 c_r05_Shuffle_r1 c_r05_Shuffle_r2 c_r05_Shuffle_r3 c_r05_Shuffle_r4 c_r05_Shuffle_r5 c_r05_Shuffle_r6 c_r05_Shuffle_r8 c_r05_Shuffle
def swapL (l : List Int) (i k : Nat) : List Int := (l.set i (gt l k)).set k (gt l i)
def shufK (n : Nat) (cs : List Int) (i : Nat) : Nat := i + ((gt cs i).tmod (n - i)).toNat
def shufL (n : Nat) (cs : List Int) : Nat → List Int
  | 0 => nums 0 n
  | i + 1 => swapL (shufL n cs i) i (shufK n cs i)
section
variable (P : Program) (F : String → Nat)
def K_r05_Shuffle : Prop := ∀ (n : Nat) (cs : List Int), n ≤ 1000000 → cs.length ≤ maxL → (∀ v ∈ cs, Byte v) → FC P (F "r05.Shuffle") [.int .i64 n, .lst 1 (u8s cs)] (.arr 1 (ints (shufL n cs (min n cs.length)))) []
end
section
variable {P : Program} {F : String → Nat} {α : Type}
theorem shufL_len (n : Nat) (cs : List Int) : ∀ i, (shufL n cs i).length = n
  | 0 => by simp [shufL, nums_len]
  | i + 1 => by simp [shufL, swapL, shufL_len n cs i]
theorem w_r05_Shuffle (hn : K_r05_Numbers P F) (n : Nat) (cs : List Int) (h1 : n ≤ 1000000) (h2 : cs.length ≤ maxL) (h3 : ∀ v ∈ cs, Byte v) : W P (c_r05_Shuffle F) (Done [.t 4] [] (.arr 1 (ints (shufL n cs (min n cs.length)))) []) (init [.int .i64 n, .lst 1 (u8s cs)]) := by
  refine W_of ?_
  unfold maxL at h2
  have hl := shufL_len n cs
  simp (config := { maxSteps := 1000000 }) (disch := first | omega | (simp only [go_sem]; omega)) only [go_sem, ↓reduceIte]
  refine call_by (hn _ _ (by omega) (by omega) (by omega)) ?_
  simp (config := { maxSteps := 1000000 }) (disch := first | omega | (simp only [go_sem]; omega)) only [go_sem, ↓reduceIte, nums_len]
  refine W_loop (fun i : Nat => ⟨[(0, D.int IntKind.i64 n), (1, D.lst 1 (u8s cs)), (5, D.sl 0 0 n), (6, D.int IntKind.i64 i)], [(0, Ent.arr 1 (ints (shufL n cs i)))], 1⟩) (fun i => i ≤ n ∧ i ≤ cs.length) (fun i => n - i) 0 ?_ ?_ ?_
  · simp (config := { maxSteps := 1000000 }) (disch := first | omega | (simp only [go_sem]; omega)) only [go_sem, ↓reduceIte, nums_len]
    rfl
  · simp
  · rintro i ⟨hi, hi2⟩
    have hli := hl i
    simp (config := { maxSteps := 1000000 }) (disch := first | omega | (simp only [go_sem]; omega)) only [go_sem, ↓reduceIte, c_r05_Shuffle_b7]
    refine bran_dec (fun c => ?_) (fun c => ?_)
    · simp (config := { maxSteps := 1000000 }) (disch := first | omega | (simp only [go_sem]; omega)) only [go_sem, ↓reduceIte, c]
      refine bran_dec (fun c2 => ?_) (fun c2 => ?_)
      · have ho := h3 _ (gt_mem (l := cs) (j := i) (by omega) (by omega))
        have hb := tmod_bd (x := gt cs i) (m := (n : Int) - i) ho.1 (by omega)
        have hwr : IntKind.i64.wrap (gt cs i) = gt cs i := wrap_i64 (by have := ho.1; omega) (by have := ho.2; omega)
        have hz : ¬ ((n : Int) - i = 0) := by omega
        have hsh : (i : Int) + (gt cs i).tmod ((n : Int) - i) = ((shufK n cs i : Nat) : Int) := by unfold shufK; omega
        have hsk : shufK n cs i < n := by omega
        simp (config := { maxSteps := 1000000 }) (disch := first | omega | (simp only [go_sem]; omega)) only [go_sem, ↓reduceIte, hli, hwr, hz, hsh]
        exact ⟨i + 1, by simp [shufL, swapL], by omega, by omega⟩
      · simp (config := { maxSteps := 1000000 }) (disch := first | omega | (simp only [go_sem]; omega)) only [go_sem, ↓reduceIte]
        rw [show min n cs.length = i by omega]
    · simp (config := { maxSteps := 1000000 }) (disch := first | omega | (simp only [go_sem]; omega)) only [go_sem, ↓reduceIte, c]
      rw [show min n cs.length = i by omega]
theorem shufK_lt {n : Nat} {cs : List Int} {i : Nat} (h1 : i < n) (h2 : i < cs.length) (h3 : ∀ v ∈ cs, Byte v) : shufK n cs i < n := by
  have ho := h3 _ (gt_mem (l := cs) (j := i) (by omega) (by omega))
  have hb := tmod_bd (x := gt cs i) (m := (n : Int) - i) ho.1 (by omega)
  unfold shufK
  omega
theorem shufL_perm {n : Nat} {cs : List Int} (h3 : ∀ v ∈ cs, Byte v) : ∀ i, i ≤ n → i ≤ cs.length → (shufL n cs i).Perm (nums 0 n)
  | 0, _, _ => List.Perm.refl _
  | i + 1, h1, h2 => by
    have hl := shufL_len n cs i
    have hk := shufK_lt (n := n) (cs := cs) (i := i) (by omega) (by omega) h3
    refine List.Perm.trans ?_ (shufL_perm h3 i (by omega) (by omega))
    simp only [shufL, swapL]
    rw [gt_nat (by omega), gt_nat (by omega)]
    exact List.set_set_perm (by omega) (by omega)
end
end Go.Am
