/- slices.Clone. -/
import Derived.Test.YtpdjpdfkacpnnaaSkA
namespace Go.Am
open Go
set_option linter.unusedVariables false
set_option linter.unusedSimpArgs false
/- slices.Equal.E -/
def c_slices_Equal_E_r0 (F : String → Nat) : List LI := [⟨some 4, .mov (.k (.bool false)), none⟩]
def c_slices_Equal_E_r1 (F : String → Nat) : List LI := [⟨some 6, .mov (.t 0), none⟩,
  ⟨some 7, .len (.t 6), none⟩,
  ⟨some 8, .mov (.t 1), none⟩,
  ⟨some 9, .len (.t 8), none⟩,
  ⟨some 10, .bin .neq (.t 7) (.t 9), none⟩]
def c_slices_Equal_E_r2 (F : String → Nat) : List LI := [⟨some 4, .mov (.k (.bool false)), none⟩]
def c_slices_Equal_E_r3 (F : String → Nat) : List LI := [⟨some 11, .mov (.t 0), none⟩,
  ⟨some 12, .len (.t 11), none⟩,
  ⟨some 13, .mov (.k (.int .i64 (0))), none⟩]
def c_slices_Equal_E_r4 (F : String → Nat) : List LI := [⟨some 14, .bin .lss (.t 13) (.t 12), none⟩]
def c_slices_Equal_E_r5 (F : String → Nat) : List LI := [⟨some 15, .mov (.t 13), none⟩,
  ⟨some 5, .mov (.t 15), none⟩]
def c_slices_Equal_E_r6 (F : String → Nat) : List LI := [⟨some 16, .mov (.t 0), none⟩,
  ⟨some 17, .mov (.t 5), none⟩,
  ⟨some 18, .iad 3 (.t 16) (.t 17), none⟩,
  ⟨some 19, .load true 3 (.t 18), none⟩,
  ⟨some 20, .mov (.t 1), none⟩,
  ⟨some 21, .mov (.t 5), none⟩,
  ⟨some 22, .iad 3 (.t 20) (.t 21), none⟩,
  ⟨some 23, .load true 3 (.t 22), none⟩,
  ⟨some 24, .eqA 3 true (.t 19) (.t 23), none⟩]
def c_slices_Equal_E_r7 (F : String → Nat) : List LI := [⟨some 4, .mov (.k (.bool false)), none⟩]
def c_slices_Equal_E_r8 (F : String → Nat) : List LI := [⟨some 25, .bin .add (.t 13) (.k (.int .i64 (1))), none⟩,
  ⟨some 13, .mov (.t 25), none⟩]
def c_slices_Equal_E_b9 (F : String → Nat) : LC := (.seq (.reg (c_slices_Equal_E_r4 F) [0, 1, 12, 13, 14]) (.seq (.cond (.t 14) .skip (.exit 0)) (.seq (.block 1 (.seq (.reg (c_slices_Equal_E_r5 F) [0, 1, 5, 12, 13]) (.seq (.dreg [] (c_slices_Equal_E_r6 F) [0, 1, 12, 13, 24]) (.cond (.t 24) (.seq (.reg (c_slices_Equal_E_r7 F) [4]) .ret) .skip)))) (.reg (c_slices_Equal_E_r8 F) [0, 1, 12, 13]))))
def c_slices_Equal_E_r10 (F : String → Nat) : List LI := [⟨some 4, .mov (.k (.bool true)), none⟩]
def c_slices_Equal_E (F : String → Nat) : LC := (.seq (.reg (c_slices_Equal_E_r0 F) [0, 1]) (.seq (.seq (.reg (c_slices_Equal_E_r1 F) [0, 1, 10]) (.cond (.t 10) (.seq (.reg (c_slices_Equal_E_r2 F) [4]) .ret) .skip)) (.seq (.seq (.reg (c_slices_Equal_E_r3 F) [0, 1, 12, 13]) (.block 0 (.loop [0, 1, 12, 13] (c_slices_Equal_E_b9 F)))) (.seq (.reg (c_slices_Equal_E_r10 F) [4]) .ret))))
def h_slices_Equal_E : Hints := ⟨[], fun _ => [], tab [(0, [0, 1]), (1, [0, 1, 10]), (2, [4]), (3, [0, 1, 12, 13]), (4, [0, 1, 12, 13, 14]), (5, [0, 1, 5, 12, 13]), (6, [0, 1, 12, 13, 24]), (7, [4]), (8, [0, 1, 12, 13]), (9, [4])], tab [(4, [0, 1, 12, 13])]⟩

/- slices.Clone.I -/
def c_slices_Clone_I_r0 (F : String → Nat) : List LI := [⟨some 2, .mov (.k (.nl 1)), none⟩]
def c_slices_Clone_I_r1 (F : String → Nat) : List LI := [⟨some 3, .mov (.t 0), none⟩,
  ⟨some 4, .isnil false (.t 3), none⟩]
def c_slices_Clone_I_r2 (F : String → Nat) : List LI := [⟨some 2, .mov (.k (.nl 1)), none⟩]
def c_slices_Clone_I_r3 (F : String → Nat) : List LI := [⟨some 5, .buildSl 1 8 (.int .i64 (0)) 0 [], none⟩,
  ⟨some 6, .mov (.t 0), none⟩,
  ⟨some 7, .app 1 8 (.t 5) (.t 6), none⟩,
  ⟨some 2, .mov (.t 7), none⟩]
def c_slices_Clone_I (F : String → Nat) : LC := (.seq (.reg (c_slices_Clone_I_r0 F) [0]) (.seq (.seq (.reg (c_slices_Clone_I_r1 F) [0, 4]) (.cond (.t 4) (.seq (.reg (c_slices_Clone_I_r2 F) [2]) .ret) .skip)) (.seq (.reg (c_slices_Clone_I_r3 F) [2]) .ret)))
def h_slices_Clone_I : Hints := ⟨[], fun _ => [], tab [(0, [0]), (1, [0, 4]), (2, [2]), (3, [2])], tab []⟩

/- slices.Clone.E -/
def c_slices_Clone_E_r0 (F : String → Nat) : List LI := [⟨some 2, .mov (.k (.nl 3)), none⟩]
def c_slices_Clone_E_r1 (F : String → Nat) : List LI := [⟨some 3, .mov (.t 0), none⟩,
  ⟨some 4, .isnil false (.t 3), none⟩]
def c_slices_Clone_E_r2 (F : String → Nat) : List LI := [⟨some 2, .mov (.k (.nl 3)), none⟩]
def c_slices_Clone_E_r3 (F : String → Nat) : List LI := [⟨some 5, .buildSl 3 24 (.agg [.int .i64 (0), .int .i64 (0), .int .i64 (0)]) 0 [], none⟩,
  ⟨some 6, .mov (.t 0), none⟩,
  ⟨some 7, .app 3 24 (.t 5) (.t 6), none⟩,
  ⟨some 2, .mov (.t 7), none⟩]
def c_slices_Clone_E (F : String → Nat) : LC := (.seq (.reg (c_slices_Clone_E_r0 F) [0]) (.seq (.seq (.reg (c_slices_Clone_E_r1 F) [0, 4]) (.cond (.t 4) (.seq (.reg (c_slices_Clone_E_r2 F) [2]) .ret) .skip)) (.seq (.reg (c_slices_Clone_E_r3 F) [2]) .ret)))
def h_slices_Clone_E : Hints := ⟨[], fun _ => [], tab [(0, [0]), (1, [0, 4]), (2, [2]), (3, [2])], tab []⟩

attribute [go_sem] c_slices_Equal_E_r0 c_slices_Equal_E_r1 c_slices_Equal_E_r2 c_slices_Equal_E_r3 c_slices_Equal_E_r4 c_slices_Equal_E_r5 c_slices_Equal_E_r6 c_slices_Equal_E_r7 c_slices_Equal_E_r8 c_slices_Equal_E_r10 c_slices_Equal_E c_slices_Clone_I_r0 c_slices_Clone_I_r1 c_slices_Clone_I_r2 c_slices_Clone_I_r3 c_slices_Clone_I c_slices_Clone_E_r0 c_slices_Clone_E_r1 c_slices_Clone_E_r2 c_slices_Clone_E_r3 c_slices_Clone_E
def pts (l : List Mo) : List D := l.map mD
theorem pts_length (l : List Mo) : (pts l).length = l.length := by simp [pts]
theorem pts_snoc (l : List Mo) (a b : List Int) : pts l ++ [.agg [.lst 1 (ints a), .lst 1 (ints b)]] = pts (l ++ [⟨a, b⟩]) := by simp [pts, mD]
attribute [go_sem] pts_length pts_snoc
section
variable (P : Program) (F : String → Nat)
def K_slices_Clone_I : Prop := ∀ l : List Int, l.length ≤ 10000000000000 → FC P (F "slices.Clone.I") [.lst 1 (ints l)] (.arr 1 (ints l)) []
def K_slices_Equal_E : Prop := ∀ a b : List E, a.length ≤ maxL → FC P (F "slices.Equal.E") [.lst 3 (eds a), .lst 3 (eds b)] (.bool (decide (a = b))) []
def K_slices_Clone_E : Prop := ∀ l : List E, l.length ≤ 1000000000000 → FC P (F "slices.Clone.E") [.lst 3 (eds l)] (.arr 3 (eds l)) []
end
section
variable {P : Program} {F : String → Nat} {α : Type}
theorem w_slices_Clone_I (l : List Int) (hl : l.length ≤ 10000000000000) : W P (c_slices_Clone_I F) (Done [.t 2] [] (.arr 1 (ints l)) []) (init [.lst 1 (ints l)]) := by
  refine W_of ?_
  simp (config := { maxSteps := 1000000 }) (disch := first | omega | (simp only [go_sem]; omega)) only [go_sem, ↓reduceIte]
  refine nil_by (fun h => ?_) (fun _ => ?_)
  · have : l = [] := by simpa [ints] using h
    subst this
    simp (config := { maxSteps := 1000000 }) (disch := first | omega | (simp only [go_sem]; omega)) only [go_sem, ↓reduceIte, ints_nil]
  · simp (config := { maxSteps := 1000000 }) (disch := first | omega | (simp only [go_sem]; omega)) only [go_sem, ↓reduceIte]
theorem w_slices_Clone_E (l : List E) (hl : l.length ≤ 1000000000000) : W P (c_slices_Clone_E F) (Done [.t 2] [] (.arr 3 (eds l)) []) (init [.lst 3 (eds l)]) := by
  refine W_of ?_
  simp (config := { maxSteps := 1000000 }) (disch := first | omega | (simp only [go_sem]; omega)) only [go_sem, ↓reduceIte]
  refine nil_by (fun h => ?_) (fun _ => ?_)
  · have : l = [] := by simpa [eds] using h
    subst this
    have e : eds [] = [] := rfl
    simp (config := { maxSteps := 1000000 }) (disch := first | omega | (simp only [go_sem]; omega)) only [go_sem, ↓reduceIte, e]
  · simp (config := { maxSteps := 1000000 }) (disch := first | omega | (simp only [go_sem]; omega)) only [go_sem, ↓reduceIte]
theorem w_slices_Equal_E (a b : List E) (hl : a.length ≤ maxL) : W P (c_slices_Equal_E F) (Done [.t 4] [] (.bool (decide (a = b))) []) (init [.lst 3 (eds a), .lst 3 (eds b)]) := by
  refine W_of ?_
  unfold maxL at hl
  simp (config := { maxSteps := 1000000 }) (disch := first | omega | (simp only [go_sem]; omega)) only [go_sem, ↓reduceIte]
  refine bran_ndec (fun h => ?_) (fun h => ?_)
  · simp (config := { maxSteps := 1000000 }) (disch := first | omega | (simp only [go_sem]; omega)) only [go_sem, ↓reduceIte]
    have : a ≠ b := fun e => h (by rw [e])
    simp [this]
  · have h' : a.length = b.length := by omega
    simp (config := { maxSteps := 1000000 }) (disch := first | omega | (simp only [go_sem]; omega)) only [go_sem, ↓reduceIte]
    refine W_loop (fun i : Nat => ⟨[(0, .lst 3 (eds a)), (1, .lst 3 (eds b)), (12, .int .i64 a.length), (13, .int .i64 i)], [], 0⟩) (fun i => i ≤ a.length ∧ a.take i = b.take i) (fun i => a.length - i) 0 ?_ ?_ ?_
    · simp (config := { maxSteps := 1000000 }) (disch := first | omega | (simp only [go_sem]; omega)) only [go_sem, ↓reduceIte]
      rfl
    · simp
    · intro i hi
      simp (config := { maxSteps := 1000000 }) (disch := first | omega | (simp only [go_sem]; omega)) only [go_sem, ↓reduceIte, c_slices_Equal_E_b9]
      refine bran_dec (fun c => ?_) (fun c => ?_)
      · have he : (decide ((gt a i).t = (gt b i).t) && (decide ((gt a i).f = (gt b i).f) && decide ((gt a i).o = (gt b i).o))) = decide (gt a i = gt b i) := by
          rw [Bool.eq_iff_iff]; simp [eqE]
        simp (config := { maxSteps := 1000000 }) (disch := first | omega | (simp only [go_sem]; omega)) only [go_sem, ↓reduceIte, he]
        refine bran_ndec (fun d => ?_) (fun d => ?_)
        · simp (config := { maxSteps := 1000000 }) (disch := first | omega | (simp only [go_sem]; omega)) only [go_sem, ↓reduceIte]
          have : a ≠ b := fun e => d (by rw [e])
          simp [this]
        · simp (config := { maxSteps := 1000000 }) (disch := first | omega | (simp only [go_sem]; omega)) only [go_sem, ↓reduceIte]
          exact ⟨i + 1, by simp, ⟨by omega, by rw [take_gt (by omega), take_gt (by omega), hi.2, d]⟩, by omega⟩
      · simp (config := { maxSteps := 1000000 }) (disch := first | omega | (simp only [go_sem]; omega)) only [go_sem, ↓reduceIte]
        obtain rfl : i = a.length := by omega
        have := hi.2
        rw [List.take_length, List.take_of_length_le (by omega)] at this
        simp [this]
end
end Go.Am
