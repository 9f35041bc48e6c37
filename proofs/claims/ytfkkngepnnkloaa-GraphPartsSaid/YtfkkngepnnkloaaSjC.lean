/- The graph package and its reference: validity, comparison, what is left. -/
import Derived.Test.YtfkkngepnnkloaaSjB
namespace Go.Am
open Go
set_option linter.unusedVariables false
set_option linter.unusedSimpArgs false
/- graph.left -/
def c_graph_left_r0 (F : String → Nat) : List LI := [⟨some 4, .mov (.k (.nl 1)), none⟩]
def c_graph_left_r1 (F : String → Nat) : List LI := [⟨some 5, .mov (.k (.nl 1)), none⟩]
def c_graph_left_r2 (F : String → Nat) : List LI := [⟨some 6, .mov (.k (.int .i64 (0))), none⟩,
  ⟨some 7, .mov (.k (.int .i64 (0))), none⟩]
def c_graph_left_r3 (F : String → Nat) : List LI := [⟨some 8, .mov (.t 6), none⟩,
  ⟨some 9, .mov (.t 0), none⟩,
  ⟨some 10, .bin .lss (.t 8) (.t 9), none⟩]
def c_graph_left_r4 (F : String → Nat) : List LI := [⟨some 13, .mov (.t 1), none⟩,
  ⟨some 14, .mov (.t 6), none⟩,
  ⟨some 15, .call (F "slices.Contains.I") [.t 13, .t 14] [], none⟩]
def c_graph_left_r5 (F : String → Nat) : List LI := [⟨some 16, .mov (.t 5), none⟩,
  ⟨some 17, .buildSl 1 8 (.int .i64 (0)) 1 [(0, .k (.int .i64 (-1)))], none⟩,
  ⟨some 18, .app 1 8 (.t 16) (.t 17), none⟩,
  ⟨some 5, .mov (.t 18), none⟩]
def c_graph_left_r6 (F : String → Nat) : List LI := [⟨some 19, .mov (.t 5), none⟩,
  ⟨some 20, .mov (.t 7), none⟩,
  ⟨some 21, .buildSl 1 8 (.int .i64 (0)) 1 [(0, .t 20)], none⟩,
  ⟨some 22, .app 1 8 (.t 19) (.t 21), none⟩,
  ⟨some 5, .mov (.t 22), none⟩]
def c_graph_left_r7 (F : String → Nat) : List LI := [⟨some 23, .mov (.t 7), none⟩,
  ⟨some 24, .bin .add (.t 23) (.k (.int .i64 (1))), none⟩,
  ⟨some 7, .mov (.t 24), none⟩]
def c_graph_left_r8 (F : String → Nat) : List LI := [⟨some 11, .mov (.t 6), none⟩,
  ⟨some 12, .bin .add (.t 11) (.k (.int .i64 (1))), none⟩,
  ⟨some 6, .mov (.t 12), none⟩]
def c_graph_left_b9 (F : String → Nat) : LC := (.seq (.seq (.reg (c_graph_left_r3 F) [0, 1, 5, 6, 7, 10]) (.cond (.t 10) .skip (.exit 0))) (.seq (.block 1 (.seq (.seq (.reg (c_graph_left_r4 F) [0, 1, 5, 6, 7, 15]) (.cond (.t 15) (.seq (.reg (c_graph_left_r5 F) [0, 1, 5, 6, 7]) (.exit 1)) .skip)) (.seq (.reg (c_graph_left_r6 F) [0, 1, 5, 6, 7]) (.reg (c_graph_left_r7 F) [0, 1, 5, 6, 7])))) (.reg (c_graph_left_r8 F) [0, 1, 5, 6, 7])))
def c_graph_left_r10 (F : String → Nat) : List LI := [⟨some 25, .mov (.t 5), none⟩,
  ⟨some 4, .mov (.t 25), none⟩]
def c_graph_left (F : String → Nat) : LC := (.seq (.reg (c_graph_left_r0 F) [0, 1]) (.seq (.reg (c_graph_left_r1 F) [0, 1, 5]) (.seq (.seq (.reg (c_graph_left_r2 F) [0, 1, 5, 6, 7]) (.block 0 (.loop [0, 1, 5, 6, 7] (c_graph_left_b9 F)))) (.seq (.reg (c_graph_left_r10 F) [4]) .ret))))
def h_graph_left : Hints := ⟨[], fun _ => [], tab [(0, [0, 1]), (1, [0, 1, 5]), (2, [0, 1, 5, 6, 7]), (3, [0, 1, 5, 6, 7, 10]), (4, [0, 1, 5, 6, 7]), (5, [0, 1, 5, 6, 7, 15]), (6, [0, 1, 5, 6, 7]), (7, [0, 1, 5, 6, 7]), (8, [0, 1, 5, 6, 7]), (9, [4])], tab [(3, [0, 1, 5, 6, 7])]⟩

/- r05.Same -/
def c_r05_Same_r0 (F : String → Nat) : List LI := [⟨some 2, .bx (.t 0), none⟩,
  ⟨some 3, .bx (.t 1), none⟩,
  ⟨some 4, .mov (.k (.bool false)), none⟩]
def c_r05_Same_r1 (F : String → Nat) : List LI := [⟨some 6, .fad 0 (.t 2), none⟩,
  ⟨some 7, .load false 1 (.t 6), none⟩,
  ⟨some 8, .fad 0 (.t 3), none⟩,
  ⟨some 9, .load false 1 (.t 8), none⟩,
  ⟨some 10, .call (F "r05.SameInts") [.t 7, .t 9] [], none⟩,
  ⟨some 11, .not (.t 10), none⟩,
  ⟨some 12, .mov (.t 11), none⟩,
  ⟨some 13, .fad 1 (.t 2), some (12, false)⟩,
  ⟨some 14, .load false 1 (.t 13), some (12, false)⟩,
  ⟨some 15, .len (.t 14), some (12, false)⟩,
  ⟨some 16, .fad 1 (.t 3), some (12, false)⟩,
  ⟨some 17, .load false 1 (.t 16), some (12, false)⟩,
  ⟨some 18, .len (.t 17), some (12, false)⟩,
  ⟨some 19, .bin .neq (.t 15) (.t 18), some (12, false)⟩,
  ⟨some 20, .pick (.t 12) (.k (.bool true)) (.t 19), none⟩]
def c_r05_Same_r2 (F : String → Nat) : List LI := [⟨some 4, .mov (.k (.bool false)), none⟩]
def c_r05_Same_r3 (F : String → Nat) : List LI := [⟨some 5, .mov (.k (.int .i64 (0))), none⟩]
def c_r05_Same_r4 (F : String → Nat) : List LI := [⟨some 21, .mov (.t 5), none⟩,
  ⟨some 22, .fad 1 (.t 2), none⟩,
  ⟨some 23, .load false 1 (.t 22), none⟩,
  ⟨some 24, .len (.t 23), none⟩,
  ⟨some 25, .bin .lss (.t 21) (.t 24), none⟩]
def c_r05_Same_r5 (F : String → Nat) : List LI := [⟨some 28, .fad 1 (.t 2), none⟩,
  ⟨some 29, .load false 1 (.t 28), none⟩,
  ⟨some 30, .mov (.t 5), none⟩,
  ⟨some 31, .iad 3 (.t 29) (.t 30), none⟩,
  ⟨some 32, .load true 3 (.t 31), none⟩,
  ⟨some 33, .fad 1 (.t 3), none⟩,
  ⟨some 34, .load false 1 (.t 33), none⟩,
  ⟨some 35, .mov (.t 5), none⟩,
  ⟨some 36, .iad 3 (.t 34) (.t 35), none⟩,
  ⟨some 37, .load true 3 (.t 36), none⟩,
  ⟨some 38, .eqA 3 true (.t 32) (.t 37), none⟩]
def c_r05_Same_r6 (F : String → Nat) : List LI := [⟨some 4, .mov (.k (.bool false)), none⟩]
def c_r05_Same_r7 (F : String → Nat) : List LI := [⟨some 26, .mov (.t 5), none⟩,
  ⟨some 27, .bin .add (.t 26) (.k (.int .i64 (1))), none⟩,
  ⟨some 5, .mov (.t 27), none⟩]
def c_r05_Same_b8 (F : String → Nat) : LC := (.seq (.seq (.reg (c_r05_Same_r4 F) [2, 3, 5, 25]) (.cond (.t 25) .skip (.exit 0))) (.seq (.block 1 (.seq (.dreg [] (c_r05_Same_r5 F) [2, 3, 5, 38]) (.cond (.t 38) (.seq (.reg (c_r05_Same_r6 F) [4]) .ret) .skip))) (.reg (c_r05_Same_r7 F) [2, 3, 5])))
def c_r05_Same_r9 (F : String → Nat) : List LI := [⟨some 4, .mov (.k (.bool true)), none⟩]
def c_r05_Same (F : String → Nat) : LC := (.seq (.reg (c_r05_Same_r0 F) [2, 3]) (.seq (.seq (.reg (c_r05_Same_r1 F) [2, 3, 20]) (.cond (.t 20) (.seq (.reg (c_r05_Same_r2 F) [4]) .ret) .skip)) (.seq (.seq (.reg (c_r05_Same_r3 F) [2, 3, 5]) (.block 0 (.loop [2, 3, 5] (c_r05_Same_b8 F)))) (.seq (.reg (c_r05_Same_r9 F) [4]) .ret))))
def h_r05_Same : Hints := ⟨[], fun _ => [], tab [(0, [2, 3]), (1, [2, 3, 20]), (2, [4]), (3, [2, 3, 5]), (4, [2, 3, 5, 25]), (5, [2, 3, 5]), (6, [2, 3, 5, 38]), (7, [4]), (8, [4])], tab [(4, [2, 3, 5])]⟩

/- slices.Equal.I -/
def c_slices_Equal_I_r0 (F : String → Nat) : List LI := [⟨some 4, .mov (.k (.bool false)), none⟩]
def c_slices_Equal_I_r1 (F : String → Nat) : List LI := [⟨some 6, .mov (.t 0), none⟩,
  ⟨some 7, .len (.t 6), none⟩,
  ⟨some 8, .mov (.t 1), none⟩,
  ⟨some 9, .len (.t 8), none⟩,
  ⟨some 10, .bin .neq (.t 7) (.t 9), none⟩]
def c_slices_Equal_I_r2 (F : String → Nat) : List LI := [⟨some 4, .mov (.k (.bool false)), none⟩]
def c_slices_Equal_I_r3 (F : String → Nat) : List LI := [⟨some 11, .mov (.t 0), none⟩,
  ⟨some 12, .len (.t 11), none⟩,
  ⟨some 13, .mov (.k (.int .i64 (0))), none⟩]
def c_slices_Equal_I_r4 (F : String → Nat) : List LI := [⟨some 14, .bin .lss (.t 13) (.t 12), none⟩]
def c_slices_Equal_I_r5 (F : String → Nat) : List LI := [⟨some 15, .mov (.t 13), none⟩,
  ⟨some 5, .mov (.t 15), none⟩]
def c_slices_Equal_I_r6 (F : String → Nat) : List LI := [⟨some 16, .mov (.t 0), none⟩,
  ⟨some 17, .mov (.t 5), none⟩,
  ⟨some 18, .iad 1 (.t 16) (.t 17), none⟩,
  ⟨some 19, .load false 1 (.t 18), none⟩,
  ⟨some 20, .mov (.t 1), none⟩,
  ⟨some 21, .mov (.t 5), none⟩,
  ⟨some 22, .iad 1 (.t 20) (.t 21), none⟩,
  ⟨some 23, .load false 1 (.t 22), none⟩,
  ⟨some 24, .bin .neq (.t 19) (.t 23), none⟩]
def c_slices_Equal_I_r7 (F : String → Nat) : List LI := [⟨some 4, .mov (.k (.bool false)), none⟩]
def c_slices_Equal_I_r8 (F : String → Nat) : List LI := [⟨some 25, .bin .add (.t 13) (.k (.int .i64 (1))), none⟩,
  ⟨some 13, .mov (.t 25), none⟩]
def c_slices_Equal_I_b9 (F : String → Nat) : LC := (.seq (.reg (c_slices_Equal_I_r4 F) [0, 1, 12, 13, 14]) (.seq (.cond (.t 14) .skip (.exit 0)) (.seq (.block 1 (.seq (.reg (c_slices_Equal_I_r5 F) [0, 1, 5, 12, 13]) (.seq (.dreg [] (c_slices_Equal_I_r6 F) [0, 1, 12, 13, 24]) (.cond (.t 24) (.seq (.reg (c_slices_Equal_I_r7 F) [4]) .ret) .skip)))) (.reg (c_slices_Equal_I_r8 F) [0, 1, 12, 13]))))
def c_slices_Equal_I_r10 (F : String → Nat) : List LI := [⟨some 4, .mov (.k (.bool true)), none⟩]
def c_slices_Equal_I (F : String → Nat) : LC := (.seq (.reg (c_slices_Equal_I_r0 F) [0, 1]) (.seq (.seq (.reg (c_slices_Equal_I_r1 F) [0, 1, 10]) (.cond (.t 10) (.seq (.reg (c_slices_Equal_I_r2 F) [4]) .ret) .skip)) (.seq (.seq (.reg (c_slices_Equal_I_r3 F) [0, 1, 12, 13]) (.block 0 (.loop [0, 1, 12, 13] (c_slices_Equal_I_b9 F)))) (.seq (.reg (c_slices_Equal_I_r10 F) [4]) .ret))))
def h_slices_Equal_I : Hints := ⟨[], fun _ => [], tab [(0, [0, 1]), (1, [0, 1, 10]), (2, [4]), (3, [0, 1, 12, 13]), (4, [0, 1, 12, 13, 14]), (5, [0, 1, 5, 12, 13]), (6, [0, 1, 12, 13, 24]), (7, [4]), (8, [0, 1, 12, 13]), (9, [4])], tab [(4, [0, 1, 12, 13])]⟩

attribute [go_sem] c_graph_left_r0 c_graph_left_r1 c_graph_left_r2 c_graph_left_r3 c_graph_left_r4 c_graph_left_r5 c_graph_left_r6 c_graph_left_r7 c_graph_left_r8 c_graph_left_r10 c_graph_left c_r05_Same_r0 c_r05_Same_r1 c_r05_Same_r2 c_r05_Same_r3 c_r05_Same_r4 c_r05_Same_r5 c_r05_Same_r6 c_r05_Same_r7 c_r05_Same_r9 c_r05_Same c_slices_Equal_I_r0 c_slices_Equal_I_r1 c_slices_Equal_I_r2 c_slices_Equal_I_r3 c_slices_Equal_I_r4 c_slices_Equal_I_r5 c_slices_Equal_I_r6 c_slices_Equal_I_r7 c_slices_Equal_I_r8 c_slices_Equal_I_r10 c_slices_Equal_I
section
variable {P : Program} {F : String → Nat} {α : Type}
theorem eqE (a b : E) : a = b ↔ a.t = b.t ∧ a.f = b.f ∧ a.o = b.o := by
  cases a; cases b; simp
theorem left_len (gs : List Int) (i : Nat) : (leftL gs i).1.length = i := by
  induction i with
  | zero => rfl
  | succ i ih => simp only [leftL]; split <;> simp [ih]
theorem left_bd (gs : List Int) (i : Nat) : 0 ≤ (leftL gs i).2 ∧ (leftL gs i).2 ≤ i := by
  induction i with
  | zero => simp [leftL]
  | succ i ih => simp only [leftL]; split <;> simp <;> omega
theorem w_graph_left (hc : K_slices_Contains_I P F) (gs : List Int) (n : Nat) (hl : gs.length ≤ maxL) (hn : n ≤ 1000000) : W P (c_graph_left F) (Done [.t 4] [] (.arr 1 (ints (leftL gs n).1)) []) (init [.int .i64 n, .lst 1 (ints gs)]) := by
  refine W_of ?_
  simp (config := { maxSteps := 1000000 }) (disch := first | omega | (simp only [go_sem]; omega)) only [go_sem, ↓reduceIte]
  refine W_loop (fun i : Nat => ⟨[(0, .int .i64 n), (1, .lst 1 (ints gs)), (5, .sl 0 0 i), (6, .int .i64 i), (7, .int .i64 (leftL gs i).2)], [(0, .arr 1 (ints (leftL gs i).1))], 1⟩) (fun i => i ≤ n) (fun i => n - i) 0 ?_ ?_ ?_
  · simp (config := { maxSteps := 1000000 }) (disch := first | omega | (simp only [go_sem]; omega)) only [go_sem, ↓reduceIte, leftL, ints_nil]
    rfl
  · omega
  · intro i hi
    have hb := left_bd gs i
    have e1 := left_len gs i
    simp (config := { maxSteps := 1000000 }) (disch := first | omega | (simp only [go_sem]; omega)) only [go_sem, ↓reduceIte, c_graph_left_b9]
    refine bran_dec (fun h => ?_) (fun h => ?_)
    · simp (config := { maxSteps := 1000000 }) (disch := first | omega | (simp only [go_sem]; omega)) only [go_sem, ↓reduceIte]
      refine call_by (hc _ _ hl) ?_
      simp (config := { maxSteps := 1000000 }) (disch := first | omega | (simp only [go_sem]; omega)) only [go_sem, ↓reduceIte]
      refine bran_dec (fun hm => ?_) (fun hm => ?_)
      · simp (config := { maxSteps := 1000000 }) (disch := first | omega | (simp only [go_sem]; omega)) only [go_sem, ↓reduceIte, e1]
        exact ⟨i + 1, by simp [leftL, hm], by omega, by omega⟩
      · simp (config := { maxSteps := 1000000 }) (disch := first | omega | (simp only [go_sem]; omega)) only [go_sem, ↓reduceIte, e1]
        exact ⟨i + 1, by simp [leftL, hm], by omega, by omega⟩
    · obtain rfl : i = n := by omega
      simp (config := { maxSteps := 1000000 }) (disch := first | omega | (simp only [go_sem]; omega)) only [go_sem, ↓reduceIte, e1]
theorem asc_gt (n : Int) : ∀ (l : List Int) (p : Option Int), ascG n p l = 0 → (∀ x, x ∈ l → 0 ≤ x ∧ x ≤ n - 1) ∧ (∀ q, p = some q → ∀ x, x ∈ l → q < x) ∧ l.Pairwise (· < ·)
  | [], p, _ => by simp
  | x :: l, p, h => by
    simp only [ascG] at h
    split at h
    case isFalse => simp at h
    rename_i hx
    by_cases hp : leO x p = true
    · rw [if_pos hp] at h; simp at h
    · rw [if_neg hp] at h
      obtain ⟨h1, h2, h3⟩ := asc_gt n l (some x) h
      refine ⟨by simpa using ⟨hx, h1⟩, ?_, ?_⟩
      · rintro q rfl y hy
        simp only [leO, decide_eq_true_eq] at hp
        rcases List.mem_cons.1 hy with rfl | hy
        · omega
        · have := h2 x rfl y hy; omega
      · simpa using ⟨fun y hy => h2 x rfl y hy, h3⟩
theorem w_slices_Equal_I (a b : List Int) (hl : a.length ≤ maxL) : W P (c_slices_Equal_I F) (Done [.t 4] [] (.bool (decide (a = b))) []) (init [.lst 1 (ints a), .lst 1 (ints b)]) := by
  refine W_of ?_
  unfold maxL at hl
  simp (config := { maxSteps := 1000000 }) (disch := first | omega | (simp only [go_sem]; omega)) only [go_sem, ↓reduceIte]
  refine bran_ndec (fun h => ?_) (fun h => ?_)
  · simp (config := { maxSteps := 1000000 }) (disch := first | omega | (simp only [go_sem]; omega)) only [go_sem, ↓reduceIte]
    have : a ≠ b := fun e => h (by rw [e])
    simp [this]
  · have h' : a.length = b.length := by omega
    simp (config := { maxSteps := 1000000 }) (disch := first | omega | (simp only [go_sem]; omega)) only [go_sem, ↓reduceIte]
    refine W_loop (fun i : Nat => ⟨[(0, .lst 1 (ints a)), (1, .lst 1 (ints b)), (12, .int .i64 a.length), (13, .int .i64 i)], [], 0⟩) (fun i => i ≤ a.length ∧ a.take i = b.take i) (fun i => a.length - i) 0 ?_ ?_ ?_
    · simp (config := { maxSteps := 1000000 }) (disch := first | omega | (simp only [go_sem]; omega)) only [go_sem, ↓reduceIte]
      rfl
    · simp
    · intro i hi
      simp (config := { maxSteps := 1000000 }) (disch := first | omega | (simp only [go_sem]; omega)) only [go_sem, ↓reduceIte, c_slices_Equal_I_b9]
      refine bran_dec (fun c => ?_) (fun c => ?_)
      · simp (config := { maxSteps := 1000000 }) (disch := first | omega | (simp only [go_sem]; omega)) only [go_sem, ↓reduceIte]
        refine bran_ndec (fun d => ?_) (fun d => ?_)
        · simp (config := { maxSteps := 1000000 }) (disch := first | omega | (simp only [go_sem]; omega)) only [go_sem, ↓reduceIte]
          have : a ≠ b := fun e => d (by rw [e])
          simp [this]
        · simp (config := { maxSteps := 1000000 }) (disch := first | omega | (simp only [go_sem]; omega)) only [go_sem, ↓reduceIte]
          exact ⟨i + 1, by simp, ⟨by omega, by rw [take_gt (by omega), take_gt (by omega), hi.2, d]⟩, by omega⟩
      · simp (config := { maxSteps := 1000000 }) (disch := first | omega | (simp only [go_sem]; omega)) only [go_sem, ↓reduceIte]
        obtain rfl : i = a.length := by omega
        have := hi.2
        rw [List.take_length, List.take_of_length_le (by omega)] at this
        simp [this]
theorem w_r05_Same (hs : K_r05_SameInts P F) (a b : G) (h1 : a.n.length ≤ maxL) (h2 : a.e.length ≤ maxL) : W P (c_r05_Same F) (Done [.t 4] [] (.bool (decide (a = b))) []) (init [gD a, gD b]) := by
  refine W_of ?_
  obtain ⟨an, ae⟩ := a
  obtain ⟨bn, be⟩ := b
  simp only at h1 h2
  simp (config := { maxSteps := 1000000 }) (disch := first | omega | (simp only [go_sem]; omega)) only [go_sem, ↓reduceIte, gD]
  refine call_by (hs _ _ h1) ?_
  simp (config := { maxSteps := 1000000 }) (disch := first | omega | (simp only [go_sem]; omega)) only [go_sem, ↓reduceIte]
  refine bran_ndec (fun c => ?_) (fun c => ?_)
  · simp (config := { maxSteps := 1000000 }) (disch := first | omega | (simp only [go_sem]; omega)) only [go_sem, ↓reduceIte, c]
    simp [c]
  · subst c
    simp (config := { maxSteps := 1000000 }) (disch := first | omega | (simp only [go_sem]; omega)) only [go_sem, ↓reduceIte]
    refine bran_ndec (fun d => ?_) (fun d => ?_)
    · simp (config := { maxSteps := 1000000 }) (disch := first | omega | (simp only [go_sem]; omega)) only [go_sem, ↓reduceIte]
      have : ae ≠ be := fun e => d (by rw [e])
      simp [this]
    · have d' : ae.length = be.length := by omega
      unfold maxL at h2
      simp (config := { maxSteps := 1000000 }) (disch := first | omega | (simp only [go_sem]; omega)) only [go_sem, ↓reduceIte]
      refine W_loop (fun i : Nat => ⟨[(2, .pt 0 0), (3, .pt 1 0), (5, .int .i64 i)], [(0, .box [.lst 1 (ints an), .lst 3 (eds ae)]), (1, .box [.lst 1 (ints an), .lst 3 (eds be)])], 2⟩) (fun i => i ≤ ae.length ∧ ae.take i = be.take i) (fun i => ae.length - i) 0 ?_ ?_ ?_
      · simp (config := { maxSteps := 1000000 }) (disch := first | omega | (simp only [go_sem]; omega)) only [go_sem, ↓reduceIte]
        rfl
      · simp
      · intro i hi
        simp (config := { maxSteps := 1000000 }) (disch := first | omega | (simp only [go_sem]; omega)) only [go_sem, ↓reduceIte, c_r05_Same_b8]
        refine bran_dec (fun f => ?_) (fun f => ?_)
        · have he : (decide ((gt ae i).t = (gt be i).t) && (decide ((gt ae i).f = (gt be i).f) && decide ((gt ae i).o = (gt be i).o))) = decide (gt ae i = gt be i) := by
            rw [Bool.eq_iff_iff]; simp [eqE]
          simp (config := { maxSteps := 1000000 }) (disch := first | omega | (simp only [go_sem]; omega)) only [go_sem, ↓reduceIte, he]
          refine bran_ndec (fun d2 => ?_) (fun d2 => ?_)
          · simp (config := { maxSteps := 1000000 }) (disch := first | omega | (simp only [go_sem]; omega)) only [go_sem, ↓reduceIte]
            have : ae ≠ be := fun e => d2 (by rw [e])
            simp [this]
          · simp (config := { maxSteps := 1000000 }) (disch := first | omega | (simp only [go_sem]; omega)) only [go_sem, ↓reduceIte]
            exact ⟨i + 1, by simp, ⟨by omega, by rw [take_gt (by omega), take_gt (by omega), hi.2, d2]⟩, by omega⟩
        · simp (config := { maxSteps := 1000000 }) (disch := first | omega | (simp only [go_sem]; omega)) only [go_sem, ↓reduceIte]
          obtain rfl : i = ae.length := by omega
          have := hi.2
          rw [List.take_length, List.take_of_length_le (by omega)] at this
          simp [this]
end
end Go.Am
