/- Pullbacks: pairs, sides, and what is equal. -/
/- Pullbacks: places, comparison, injectivity. -/
/- Pullbacks: the standard pullback. -/
/- Pullbacks: Of and its reference. -/
/- Pullbacks: mediating morphisms; the example; the law PullbackEqualizer. -/
/- Pullbacks: the reference's Mediate; Check. -/
/- Pullbacks: Check and its reference; cones. -/
/- Lists of bools as data; ascending lists; parts of graphs, plain. -/
import Derived.Test.YtelmgaflhmcihaaGreatSpPa
import Derived.Test.YtelmgaflhmcihaaGreatSpPb
import Derived.Test.YtelmgaflhmcihaaGreatSpPc
import Derived.Test.YtelmgaflhmcihaaGreatSpPd
namespace Go.Am
open Go
set_option linter.unusedVariables false
set_option linter.unusedSimpArgs false
/- pullback.pairs -/
def c_pullback_pairs_r0 (F : String → Nat) : List LI := [⟨some 4, .mov (.k (.nl 2)), none⟩]
def c_pullback_pairs_r1 (F : String → Nat) : List LI := [⟨some 5, .mov (.k (.nl 2)), none⟩]
def c_pullback_pairs_r2 (F : String → Nat) : List LI := [⟨some 10, .mov (.t 0), none⟩,
  ⟨some 11, .len (.t 10), none⟩,
  ⟨some 12, .mov (.k (.int .i64 (0))), none⟩]
def c_pullback_pairs_r3 (F : String → Nat) : List LI := [⟨some 13, .bin .lss (.t 12) (.t 11), none⟩]
def c_pullback_pairs_r4 (F : String → Nat) : List LI := [⟨some 14, .mov (.t 12), none⟩,
  ⟨some 15, .iad 1 (.t 10) (.t 12), none⟩,
  ⟨some 16, .load false 1 (.t 15), none⟩,
  ⟨some 6, .mov (.t 14), none⟩,
  ⟨some 7, .mov (.t 16), none⟩]
def c_pullback_pairs_r5 (F : String → Nat) : List LI := [⟨some 17, .mov (.t 1), none⟩,
  ⟨some 18, .len (.t 17), none⟩,
  ⟨some 19, .mov (.k (.int .i64 (0))), none⟩]
def c_pullback_pairs_r6 (F : String → Nat) : List LI := [⟨some 20, .bin .lss (.t 19) (.t 18), none⟩]
def c_pullback_pairs_r7 (F : String → Nat) : List LI := [⟨some 21, .mov (.t 19), none⟩,
  ⟨some 22, .iad 1 (.t 17) (.t 19), none⟩,
  ⟨some 23, .load false 1 (.t 22), none⟩,
  ⟨some 8, .mov (.t 21), none⟩,
  ⟨some 9, .mov (.t 23), none⟩]
def c_pullback_pairs_r8 (F : String → Nat) : List LI := [⟨some 24, .mov (.t 7), none⟩,
  ⟨some 25, .mov (.t 9), none⟩,
  ⟨some 26, .bin .eql (.t 24) (.t 25), none⟩]
def c_pullback_pairs_r9 (F : String → Nat) : List LI := [⟨some 27, .mov (.t 5), none⟩,
  ⟨some 28, .mov (.t 6), none⟩,
  ⟨some 29, .mov (.t 8), none⟩,
  ⟨some 30, .build [.int .i64 (0), .int .i64 (0)] [(0, 1, .t 28), (1, 1, .t 29)], none⟩,
  ⟨some 31, .buildSl 2 16 (.agg [.int .i64 (0), .int .i64 (0)]) 1 [(0, .t 30)], none⟩,
  ⟨some 32, .app 2 16 (.t 27) (.t 31), none⟩,
  ⟨some 5, .mov (.t 32), none⟩]
def c_pullback_pairs_r10 (F : String → Nat) : List LI := [⟨some 33, .bin .add (.t 19) (.k (.int .i64 (1))), none⟩,
  ⟨some 19, .mov (.t 33), none⟩]
def c_pullback_pairs_b11 (F : String → Nat) : LC := (.seq (.reg (c_pullback_pairs_r6 F) [1, 5, 6, 7, 10, 11, 12, 17, 18, 19, 20]) (.seq (.cond (.t 20) .skip (.exit 2)) (.seq (.block 3 (.seq (.reg (c_pullback_pairs_r7 F) [1, 5, 6, 7, 8, 9, 10, 11, 12, 17, 18, 19]) (.seq (.reg (c_pullback_pairs_r8 F) [1, 5, 6, 7, 8, 10, 11, 12, 17, 18, 19, 26]) (.cond (.t 26) (.reg (c_pullback_pairs_r9 F) [1, 5, 6, 7, 10, 11, 12, 17, 18, 19]) .skip)))) (.reg (c_pullback_pairs_r10 F) [1, 5, 6, 7, 10, 11, 12, 17, 18, 19]))))
def c_pullback_pairs_r12 (F : String → Nat) : List LI := [⟨some 34, .bin .add (.t 12) (.k (.int .i64 (1))), none⟩,
  ⟨some 12, .mov (.t 34), none⟩]
def c_pullback_pairs_b13 (F : String → Nat) : LC := (.seq (.reg (c_pullback_pairs_r3 F) [1, 5, 10, 11, 12, 13]) (.seq (.cond (.t 13) .skip (.exit 0)) (.seq (.block 1 (.seq (.reg (c_pullback_pairs_r4 F) [1, 5, 6, 7, 10, 11, 12]) (.seq (.reg (c_pullback_pairs_r5 F) [1, 5, 6, 7, 10, 11, 12, 17, 18, 19]) (.block 2 (.loop [1, 5, 6, 7, 10, 11, 12, 17, 18, 19] (c_pullback_pairs_b11 F)))))) (.reg (c_pullback_pairs_r12 F) [1, 5, 10, 11, 12]))))
def c_pullback_pairs_r14 (F : String → Nat) : List LI := [⟨some 35, .mov (.t 5), none⟩,
  ⟨some 4, .mov (.t 35), none⟩]
def c_pullback_pairs (F : String → Nat) : LC := (.seq (.reg (c_pullback_pairs_r0 F) [0, 1]) (.seq (.reg (c_pullback_pairs_r1 F) [0, 1, 5]) (.seq (.seq (.reg (c_pullback_pairs_r2 F) [1, 5, 10, 11, 12]) (.block 0 (.loop [1, 5, 10, 11, 12] (c_pullback_pairs_b13 F)))) (.seq (.reg (c_pullback_pairs_r14 F) [4]) .ret))))
def h_pullback_pairs : Hints := ⟨[], fun _ => [], tab [(0, [0, 1]), (1, [0, 1, 5]), (2, [1, 5, 10, 11, 12]), (3, [1, 5, 10, 11, 12, 13]), (4, [1, 5, 6, 7, 10, 11, 12]), (5, [1, 5, 6, 7, 10, 11, 12, 17, 18, 19]), (6, [1, 5, 6, 7, 10, 11, 12, 17, 18, 19, 20]), (7, [1, 5, 6, 7, 8, 9, 10, 11, 12, 17, 18, 19]), (8, [1, 5, 6, 7, 8, 10, 11, 12, 17, 18, 19, 26]), (9, [1, 5, 6, 7, 10, 11, 12, 17, 18, 19]), (10, [1, 5, 6, 7, 10, 11, 12, 17, 18, 19]), (11, [1, 5, 10, 11, 12]), (12, [4])], tab [(3, [1, 5, 10, 11, 12]), (6, [1, 5, 6, 7, 10, 11, 12, 17, 18, 19])]⟩

/- pullback.sides -/
def c_pullback_sides_r0 (F : String → Nat) : List LI := [⟨some 2, .mov (.k (.nl 1)), none⟩,
  ⟨some 3, .mov (.k (.nl 1)), none⟩]
def c_pullback_sides_r1 (F : String → Nat) : List LI := [⟨some 4, .mov (.k (.nl 1)), none⟩,
  ⟨some 5, .mov (.k (.nl 1)), none⟩]
def c_pullback_sides_r2 (F : String → Nat) : List LI := [⟨some 8, .mov (.t 0), none⟩,
  ⟨some 9, .len (.t 8), none⟩,
  ⟨some 10, .mov (.k (.int .i64 (0))), none⟩]
def c_pullback_sides_r3 (F : String → Nat) : List LI := [⟨some 11, .bin .lss (.t 10) (.t 9), none⟩]
def c_pullback_sides_r4 (F : String → Nat) : List LI := [⟨some 12, .iad 2 (.t 8) (.t 10), none⟩,
  ⟨some 13, .load true 2 (.t 12), none⟩,
  ⟨some 7, .alloc [.int .i64 (0), .int .i64 (0)], none⟩,
  ⟨none, .store 2 (.t 7) (.t 13), none⟩]
def c_pullback_sides_r5 (F : String → Nat) : List LI := [⟨some 14, .mov (.t 4), none⟩,
  ⟨some 15, .fad 0 (.t 7), none⟩,
  ⟨some 16, .load false 1 (.t 15), none⟩,
  ⟨some 17, .buildSl 1 8 (.int .i64 (0)) 1 [(0, .t 16)], none⟩,
  ⟨some 18, .app 1 8 (.t 14) (.t 17), none⟩,
  ⟨some 19, .mov (.t 5), none⟩,
  ⟨some 20, .fad 1 (.t 7), none⟩,
  ⟨some 21, .load false 1 (.t 20), none⟩,
  ⟨some 22, .buildSl 1 8 (.int .i64 (0)) 1 [(0, .t 21)], none⟩,
  ⟨some 23, .app 1 8 (.t 19) (.t 22), none⟩,
  ⟨some 4, .mov (.t 18), none⟩,
  ⟨some 5, .mov (.t 23), none⟩]
def c_pullback_sides_r6 (F : String → Nat) : List LI := [⟨some 24, .bin .add (.t 10) (.k (.int .i64 (1))), none⟩,
  ⟨some 10, .mov (.t 24), none⟩]
def c_pullback_sides_b7 (F : String → Nat) : LC := (.seq (.reg (c_pullback_sides_r3 F) [4, 5, 8, 9, 10, 11]) (.seq (.cond (.t 11) .skip (.exit 0)) (.seq (.block 1 (.seq (.reg (c_pullback_sides_r4 F) [4, 5, 7, 8, 9, 10]) (.dreg [(2, none, [], true), (3, none, [], true), (4, none, [], true), (7, (some 64), [3, 4], false), (8, (some 192), [2, 3, 4], false)] (c_pullback_sides_r5 F) [4, 5, 8, 9, 10]))) (.reg (c_pullback_sides_r6 F) [4, 5, 8, 9, 10]))))
def c_pullback_sides_r8 (F : String → Nat) : List LI := [⟨some 25, .mov (.t 4), none⟩,
  ⟨some 26, .mov (.t 5), none⟩,
  ⟨some 2, .mov (.t 25), none⟩,
  ⟨some 3, .mov (.t 26), none⟩]
def c_pullback_sides (F : String → Nat) : LC := (.seq (.reg (c_pullback_sides_r0 F) [0]) (.seq (.reg (c_pullback_sides_r1 F) [0, 4, 5]) (.seq (.seq (.reg (c_pullback_sides_r2 F) [4, 5, 8, 9, 10]) (.block 0 (.loop [4, 5, 8, 9, 10] (c_pullback_sides_b7 F)))) (.seq (.reg (c_pullback_sides_r8 F) [2, 3]) .ret))))
def h_pullback_sides : Hints := ⟨[], fun _ => [], tab [(0, [0]), (1, [0, 4, 5]), (2, [4, 5, 8, 9, 10]), (3, [4, 5, 8, 9, 10, 11]), (4, [4, 5, 7, 8, 9, 10]), (5, [4, 5, 8, 9, 10]), (6, [4, 5, 8, 9, 10]), (7, [2, 3])], tab [(3, [4, 5, 8, 9, 10])]⟩

/- slices.Index.apiPair -/
def c_slices_Index_apiPair_r0 (F : String → Nat) : List LI := [⟨some 3, .bx (.t 1), none⟩,
  ⟨some 4, .mov (.k (.int .i64 (0))), none⟩]
def c_slices_Index_apiPair_r1 (F : String → Nat) : List LI := [⟨some 6, .mov (.t 0), none⟩,
  ⟨some 7, .len (.t 6), none⟩,
  ⟨some 8, .mov (.k (.int .i64 (0))), none⟩]
def c_slices_Index_apiPair_r2 (F : String → Nat) : List LI := [⟨some 9, .bin .lss (.t 8) (.t 7), none⟩]
def c_slices_Index_apiPair_r3 (F : String → Nat) : List LI := [⟨some 10, .mov (.t 8), none⟩,
  ⟨some 5, .mov (.t 10), none⟩]
def c_slices_Index_apiPair_r4 (F : String → Nat) : List LI := [⟨some 11, .load true 2 (.t 3), none⟩,
  ⟨some 12, .mov (.t 0), none⟩,
  ⟨some 13, .mov (.t 5), none⟩,
  ⟨some 14, .iad 2 (.t 12) (.t 13), none⟩,
  ⟨some 15, .load true 2 (.t 14), none⟩,
  ⟨some 16, .eqA 2 false (.t 11) (.t 15), none⟩]
def c_slices_Index_apiPair_r5 (F : String → Nat) : List LI := [⟨some 17, .mov (.t 5), none⟩,
  ⟨some 4, .mov (.t 17), none⟩]
def c_slices_Index_apiPair_r6 (F : String → Nat) : List LI := [⟨some 18, .bin .add (.t 8) (.k (.int .i64 (1))), none⟩,
  ⟨some 8, .mov (.t 18), none⟩]
def c_slices_Index_apiPair_b7 (F : String → Nat) : LC := (.seq (.reg (c_slices_Index_apiPair_r2 F) [0, 3, 7, 8, 9]) (.seq (.cond (.t 9) .skip (.exit 0)) (.seq (.block 1 (.seq (.reg (c_slices_Index_apiPair_r3 F) [0, 3, 5, 7, 8]) (.seq (.dreg [] (c_slices_Index_apiPair_r4 F) [0, 3, 5, 7, 8, 16]) (.cond (.t 16) (.seq (.reg (c_slices_Index_apiPair_r5 F) [4]) .ret) .skip)))) (.reg (c_slices_Index_apiPair_r6 F) [0, 3, 7, 8]))))
def c_slices_Index_apiPair_r8 (F : String → Nat) : List LI := [⟨some 4, .mov (.k (.int .i64 (-1))), none⟩]
def c_slices_Index_apiPair (F : String → Nat) : LC := (.seq (.reg (c_slices_Index_apiPair_r0 F) [0, 3]) (.seq (.seq (.reg (c_slices_Index_apiPair_r1 F) [0, 3, 7, 8]) (.block 0 (.loop [0, 3, 7, 8] (c_slices_Index_apiPair_b7 F)))) (.seq (.reg (c_slices_Index_apiPair_r8 F) [4]) .ret)))
def h_slices_Index_apiPair : Hints := ⟨[], fun _ => [], tab [(0, [0, 3]), (1, [0, 3, 7, 8]), (2, [0, 3, 7, 8, 9]), (3, [0, 3, 5, 7, 8]), (4, [0, 3, 5, 7, 8, 16]), (5, [4]), (6, [0, 3, 7, 8]), (7, [4])], tab [(2, [0, 3, 7, 8])]⟩

attribute [go_sem] c_pullback_pairs_r0 c_pullback_pairs_r1 c_pullback_pairs_r2 c_pullback_pairs_r3 c_pullback_pairs_r4 c_pullback_pairs_r5 c_pullback_pairs_r6 c_pullback_pairs_r7 c_pullback_pairs_r8 c_pullback_pairs_r9 c_pullback_pairs_r10 c_pullback_pairs_r12 c_pullback_pairs_r14 c_pullback_pairs c_pullback_sides_r0 c_pullback_sides_r1 c_pullback_sides_r2 c_pullback_sides_r3 c_pullback_sides_r4 c_pullback_sides_r5 c_pullback_sides_r6 c_pullback_sides_r8 c_pullback_sides c_slices_Index_apiPair_r0 c_slices_Index_apiPair_r1 c_slices_Index_apiPair_r2 c_slices_Index_apiPair_r3 c_slices_Index_apiPair_r4 c_slices_Index_apiPair_r5 c_slices_Index_apiPair_r6 c_slices_Index_apiPair_r8 c_slices_Index_apiPair
attribute [go_sem low] prs_atn
def rowP (f g : List Int) (i k : Nat) : List Pr := ((List.range k).filter fun k : Nat => decide (gt f i = gt g k)).map fun k : Nat => ⟨i, k⟩
def pairsI (f g : List Int) (i : Nat) : List Pr := (List.range i).flatMap fun i => rowP f g i g.length
def pairsL (f g : List Int) : List Pr := pairsI f g f.length
theorem rowP_zero (f g : List Int) (i : Nat) : rowP f g i 0 = [] := rfl
theorem rowP_succ (f g : List Int) (i k : Nat) : rowP f g i (k + 1) = if gt f i = gt g k then rowP f g i k ++ [⟨i, k⟩] else rowP f g i k := by
  simp only [rowP, List.range_succ, List.filter_append, List.filter_cons, List.filter_nil, List.map_append, decide_eq_true_eq]
  split <;> simp
theorem rowP_len (f g : List Int) (i k : Nat) : (rowP f g i k).length ≤ k := by
  simp only [rowP, List.length_map]
  exact Nat.le_trans (List.length_filter_le _ _) (by simp)
theorem pairsI_zero (f g : List Int) : pairsI f g 0 = [] := rfl
theorem pairsI_succ (f g : List Int) (i : Nat) : pairsI f g (i + 1) = pairsI f g i ++ rowP f g i g.length := by simp [pairsI, List.range_succ]
theorem pairsI_len (f g : List Int) (i : Nat) : (pairsI f g i).length ≤ i * g.length := by
  induction i with
  | zero => simp [pairsI_zero]
  | succ i ih => rw [pairsI_succ, List.length_append, Nat.succ_mul]; have := rowP_len f g i g.length; omega
def accP (f g : List Int) (i k : Nat) : List Pr := pairsI f g i ++ rowP f g i k
theorem accP_zero (f g : List Int) (i : Nat) : accP f g i 0 = pairsI f g i := by simp [accP, rowP_zero]
theorem accP_succ (f g : List Int) (i k : Nat) : accP f g i (k + 1) = if gt f i = gt g k then accP f g i k ++ [⟨i, k⟩] else accP f g i k := by
  simp only [accP, rowP_succ]; split <;> simp
theorem accP_end (f g : List Int) (i : Nat) : accP f g i g.length = pairsI f g (i + 1) := by simp [accP, pairsI_succ]
theorem accP_len {f g : List Int} (hf : f.length ≤ 10000) (hg : g.length ≤ 10000) {i k : Nat} (h1 : i < f.length) (h2 : k ≤ g.length) : (accP f g i k).length ≤ 100000000 := by
  unfold accP
  rw [List.length_append]
  have a1 := pairsI_len f g i
  have a2 := rowP_len f g i k
  have a3 : i * g.length ≤ 9999 * 10000 := Nat.mul_le_mul (by omega) hg
  omega
def asA (l : List Pr) : List Int := l.map (·.a)
def asB (l : List Pr) : List Int := l.map (·.b)
section
variable (P : Program) (F : String → Nat)
def K_pullback_pairs : Prop := ∀ f g : List Int, f.length ≤ 10000 → g.length ≤ 10000 → FC P (F "pullback.pairs") [.lst 1 (ints f), .lst 1 (ints g)] (.arr 2 (prs (pairsL f g))) []
def K_pullback_sides : Prop := ∀ l : List Pr, l.length ≤ 10000 → FC P (F "pullback.sides") [.lst 2 (prs l)] (.tup [.arr 1 (ints (asA l)), .arr 1 (ints (asB l))]) []
def K_slices_Index_apiPair : Prop := ∀ (l : List Pr) (a b : Int), l.length ≤ maxL → FC P (F "slices.Index.apiPair") [.lst 2 (prs l), .agg [.int .i64 a, .int .i64 b]] (.int .i64 (idx (fun p => decide (p = ⟨a, b⟩)) l 0)) []
end
section
variable {P : Program} {F : String → Nat} {α : Type}
theorem w_pullback_pairs (f g : List Int) (hf : f.length ≤ 10000) (hg : g.length ≤ 10000) : W P (c_pullback_pairs F) (Done [.t 4] [] (.arr 2 (prs (pairsL f g))) []) (init [.lst 1 (ints f), .lst 1 (ints g)]) := by
  refine W_of ?_
  simp (config := { maxSteps := 1000000 }) (disch := first | omega | (simp only [go_sem]; omega)) only [go_sem, ↓reduceIte]
  refine W_loop (fun i : Nat => ⟨[(1, .lst 1 (ints g)), (5, .sl 0 0 (pairsI f g i).length), (10, .lst 1 (ints f)), (11, .int .i64 f.length), (12, .int .i64 i)], [(0, .arr 2 (prs (pairsI f g i)))], 1⟩) (fun i => i ≤ f.length) (fun i => f.length - i) 0 ?_ ?_ ?_
  · simp (config := { maxSteps := 1000000 }) (disch := first | omega | (simp only [go_sem]; omega)) only [go_sem, ↓reduceIte, pairsI_zero]
    rfl
  · simp
  · intro i hi
    simp (config := { maxSteps := 1000000 }) (disch := first | omega | (simp only [go_sem]; omega)) only [go_sem, ↓reduceIte, c_pullback_pairs_b13]
    refine bran_dec (fun c => ?_) (fun c => ?_)
    · simp (config := { maxSteps := 1000000 }) (disch := first | omega | (simp only [go_sem]; omega)) only [go_sem, ↓reduceIte]
      refine W_loop (fun k : Nat => ⟨[(1, .lst 1 (ints g)), (5, .sl 0 0 (accP f g i k).length), (6, .int .i64 i), (7, .int .i64 (gt f i)), (10, .lst 1 (ints f)), (11, .int .i64 f.length), (12, .int .i64 i), (17, .lst 1 (ints g)), (18, .int .i64 g.length), (19, .int .i64 k)],
        [(0, .arr 2 (prs (accP f g i k)))], 1⟩) (fun k => k ≤ g.length) (fun k => g.length - k) 0 ?_ ?_ ?_
      · simp (config := { maxSteps := 1000000 }) (disch := first | omega | (simp only [go_sem]; omega)) only [go_sem, ↓reduceIte, accP_zero]
        rfl
      · simp
      · intro k hk
        have b1 := accP_len hf hg (i := i) (k := k) (by omega) (by omega)
        simp (config := { maxSteps := 1000000 }) (disch := first | omega | (simp only [go_sem]; omega)) only [go_sem, ↓reduceIte, c_pullback_pairs_b11]
        refine bran_dec (fun d => ?_) (fun d => ?_)
        · have hs := accP_succ f g i k
          simp (config := { maxSteps := 1000000 }) (disch := first | omega | (simp only [go_sem]; omega)) only [go_sem, ↓reduceIte]
          refine bran_dec (fun e => ?_) (fun e => ?_)
          · rw [if_pos e] at hs
            simp (config := { maxSteps := 1000000 }) (disch := first | omega | (simp only [go_sem]; omega)) only [go_sem, ↓reduceIte]
            exact ⟨k + 1, by simp [hs], by omega, by omega⟩
          · rw [if_neg e] at hs
            simp (config := { maxSteps := 1000000 }) (disch := first | omega | (simp only [go_sem]; omega)) only [go_sem, ↓reduceIte]
            exact ⟨k + 1, by simp [hs], by omega, by omega⟩
        · obtain rfl : k = g.length := by omega
          simp (config := { maxSteps := 1000000 }) (disch := first | omega | (simp only [go_sem]; omega)) only [go_sem, ↓reduceIte]
          exact ⟨i + 1, by simp [accP_end], by omega, by omega⟩
    · obtain rfl : i = f.length := by omega
      simp (config := { maxSteps := 1000000 }) (disch := first | omega | (simp only [go_sem]; omega)) only [go_sem, ↓reduceIte]
      rfl
theorem asA_take {l : List Pr} {i : Nat} (h : i < l.length) : asA (l.take (i + 1)) = asA (l.take i) ++ [(gt l i).a] := by rw [take_gt h]; simp [asA]
theorem asB_take {l : List Pr} {i : Nat} (h : i < l.length) : asB (l.take (i + 1)) = asB (l.take i) ++ [(gt l i).b] := by rw [take_gt h]; simp [asB]
theorem asA_len {l : List Pr} {i : Nat} (h : i ≤ l.length) : (asA (l.take i)).length = i := by simp [asA]; omega
theorem asB_len {l : List Pr} {i : Nat} (h : i ≤ l.length) : (asB (l.take i)).length = i := by simp [asB]; omega
theorem w_pullback_sides (l : List Pr) (hl : l.length ≤ 10000) : W P (c_pullback_sides F) (Done [.t 2, .t 3] [] (.tup [.arr 1 (ints (asA l)), .arr 1 (ints (asB l))]) []) (init [.lst 2 (prs l)]) := by
  refine W_of ?_
  simp (config := { maxSteps := 1000000 }) (disch := first | omega | (simp only [go_sem]; omega)) only [go_sem, ↓reduceIte]
  refine W_loop (fun i : Nat => ⟨[(4, .sl 0 0 i), (5, .sl 1 0 i), (8, .lst 2 (prs l)), (9, .int .i64 l.length), (10, .int .i64 i)], [(0, .arr 1 (ints (asA (l.take i)))), (1, .arr 1 (ints (asB (l.take i))))], 2⟩) (fun i => i ≤ l.length) (fun i => l.length - i) 0 ?_ ?_ ?_
  · simp (config := { maxSteps := 1000000 }) (disch := first | omega | (simp only [go_sem]; omega)) only [go_sem, ↓reduceIte]
    rfl
  · simp
  · intro i hi
    have e1 := asA_len hi
    have e2 := asB_len hi
    simp (config := { maxSteps := 1000000 }) (disch := first | omega | (simp only [go_sem]; omega)) only [go_sem, ↓reduceIte, c_pullback_sides_b7]
    refine bran_dec (fun c => ?_) (fun c => ?_)
    · simp (config := { maxSteps := 1000000 }) (disch := first | omega | (simp only [go_sem]; omega)) only [go_sem, ↓reduceIte, e1, e2]
      exact ⟨i + 1, by simp [asA_take (show i < l.length by omega), asB_take (show i < l.length by omega)], by omega, by omega⟩
    · simp (config := { maxSteps := 1000000 }) (disch := first | omega | (simp only [go_sem]; omega)) only [go_sem, ↓reduceIte, e1, e2]
      rw [List.take_of_length_le (by omega)]
end
end Go.Am
namespace Go.Am
open Go
set_option linter.unusedVariables false
set_option linter.unusedSimpArgs false
section
variable {P : Program} {F : String → Nat} {α : Type}
theorem w_slices_Index_apiPair (l : List Pr) (a b : Int) (hl : l.length ≤ maxL) : W P (c_slices_Index_apiPair F) (Done [.t 4] [] (.int .i64 (idx (fun p => decide (p = ⟨a, b⟩)) l 0)) []) (init [.lst 2 (prs l), .agg [.int .i64 a, .int .i64 b]]) := by
  refine W_of ?_
  unfold maxL at hl
  simp (config := { maxSteps := 1000000 }) (disch := first | omega | (simp only [go_sem]; omega)) only [go_sem, ↓reduceIte]
  refine W_loop (fun i : Nat => ⟨[(0, .lst 2 (prs l)), (3, .pt 0 0), (7, .int .i64 l.length), (8, .int .i64 i)], [(0, .box [.int .i64 a, .int .i64 b])], 1⟩) (fun i => i ≤ l.length ∧ idx (fun p => decide (p = ⟨a, b⟩)) l 0 = idx (fun p => decide (p = ⟨a, b⟩)) (l.drop i) i) (fun i => l.length - i) 0 ?_ ?_ ?_
  · simp (config := { maxSteps := 1000000 }) (disch := first | omega | (simp only [go_sem]; omega)) only [go_sem, ↓reduceIte]
    rfl
  · simp
  · rintro i ⟨hi, he⟩
    simp (config := { maxSteps := 1000000 }) (disch := first | omega | (simp only [go_sem]; omega)) only [go_sem, ↓reduceIte, c_slices_Index_apiPair_b7]
    refine bran_dec (fun h => ?_) (fun h => ?_)
    · have hd := idx_drop (fun p => decide (p = ⟨a, b⟩)) l i (by omega)
      have hq : (decide (a = (gt l i).a) && decide (b = (gt l i).b)) = decide (gt l i = ⟨a, b⟩) := by
        rw [Bool.eq_iff_iff]; simp [eqPr]; constructor <;> rintro ⟨h, k⟩ <;> exact ⟨h.symm, k.symm⟩
      simp (config := { maxSteps := 1000000 }) (disch := first | omega | (simp only [go_sem]; omega)) only [go_sem, ↓reduceIte, hq]
      refine bran_dec (fun h2 => ?_) (fun h2 => ?_)
      · simp (config := { maxSteps := 1000000 }) (disch := first | omega | (simp only [go_sem]; omega)) only [go_sem, ↓reduceIte]
        rw [he, hd, if_pos (by simpa using h2)]
      · simp (config := { maxSteps := 1000000 }) (disch := first | omega | (simp only [go_sem]; omega)) only [go_sem, ↓reduceIte]
        exact ⟨i + 1, by simp, ⟨by omega, by rw [he, hd, if_neg (by simpa using h2)]⟩, by omega⟩
    · simp (config := { maxSteps := 1000000 }) (disch := first | omega | (simp only [go_sem]; omega)) only [go_sem, ↓reduceIte]
      rw [he, List.drop_of_length_le (by omega)]
      rfl
end
end Go.Am
namespace Go.Am
open Go
set_option linter.unusedVariables false
set_option linter.unusedSimpArgs false
/- pullback.given -/
def c_pullback_given_r0 (F : String → Nat) : List LI := [⟨some 1, .bx (.t 0), none⟩,
  ⟨some 2, .mov (.k (.int .i64 (0))), none⟩]
def c_pullback_given_r1 (F : String → Nat) : List LI := [⟨some 4, .fad 0 (.t 1), none⟩,
  ⟨some 5, .load true 2 (.t 4), none⟩,
  ⟨some 6, .fad 4 (.t 1), none⟩,
  ⟨some 7, .load true 2 (.t 6), none⟩,
  ⟨some 8, .fad 6 (.t 1), none⟩,
  ⟨some 9, .load true 2 (.t 8), none⟩,
  ⟨some 10, .call (F "morphism.Valid") [.t 5, .t 7, .t 9] [], none⟩,
  ⟨some 3, .mov (.t 10), none⟩]
def c_pullback_given_r2 (F : String → Nat) : List LI := [⟨some 11, .mov (.t 3), none⟩,
  ⟨some 12, .bin .neq (.t 11) (.k (.int .i64 (0))), none⟩]
def c_pullback_given_r3 (F : String → Nat) : List LI := [⟨some 13, .mov (.t 3), none⟩,
  ⟨some 2, .mov (.t 13), none⟩]
def c_pullback_given_r4 (F : String → Nat) : List LI := [⟨some 14, .fad 2 (.t 1), none⟩,
  ⟨some 15, .load true 2 (.t 14), none⟩,
  ⟨some 16, .fad 4 (.t 1), none⟩,
  ⟨some 17, .load true 2 (.t 16), none⟩,
  ⟨some 18, .fad 8 (.t 1), none⟩,
  ⟨some 19, .load true 2 (.t 18), none⟩,
  ⟨some 20, .call (F "morphism.Valid") [.t 15, .t 17, .t 19] [], none⟩,
  ⟨some 2, .mov (.t 20), none⟩]
def c_pullback_given (F : String → Nat) : LC := (.seq (.reg (c_pullback_given_r0 F) [1]) (.seq (.seq (.reg (c_pullback_given_r1 F) [1, 3]) (.seq (.reg (c_pullback_given_r2 F) [1, 3, 12]) (.cond (.t 12) (.seq (.reg (c_pullback_given_r3 F) [2]) .ret) .skip))) (.seq (.reg (c_pullback_given_r4 F) [2]) .ret)))
def h_pullback_given : Hints := ⟨[], fun _ => [], tab [(0, [1]), (1, [1, 3]), (2, [1, 3, 12]), (3, [2]), (4, [2])], tab []⟩

/- pullback.of -/
def c_pullback_of_r0 (F : String → Nat) : List LI := [⟨some 1, .bx (.t 0), none⟩,
  ⟨some 2, .alloc [.nl 2, .nl 2, .nl 1, .nl 3], none⟩,
  ⟨some 3, .mov (.k (.int .i64 (0))), none⟩]
def c_pullback_of_r1 (F : String → Nat) : List LI := [⟨some 12, .load true 10 (.t 1), none⟩,
  ⟨some 13, .call (F "pullback.given") [.t 12] [], none⟩,
  ⟨some 4, .mov (.t 13), none⟩]
def c_pullback_of_r2 (F : String → Nat) : List LI := [⟨some 14, .mov (.t 4), none⟩,
  ⟨some 15, .bin .neq (.t 14) (.k (.int .i64 (0))), none⟩]
def c_pullback_of_r3 (F : String → Nat) : List LI := [⟨some 16, .build [.nl 2, .nl 2, .nl 1, .nl 3] [], none⟩,
  ⟨some 17, .mov (.t 4), none⟩,
  ⟨none, .store 4 (.t 2) (.t 16), none⟩,
  ⟨some 3, .mov (.t 17), none⟩]
def c_pullback_of_r4 (F : String → Nat) : List LI := [⟨some 18, .fad 6 (.t 1), none⟩,
  ⟨some 19, .fad 0 (.t 18), none⟩,
  ⟨some 20, .load false 1 (.t 19), none⟩,
  ⟨some 21, .fad 8 (.t 1), none⟩,
  ⟨some 22, .fad 0 (.t 21), none⟩,
  ⟨some 23, .load false 1 (.t 22), none⟩,
  ⟨some 24, .call (F "pullback.pairs") [.t 20, .t 23] [], none⟩,
  ⟨some 25, .fad 6 (.t 1), none⟩,
  ⟨some 26, .fad 1 (.t 25), none⟩,
  ⟨some 27, .load false 1 (.t 26), none⟩,
  ⟨some 28, .fad 8 (.t 1), none⟩,
  ⟨some 29, .fad 1 (.t 28), none⟩,
  ⟨some 30, .load false 1 (.t 29), none⟩,
  ⟨some 31, .call (F "pullback.pairs") [.t 27, .t 30] [], none⟩,
  ⟨some 32, .build [.nl 2, .nl 2, .nl 1, .nl 3] [(0, 1, .t 24), (1, 1, .t 31)], none⟩,
  ⟨some 5, .alloc [.nl 2, .nl 2, .nl 1, .nl 3], none⟩,
  ⟨none, .store 4 (.t 5) (.t 32), none⟩]
def c_pullback_of_r5 (F : String → Nat) : List LI := [⟨some 33, .fad 0 (.t 5), none⟩,
  ⟨some 34, .load false 1 (.t 33), none⟩,
  ⟨some 35, .len (.t 34), none⟩,
  ⟨some 36, .bin .gtr (.t 35) (.k (.int .i64 (40))), none⟩,
  ⟨some 37, .mov (.t 36), none⟩,
  ⟨some 38, .fad 1 (.t 5), some (37, false)⟩,
  ⟨some 39, .load false 1 (.t 38), some (37, false)⟩,
  ⟨some 40, .len (.t 39), some (37, false)⟩,
  ⟨some 41, .bin .gtr (.t 40) (.k (.int .i64 (80))), some (37, false)⟩,
  ⟨some 42, .pick (.t 37) (.k (.bool true)) (.t 41), none⟩]
def c_pullback_of_r6 (F : String → Nat) : List LI := [⟨some 43, .build [.nl 2, .nl 2, .nl 1, .nl 3] [], none⟩,
  ⟨none, .store 4 (.t 2) (.t 43), none⟩,
  ⟨some 3, .mov (.k (.int .i64 (3))), none⟩]
def c_pullback_of_r7 (F : String → Nat) : List LI := [⟨some 44, .fad 0 (.t 5), none⟩,
  ⟨some 45, .load false 1 (.t 44), none⟩,
  ⟨some 46, .len (.t 45), none⟩,
  ⟨some 47, .mov (.k (.int .i64 (0))), none⟩]
def c_pullback_of_r8 (F : String → Nat) : List LI := [⟨some 48, .bin .lss (.t 47) (.t 46), none⟩]
def c_pullback_of_r9 (F : String → Nat) : List LI := [⟨some 49, .iad 2 (.t 45) (.t 47), none⟩,
  ⟨some 50, .load true 2 (.t 49), none⟩,
  ⟨some 7, .alloc [.int .i64 (0), .int .i64 (0)], none⟩,
  ⟨none, .store 2 (.t 7) (.t 50), none⟩]
def c_pullback_of_r10 (F : String → Nat) : List LI := [⟨some 51, .fad 2 (.t 5), none⟩,
  ⟨some 52, .fad 0 (.t 51), none⟩,
  ⟨some 53, .load false 1 (.t 52), none⟩,
  ⟨some 54, .fad 0 (.t 1), none⟩,
  ⟨some 55, .fad 0 (.t 54), none⟩,
  ⟨some 56, .load false 1 (.t 55), none⟩,
  ⟨some 57, .fad 0 (.t 7), none⟩,
  ⟨some 58, .load false 1 (.t 57), none⟩,
  ⟨some 59, .iad 1 (.t 56) (.t 58), none⟩,
  ⟨some 60, .load false 1 (.t 59), none⟩,
  ⟨some 61, .buildSl 1 8 (.int .i64 (0)) 1 [(0, .t 60)], none⟩,
  ⟨some 62, .app 1 8 (.t 53) (.t 61), none⟩,
  ⟨some 63, .fad 2 (.t 5), none⟩,
  ⟨some 64, .fad 0 (.t 63), none⟩,
  ⟨none, .store 1 (.t 64) (.t 62), none⟩]
def c_pullback_of_r11 (F : String → Nat) : List LI := [⟨some 65, .bin .add (.t 47) (.k (.int .i64 (1))), none⟩,
  ⟨some 47, .mov (.t 65), none⟩]
def c_pullback_of_b12 (F : String → Nat) : LC := (.seq (.reg (c_pullback_of_r8 F) [1, 2, 5, 45, 46, 47, 48]) (.seq (.cond (.t 48) .skip (.exit 0)) (.seq (.block 1 (.seq (.reg (c_pullback_of_r9 F) [1, 2, 5, 7, 45, 46, 47]) (.dreg [(2, none, [], true), (10, none, [2], false)] (c_pullback_of_r10 F) [1, 2, 5, 45, 46, 47]))) (.reg (c_pullback_of_r11 F) [1, 2, 5, 45, 46, 47]))))
def c_pullback_of_r13 (F : String → Nat) : List LI := [⟨some 66, .fad 1 (.t 5), none⟩,
  ⟨some 67, .load false 1 (.t 66), none⟩,
  ⟨some 68, .len (.t 67), none⟩,
  ⟨some 69, .mov (.k (.int .i64 (0))), none⟩]
def c_pullback_of_r14 (F : String → Nat) : List LI := [⟨some 70, .bin .lss (.t 69) (.t 68), none⟩]
def c_pullback_of_r15 (F : String → Nat) : List LI := [⟨some 71, .iad 2 (.t 67) (.t 69), none⟩,
  ⟨some 72, .load true 2 (.t 71), none⟩,
  ⟨some 9, .alloc [.int .i64 (0), .int .i64 (0)], none⟩,
  ⟨none, .store 2 (.t 9) (.t 72), none⟩]
def c_pullback_of_r16 (F : String → Nat) : List LI := [⟨some 73, .fad 0 (.t 1), none⟩,
  ⟨some 74, .fad 1 (.t 73), none⟩,
  ⟨some 75, .load false 1 (.t 74), none⟩,
  ⟨some 76, .fad 0 (.t 9), none⟩,
  ⟨some 77, .load false 1 (.t 76), none⟩,
  ⟨some 78, .iad 3 (.t 75) (.t 77), none⟩,
  ⟨some 79, .load true 3 (.t 78), none⟩,
  ⟨some 80, .fad 2 (.t 1), none⟩,
  ⟨some 81, .fad 1 (.t 80), none⟩,
  ⟨some 82, .load false 1 (.t 81), none⟩,
  ⟨some 83, .fad 1 (.t 9), none⟩,
  ⟨some 84, .load false 1 (.t 83), none⟩,
  ⟨some 85, .iad 3 (.t 82) (.t 84), none⟩,
  ⟨some 86, .load true 3 (.t 85), none⟩,
  ⟨some 10, .alloc [.int .i64 (0), .int .i64 (0), .int .i64 (0)], none⟩,
  ⟨some 11, .alloc [.int .i64 (0), .int .i64 (0), .int .i64 (0)], none⟩,
  ⟨none, .store 3 (.t 10) (.t 79), none⟩,
  ⟨none, .store 3 (.t 11) (.t 86), none⟩]
def c_pullback_of_r17 (F : String → Nat) : List LI := [⟨some 87, .fad 2 (.t 5), none⟩,
  ⟨some 88, .fad 1 (.t 87), none⟩,
  ⟨some 89, .load false 1 (.t 88), none⟩,
  ⟨some 90, .fad 0 (.t 10), none⟩,
  ⟨some 91, .load false 1 (.t 90), none⟩,
  ⟨some 92, .fad 0 (.t 5), none⟩,
  ⟨some 93, .load false 1 (.t 92), none⟩,
  ⟨some 94, .fad 1 (.t 10), none⟩,
  ⟨some 95, .load false 1 (.t 94), none⟩,
  ⟨some 96, .fad 1 (.t 11), none⟩,
  ⟨some 97, .load false 1 (.t 96), none⟩,
  ⟨some 98, .build [.int .i64 (0), .int .i64 (0)] [(0, 1, .t 95), (1, 1, .t 97)], none⟩,
  ⟨some 99, .call (F "slices.Index.apiPair") [.t 93, .t 98] [], none⟩,
  ⟨some 100, .fad 0 (.t 5), none⟩,
  ⟨some 101, .load false 1 (.t 100), none⟩,
  ⟨some 102, .fad 2 (.t 10), none⟩,
  ⟨some 103, .load false 1 (.t 102), none⟩,
  ⟨some 104, .fad 2 (.t 11), none⟩,
  ⟨some 105, .load false 1 (.t 104), none⟩,
  ⟨some 106, .build [.int .i64 (0), .int .i64 (0)] [(0, 1, .t 103), (1, 1, .t 105)], none⟩,
  ⟨some 107, .call (F "slices.Index.apiPair") [.t 101, .t 106] [], none⟩,
  ⟨some 108, .build [.int .i64 (0), .int .i64 (0), .int .i64 (0)] [(0, 1, .t 91), (1, 1, .t 99), (2, 1, .t 107)], none⟩,
  ⟨some 109, .buildSl 3 24 (.agg [.int .i64 (0), .int .i64 (0), .int .i64 (0)]) 1 [(0, .t 108)], none⟩,
  ⟨some 110, .app 3 24 (.t 89) (.t 109), none⟩,
  ⟨some 111, .fad 2 (.t 5), none⟩,
  ⟨some 112, .fad 1 (.t 111), none⟩,
  ⟨none, .store 1 (.t 112) (.t 110), none⟩]
def c_pullback_of_r18 (F : String → Nat) : List LI := [⟨some 113, .bin .add (.t 69) (.k (.int .i64 (1))), none⟩,
  ⟨some 69, .mov (.t 113), none⟩]
def c_pullback_of_b19 (F : String → Nat) : LC := (.seq (.reg (c_pullback_of_r14 F) [1, 2, 5, 67, 68, 69, 70]) (.seq (.cond (.t 70) .skip (.exit 2)) (.seq (.block 3 (.seq (.reg (c_pullback_of_r15 F) [1, 2, 5, 9, 67, 68, 69]) (.seq (.dreg [(9, none, [], true), (11, none, [], true), (12, none, [], true), (13, none, [], true), (16, none, [9, 11, 12, 13], false)] (c_pullback_of_r16 F) [1, 2, 5, 10, 11, 67, 68, 69]) (.dreg [(2, none, [], true), (4, none, [], true), (12, none, [2, 4], true), (14, (some 8192), [12], false), (16, (some 32768), [12], false), (18, (some 131072), [12], false), (20, none, [2, 4], false), (22, none, [2], false)] (c_pullback_of_r17 F) [1, 2, 5, 67, 68, 69])))) (.reg (c_pullback_of_r18 F) [1, 2, 5, 67, 68, 69]))))
def c_pullback_of_r20 (F : String → Nat) : List LI := [⟨some 114, .load true 4 (.t 5), none⟩,
  ⟨none, .store 4 (.t 2) (.t 114), none⟩,
  ⟨some 3, .mov (.k (.int .i64 (0))), none⟩]
def c_pullback_of (F : String → Nat) : LC := (.seq (.reg (c_pullback_of_r0 F) [1, 2]) (.seq (.seq (.reg (c_pullback_of_r1 F) [1, 2, 4]) (.seq (.reg (c_pullback_of_r2 F) [1, 2, 4, 15]) (.cond (.t 15) (.seq (.reg (c_pullback_of_r3 F) [2, 3]) .ret) .skip))) (.seq (.dreg [(6, none, [], true), (9, (some 384), [6], false), (12, (some 3072), [6], false)] (c_pullback_of_r4 F) [1, 2, 5]) (.seq (.seq (.reg (c_pullback_of_r5 F) [1, 2, 5, 42]) (.cond (.t 42) (.seq (.reg (c_pullback_of_r6 F) [2, 3]) .ret) .skip)) (.seq (.seq (.reg (c_pullback_of_r7 F) [1, 2, 5, 45, 46, 47]) (.block 0 (.loop [1, 2, 5, 45, 46, 47] (c_pullback_of_b12 F)))) (.seq (.seq (.reg (c_pullback_of_r13 F) [1, 2, 5, 67, 68, 69]) (.block 2 (.loop [1, 2, 5, 67, 68, 69] (c_pullback_of_b19 F)))) (.seq (.reg (c_pullback_of_r20 F) [2, 3]) .ret)))))))
def h_pullback_of : Hints := ⟨[], fun _ => [], tab [(0, [1, 2]), (1, [1, 2, 4]), (2, [1, 2, 4, 15]), (3, [2, 3]), (4, [1, 2, 5]), (5, [1, 2, 5, 42]), (6, [2, 3]), (7, [1, 2, 5, 45, 46, 47]), (8, [1, 2, 5, 45, 46, 47, 48]), (9, [1, 2, 5, 7, 45, 46, 47]), (10, [1, 2, 5, 45, 46, 47]), (11, [1, 2, 5, 45, 46, 47]), (12, [1, 2, 5, 67, 68, 69]), (13, [1, 2, 5, 67, 68, 69, 70]), (14, [1, 2, 5, 9, 67, 68, 69]), (15, [1, 2, 5, 10, 11, 67, 68, 69]), (16, [1, 2, 5, 67, 68, 69]), (17, [1, 2, 5, 67, 68, 69]), (18, [2, 3])], tab [(8, [1, 2, 5, 45, 46, 47]), (13, [1, 2, 5, 67, 68, 69])]⟩

/- pullback.Of -/
def c_pullback_Of_r0 (F : String → Nat) : List LI := [⟨some 1, .bx (.t 0), none⟩,
  ⟨some 2, .alloc [.nl 1, .nl 3], none⟩,
  ⟨some 3, .alloc [.nl 1, .nl 1], none⟩,
  ⟨some 4, .alloc [.nl 1, .nl 1], none⟩,
  ⟨some 5, .mov (.k (.int .i64 (0))), none⟩]
def c_pullback_Of_r1 (F : String → Nat) : List LI := [⟨some 11, .load true 10 (.t 1), none⟩,
  ⟨some 12, .call (F "pullback.of") [.t 11] [], none⟩,
  ⟨some 10, .mov (.t 12), none⟩,
  ⟨some 13, .ext (.t 10) 0, none⟩,
  ⟨some 14, .ext (.t 10) 1, none⟩,
  ⟨some 6, .alloc [.nl 2, .nl 2, .nl 1, .nl 3], none⟩,
  ⟨none, .store 4 (.t 6) (.t 13), none⟩,
  ⟨some 7, .mov (.t 14), none⟩]
def c_pullback_Of_r2 (F : String → Nat) : List LI := [⟨some 15, .mov (.t 7), none⟩,
  ⟨some 16, .bin .neq (.t 15) (.k (.int .i64 (0))), none⟩]
def c_pullback_Of_r3 (F : String → Nat) : List LI := [⟨some 17, .build [.nl 1, .nl 3] [], none⟩,
  ⟨some 18, .build [.nl 1, .nl 1] [], none⟩,
  ⟨some 19, .build [.nl 1, .nl 1] [], none⟩,
  ⟨some 20, .mov (.t 7), none⟩,
  ⟨none, .store 2 (.t 2) (.t 17), none⟩,
  ⟨none, .store 2 (.t 3) (.t 18), none⟩,
  ⟨none, .store 2 (.t 4) (.t 19), none⟩,
  ⟨some 5, .mov (.t 20), none⟩]
def c_pullback_Of_r4 (F : String → Nat) : List LI := [⟨some 8, .alloc [.nl 1, .nl 1], none⟩,
  ⟨some 9, .alloc [.nl 1, .nl 1], none⟩]
def c_pullback_Of_r5 (F : String → Nat) : List LI := [⟨some 22, .fad 0 (.t 6), none⟩,
  ⟨some 23, .load false 1 (.t 22), none⟩,
  ⟨some 24, .call (F "pullback.sides") [.t 23] [], none⟩,
  ⟨some 21, .mov (.t 24), none⟩,
  ⟨some 25, .ext (.t 21) 0, none⟩,
  ⟨some 26, .ext (.t 21) 1, none⟩,
  ⟨some 27, .fad 0 (.t 8), none⟩,
  ⟨none, .store 1 (.t 27) (.t 25), none⟩,
  ⟨some 28, .fad 0 (.t 9), none⟩,
  ⟨none, .store 1 (.t 28) (.t 26), none⟩]
def c_pullback_Of_r6 (F : String → Nat) : List LI := [⟨some 30, .fad 1 (.t 6), none⟩,
  ⟨some 31, .load false 1 (.t 30), none⟩,
  ⟨some 32, .call (F "pullback.sides") [.t 31] [], none⟩,
  ⟨some 29, .mov (.t 32), none⟩,
  ⟨some 33, .ext (.t 29) 0, none⟩,
  ⟨some 34, .ext (.t 29) 1, none⟩,
  ⟨some 35, .fad 1 (.t 8), none⟩,
  ⟨none, .store 1 (.t 35) (.t 33), none⟩,
  ⟨some 36, .fad 1 (.t 9), none⟩,
  ⟨none, .store 1 (.t 36) (.t 34), none⟩]
def c_pullback_Of_r7 (F : String → Nat) : List LI := [⟨some 37, .fad 2 (.t 6), none⟩,
  ⟨some 38, .load true 2 (.t 37), none⟩,
  ⟨some 39, .load true 2 (.t 8), none⟩,
  ⟨some 40, .load true 2 (.t 9), none⟩,
  ⟨none, .store 2 (.t 2) (.t 38), none⟩,
  ⟨none, .store 2 (.t 3) (.t 39), none⟩,
  ⟨none, .store 2 (.t 4) (.t 40), none⟩,
  ⟨some 5, .mov (.k (.int .i64 (0))), none⟩]
def c_pullback_Of (F : String → Nat) : LC := (.seq (.reg (c_pullback_Of_r0 F) [1, 2, 3, 4]) (.seq (.reg (c_pullback_Of_r1 F) [2, 3, 4, 6, 7]) (.seq (.seq (.reg (c_pullback_Of_r2 F) [2, 3, 4, 6, 7, 16]) (.cond (.t 16) (.seq (.reg (c_pullback_Of_r3 F) [2, 3, 4, 5]) .ret) .skip)) (.seq (.reg (c_pullback_Of_r4 F) [2, 3, 4, 6, 8, 9]) (.seq (.reg (c_pullback_Of_r5 F) [2, 3, 4, 6, 8, 9]) (.seq (.reg (c_pullback_Of_r6 F) [2, 3, 4, 6, 8, 9]) (.seq (.dreg [(2, none, [], true), (3, none, [], true), (4, none, [2, 3], false), (5, none, [3], false)] (c_pullback_Of_r7 F) [2, 3, 4, 5]) .ret)))))))
def h_pullback_Of : Hints := ⟨[], fun _ => [], tab [(0, [1, 2, 3, 4]), (1, [2, 3, 4, 6, 7]), (2, [2, 3, 4, 6, 7, 16]), (3, [2, 3, 4, 5]), (4, [2, 3, 4, 6, 8, 9]), (5, [2, 3, 4, 6, 8, 9]), (6, [2, 3, 4, 6, 8, 9]), (7, [2, 3, 4, 5])], tab []⟩

/- pullback.meet -/
def c_pullback_meet_r0 (F : String → Nat) : List LI := [⟨some 6, .mov (.k (.nl 1)), none⟩,
  ⟨some 7, .mov (.k (.bool false)), none⟩]
def c_pullback_meet_r1 (F : String → Nat) : List LI := [⟨some 8, .mov (.k (.nl 1)), none⟩]
def c_pullback_meet_r2 (F : String → Nat) : List LI := [⟨some 11, .mov (.t 1), none⟩,
  ⟨some 12, .len (.t 11), none⟩,
  ⟨some 13, .mov (.k (.int .i64 (0))), none⟩]
def c_pullback_meet_r3 (F : String → Nat) : List LI := [⟨some 14, .bin .lss (.t 13) (.t 12), none⟩]
def c_pullback_meet_r4 (F : String → Nat) : List LI := [⟨some 15, .mov (.t 13), none⟩,
  ⟨some 9, .mov (.t 15), none⟩]
def c_pullback_meet_r5 (F : String → Nat) : List LI := [⟨some 16, .mov (.t 0), none⟩,
  ⟨some 17, .mov (.t 1), none⟩,
  ⟨some 18, .mov (.t 9), none⟩,
  ⟨some 19, .iad 1 (.t 17) (.t 18), none⟩,
  ⟨some 20, .load false 1 (.t 19), none⟩,
  ⟨some 21, .mov (.t 2), none⟩,
  ⟨some 22, .mov (.t 9), none⟩,
  ⟨some 23, .iad 1 (.t 21) (.t 22), none⟩,
  ⟨some 24, .load false 1 (.t 23), none⟩,
  ⟨some 25, .build [.int .i64 (0), .int .i64 (0)] [(0, 1, .t 20), (1, 1, .t 24)], none⟩,
  ⟨some 26, .call (F "slices.Index.apiPair") [.t 16, .t 25] [], none⟩,
  ⟨some 10, .mov (.t 26), none⟩]
def c_pullback_meet_r6 (F : String → Nat) : List LI := [⟨some 27, .mov (.t 10), none⟩,
  ⟨some 28, .bin .lss (.t 27) (.k (.int .i64 (0))), none⟩]
def c_pullback_meet_r7 (F : String → Nat) : List LI := [⟨some 6, .mov (.k (.nl 1)), none⟩,
  ⟨some 7, .mov (.k (.bool false)), none⟩]
def c_pullback_meet_r8 (F : String → Nat) : List LI := [⟨some 29, .mov (.t 8), none⟩,
  ⟨some 30, .mov (.t 10), none⟩,
  ⟨some 31, .buildSl 1 8 (.int .i64 (0)) 1 [(0, .t 30)], none⟩,
  ⟨some 32, .app 1 8 (.t 29) (.t 31), none⟩,
  ⟨some 8, .mov (.t 32), none⟩]
def c_pullback_meet_r9 (F : String → Nat) : List LI := [⟨some 33, .bin .add (.t 13) (.k (.int .i64 (1))), none⟩,
  ⟨some 13, .mov (.t 33), none⟩]
def c_pullback_meet_b10 (F : String → Nat) : LC := (.seq (.reg (c_pullback_meet_r3 F) [0, 1, 2, 8, 12, 13, 14]) (.seq (.cond (.t 14) .skip (.exit 0)) (.seq (.block 1 (.seq (.reg (c_pullback_meet_r4 F) [0, 1, 2, 8, 9, 12, 13]) (.seq (.dreg [] (c_pullback_meet_r5 F) [0, 1, 2, 8, 10, 12, 13]) (.seq (.seq (.reg (c_pullback_meet_r6 F) [0, 1, 2, 8, 10, 12, 13, 28]) (.cond (.t 28) (.seq (.reg (c_pullback_meet_r7 F) [6, 7]) .ret) .skip)) (.reg (c_pullback_meet_r8 F) [0, 1, 2, 8, 12, 13]))))) (.reg (c_pullback_meet_r9 F) [0, 1, 2, 8, 12, 13]))))
def c_pullback_meet_r11 (F : String → Nat) : List LI := [⟨some 34, .mov (.t 8), none⟩,
  ⟨some 6, .mov (.t 34), none⟩,
  ⟨some 7, .mov (.k (.bool true)), none⟩]
def c_pullback_meet (F : String → Nat) : LC := (.seq (.reg (c_pullback_meet_r0 F) [0, 1, 2]) (.seq (.reg (c_pullback_meet_r1 F) [0, 1, 2, 8]) (.seq (.seq (.reg (c_pullback_meet_r2 F) [0, 1, 2, 8, 12, 13]) (.block 0 (.loop [0, 1, 2, 8, 12, 13] (c_pullback_meet_b10 F)))) (.seq (.reg (c_pullback_meet_r11 F) [6, 7]) .ret))))
def h_pullback_meet : Hints := ⟨[], fun _ => [], tab [(0, [0, 1, 2]), (1, [0, 1, 2, 8]), (2, [0, 1, 2, 8, 12, 13]), (3, [0, 1, 2, 8, 12, 13, 14]), (4, [0, 1, 2, 8, 9, 12, 13]), (5, [0, 1, 2, 8, 10, 12, 13]), (6, [0, 1, 2, 8, 10, 12, 13, 28]), (7, [6, 7]), (8, [0, 1, 2, 8, 12, 13]), (9, [0, 1, 2, 8, 12, 13]), (10, [6, 7])], tab [(3, [0, 1, 2, 8, 12, 13])]⟩

/- pullback.Mediate -/
def c_pullback_Mediate_r0 (F : String → Nat) : List LI := [⟨some 4, .bx (.t 0), none⟩,
  ⟨some 5, .bx (.t 1), none⟩,
  ⟨some 6, .bx (.t 2), none⟩,
  ⟨some 7, .bx (.t 3), none⟩,
  ⟨some 8, .alloc [.nl 1, .nl 1], none⟩,
  ⟨some 9, .mov (.k (.int .i64 (0))), none⟩]
def c_pullback_Mediate_r1 (F : String → Nat) : List LI := [⟨some 17, .load true 10 (.t 4), none⟩,
  ⟨some 18, .call (F "pullback.of") [.t 17] [], none⟩,
  ⟨some 16, .mov (.t 18), none⟩,
  ⟨some 19, .ext (.t 16) 0, none⟩,
  ⟨some 20, .ext (.t 16) 1, none⟩,
  ⟨some 10, .alloc [.nl 2, .nl 2, .nl 1, .nl 3], none⟩,
  ⟨none, .store 4 (.t 10) (.t 19), none⟩,
  ⟨some 11, .mov (.t 20), none⟩]
def c_pullback_Mediate_r2 (F : String → Nat) : List LI := [⟨some 21, .mov (.t 11), none⟩,
  ⟨some 22, .bin .eql (.t 21) (.k (.int .i64 (0))), none⟩]
def c_pullback_Mediate_r3 (F : String → Nat) : List LI := [⟨some 23, .load true 2 (.t 5), none⟩,
  ⟨some 24, .fad 0 (.t 4), none⟩,
  ⟨some 25, .load true 2 (.t 24), none⟩,
  ⟨some 26, .load true 2 (.t 6), none⟩,
  ⟨some 27, .call (F "morphism.Valid") [.t 23, .t 25, .t 26] [], none⟩,
  ⟨some 11, .mov (.t 27), none⟩]
def c_pullback_Mediate_r4 (F : String → Nat) : List LI := [⟨some 28, .mov (.t 11), none⟩,
  ⟨some 29, .bin .eql (.t 28) (.k (.int .i64 (0))), none⟩]
def c_pullback_Mediate_r5 (F : String → Nat) : List LI := [⟨some 30, .load true 2 (.t 5), none⟩,
  ⟨some 31, .fad 2 (.t 4), none⟩,
  ⟨some 32, .load true 2 (.t 31), none⟩,
  ⟨some 33, .load true 2 (.t 7), none⟩,
  ⟨some 34, .call (F "morphism.Valid") [.t 30, .t 32, .t 33] [], none⟩,
  ⟨some 11, .mov (.t 34), none⟩]
def c_pullback_Mediate_r6 (F : String → Nat) : List LI := [⟨some 35, .mov (.t 11), none⟩,
  ⟨some 36, .bin .neq (.t 35) (.k (.int .i64 (0))), none⟩]
def c_pullback_Mediate_r7 (F : String → Nat) : List LI := [⟨some 37, .build [.nl 1, .nl 1] [], none⟩,
  ⟨some 38, .mov (.t 11), none⟩,
  ⟨none, .store 2 (.t 8) (.t 37), none⟩,
  ⟨some 9, .mov (.t 38), none⟩]
def c_pullback_Mediate_r8 (F : String → Nat) : List LI := [⟨some 40, .fad 0 (.t 10), none⟩,
  ⟨some 41, .load false 1 (.t 40), none⟩,
  ⟨some 42, .fad 0 (.t 6), none⟩,
  ⟨some 43, .load false 1 (.t 42), none⟩,
  ⟨some 44, .fad 0 (.t 7), none⟩,
  ⟨some 45, .load false 1 (.t 44), none⟩,
  ⟨some 46, .call (F "pullback.meet") [.t 41, .t 43, .t 45] [], none⟩,
  ⟨some 39, .mov (.t 46), none⟩,
  ⟨some 47, .ext (.t 39) 0, none⟩,
  ⟨some 48, .ext (.t 39) 1, none⟩,
  ⟨some 12, .mov (.t 47), none⟩,
  ⟨some 13, .mov (.t 48), none⟩]
def c_pullback_Mediate_r9 (F : String → Nat) : List LI := [⟨some 50, .fad 1 (.t 10), none⟩,
  ⟨some 51, .load false 1 (.t 50), none⟩,
  ⟨some 52, .fad 1 (.t 6), none⟩,
  ⟨some 53, .load false 1 (.t 52), none⟩,
  ⟨some 54, .fad 1 (.t 7), none⟩,
  ⟨some 55, .load false 1 (.t 54), none⟩,
  ⟨some 56, .call (F "pullback.meet") [.t 51, .t 53, .t 55] [], none⟩,
  ⟨some 49, .mov (.t 56), none⟩,
  ⟨some 57, .ext (.t 49) 0, none⟩,
  ⟨some 58, .ext (.t 49) 1, none⟩,
  ⟨some 14, .mov (.t 57), none⟩,
  ⟨some 15, .mov (.t 58), none⟩]
def c_pullback_Mediate_r10 (F : String → Nat) : List LI := [⟨some 59, .mov (.t 13), none⟩,
  ⟨some 60, .not (.t 59), none⟩,
  ⟨some 61, .mov (.t 60), none⟩,
  ⟨some 62, .mov (.t 15), some (61, false)⟩,
  ⟨some 63, .not (.t 62), some (61, false)⟩,
  ⟨some 64, .pick (.t 61) (.k (.bool true)) (.t 63), none⟩]
def c_pullback_Mediate_r11 (F : String → Nat) : List LI := [⟨some 65, .build [.nl 1, .nl 1] [], none⟩,
  ⟨none, .store 2 (.t 8) (.t 65), none⟩,
  ⟨some 9, .mov (.k (.int .i64 (11))), none⟩]
def c_pullback_Mediate_r12 (F : String → Nat) : List LI := [⟨some 66, .mov (.t 12), none⟩,
  ⟨some 67, .mov (.t 14), none⟩,
  ⟨some 68, .build [.nl 1, .nl 1] [(0, 1, .t 66), (1, 1, .t 67)], none⟩,
  ⟨none, .store 2 (.t 8) (.t 68), none⟩,
  ⟨some 9, .mov (.k (.int .i64 (0))), none⟩]
def c_pullback_Mediate (F : String → Nat) : LC := (.seq (.reg (c_pullback_Mediate_r0 F) [4, 5, 6, 7, 8]) (.seq (.reg (c_pullback_Mediate_r1 F) [4, 5, 6, 7, 8, 10, 11]) (.seq (.seq (.reg (c_pullback_Mediate_r2 F) [4, 5, 6, 7, 8, 10, 11, 22]) (.cond (.t 22) (.reg (c_pullback_Mediate_r3 F) [4, 5, 6, 7, 8, 10, 11]) .skip)) (.seq (.seq (.reg (c_pullback_Mediate_r4 F) [4, 5, 6, 7, 8, 10, 11, 29]) (.cond (.t 29) (.reg (c_pullback_Mediate_r5 F) [6, 7, 8, 10, 11]) .skip)) (.seq (.seq (.reg (c_pullback_Mediate_r6 F) [6, 7, 8, 10, 11, 36]) (.cond (.t 36) (.seq (.reg (c_pullback_Mediate_r7 F) [8, 9]) .ret) .skip)) (.seq (.reg (c_pullback_Mediate_r8 F) [6, 7, 8, 10, 12, 13]) (.seq (.reg (c_pullback_Mediate_r9 F) [8, 12, 13, 14, 15]) (.seq (.seq (.reg (c_pullback_Mediate_r10 F) [8, 12, 14, 64]) (.cond (.t 64) (.seq (.reg (c_pullback_Mediate_r11 F) [8, 9]) .ret) .skip)) (.seq (.reg (c_pullback_Mediate_r12 F) [8, 9]) .ret)))))))))
def h_pullback_Mediate : Hints := ⟨[], fun _ => [], tab [(0, [4, 5, 6, 7, 8]), (1, [4, 5, 6, 7, 8, 10, 11]), (2, [4, 5, 6, 7, 8, 10, 11, 22]), (3, [4, 5, 6, 7, 8, 10, 11]), (4, [4, 5, 6, 7, 8, 10, 11, 29]), (5, [6, 7, 8, 10, 11]), (6, [6, 7, 8, 10, 11, 36]), (7, [8, 9]), (8, [6, 7, 8, 10, 12, 13]), (9, [8, 12, 13, 14, 15]), (10, [8, 12, 14, 64]), (11, [8, 9]), (12, [8, 9])], tab []⟩

attribute [go_sem] c_pullback_given_r0 c_pullback_given_r1 c_pullback_given_r2 c_pullback_given_r3 c_pullback_given_r4 c_pullback_given c_pullback_of_r0 c_pullback_of_r1 c_pullback_of_r2 c_pullback_of_r3 c_pullback_of_r4 c_pullback_of_r5 c_pullback_of_r6 c_pullback_of_r7 c_pullback_of_r8 c_pullback_of_r9 c_pullback_of_r10 c_pullback_of_r11 c_pullback_of_r13 c_pullback_of_r14 c_pullback_of_r15 c_pullback_of_r16 c_pullback_of_r17 c_pullback_of_r18 c_pullback_of_r20 c_pullback_of c_pullback_Of_r0 c_pullback_Of_r1 c_pullback_Of_r2 c_pullback_Of_r3 c_pullback_Of_r4 c_pullback_Of_r5 c_pullback_Of_r6 c_pullback_Of_r7 c_pullback_Of c_pullback_meet_r0 c_pullback_meet_r1 c_pullback_meet_r2 c_pullback_meet_r3 c_pullback_meet_r4 c_pullback_meet_r5 c_pullback_meet_r6 c_pullback_meet_r7 c_pullback_meet_r8 c_pullback_meet_r9 c_pullback_meet_r11 c_pullback_meet c_pullback_Mediate_r0 c_pullback_Mediate_r1 c_pullback_Mediate_r2 c_pullback_Mediate_r3 c_pullback_Mediate_r4 c_pullback_Mediate_r5 c_pullback_Mediate_r6 c_pullback_Mediate_r7 c_pullback_Mediate_r8 c_pullback_Mediate_r9 c_pullback_Mediate_r10 c_pullback_Mediate_r11 c_pullback_Mediate_r12 c_pullback_Mediate
/-- A cospan. -/
structure Cs where
  b : G
  c : G
  d : G
  f : Mo
  g : Mo
  deriving DecidableEq, Inhabited
def csD (s : Cs) : D := .agg [.lst 1 (ints s.b.n), .lst 3 (eds s.b.e), .lst 1 (ints s.c.n), .lst 3 (eds s.c.e), .lst 1 (ints s.d.n), .lst 3 (eds s.d.e), .lst 1 (ints s.f.n), .lst 1 (ints s.f.e), .lst 1 (ints s.g.n), .lst 1 (ints s.g.e)]
def givenE (s : Cs) : Int := if validM s.b s.d s.f ≠ 0 then validM s.b s.d s.f else validM s.c s.d s.g
def pbN (s : Cs) : List Pr := pairsL s.f.n s.g.n
def pbE (s : Cs) : List Pr := pairsL s.f.e s.g.e
def pbErr (s : Cs) : Int := if givenE s ≠ 0 then givenE s else if 40 < (pbN s).length ∨ 80 < (pbE s).length then 3 else 0
def pbEdge (be ce : List E) (ns : List Pr) (p : Pr) : E := ⟨(gt be p.a).t, idx (fun q => decide (q = ⟨(gt be p.a).f, (gt ce p.b).f⟩)) ns 0, idx (fun q => decide (q = ⟨(gt be p.a).o, (gt ce p.b).o⟩)) ns 0⟩
def pbG0 (s : Cs) : G := ⟨(pbN s).map fun p => gt s.b.n p.a, (pbE s).map (pbEdge s.b.e s.c.e (pbN s))⟩
def pbG (s : Cs) : G := if pbErr s = 0 then pbG0 s else g0
def pbP (s : Cs) : Mo := if pbErr s = 0 then ⟨asA (pbN s), asA (pbE s)⟩ else m0
def pbQ (s : Cs) : Mo := if pbErr s = 0 then ⟨asB (pbN s), asB (pbE s)⟩ else m0
section
variable (P : Program) (F : String → Nat)
def K_pullback_given : Prop := ∀ s : Cs, FC P (F "pullback.given") [csD s] (.int .i64 (givenE s)) []
def K_pullback_of : Prop := ∀ s : Cs, FC P (F "pullback.of") [csD s] (.tup [.agg [.arr 2 (prs (if pbErr s = 0 then pbN s else [])), .arr 2 (prs (if pbErr s = 0 then pbE s else [])), .arr 1 (ints (pbG s).n), .arr 3 (eds (pbG s).e)], .int .i64 (pbErr s)]) []
def K_pullback_Of : Prop := ∀ s : Cs, FC P (F "pullback.Of") [csD s] (.tup [gA (pbG s), mA (pbP s), mA (pbQ s), .int .i64 (pbErr s)]) []
end
section
variable {P : Program} {F : String → Nat} {α : Type}
theorem pairsI_mem {f g : List Int} {n : Nat} {p : Pr} : p ∈ pairsI f g n ↔ ∃ i k : Nat, i < n ∧ k < g.length ∧ gt f i = gt g k ∧ p = ⟨i, k⟩ := by
  simp only [pairsI, rowP, List.mem_flatMap, List.mem_range, List.mem_map, List.mem_filter, decide_eq_true_eq]
  constructor
  · rintro ⟨i, hi, k, ⟨hk, he⟩, rfl⟩; exact ⟨i, k, hi, hk, he, rfl⟩
  · rintro ⟨i, k, hi, hk, he, rfl⟩; exact ⟨i, hi, k, ⟨hk, he⟩, rfl⟩
theorem pairsL_mem {f g : List Int} {p : Pr} : p ∈ pairsL f g ↔ ∃ i k : Nat, i < f.length ∧ k < g.length ∧ gt f i = gt g k ∧ p = ⟨i, k⟩ := pairsI_mem
theorem pairsL_bd {f g : List Int} {p : Pr} (h : p ∈ pairsL f g) : (0 ≤ p.a ∧ p.a < f.length) ∧ (0 ≤ p.b ∧ p.b < g.length) := by
  obtain ⟨i, k, hi, hk, _, rfl⟩ := pairsL_mem.1 h
  simp only
  omega
theorem pairsL_len {f g : List Int} (hf : f.length ≤ 100) (hg : g.length ≤ 100) : (pairsL f g).length ≤ 10000 :=
  Nat.le_trans (pairsI_len f g f.length) (Nat.le_trans (Nat.mul_le_mul hf hg) (by omega))
theorem w_pullback_given (hv : K_morphism_Valid P F) (s : Cs) : W P (c_pullback_given F) (Done [.t 2] [] (.int .i64 (givenE s)) []) (init [csD s]) := by
  refine W_of ?_
  have r1 := hv s.b s.d s.f
  have r2 := hv s.c s.d s.g
  have : givenE s = if validM s.b s.d s.f ≠ 0 then validM s.b s.d s.f else validM s.c s.d s.g := rfl
  rw [this]
  generalize validM s.b s.d s.f = u at *
  generalize validM s.c s.d s.g = v at *
  simp only [gD, mD] at r1 r2
  simp (config := { maxSteps := 1000000 }) (disch := first | omega | (simp only [go_sem]; omega)) only [go_sem, ↓reduceIte, csD]
  refine call_by r1 ?_
  simp (config := { maxSteps := 1000000 }) (disch := first | omega | (simp only [go_sem]; omega)) only [go_sem, ↓reduceIte]
  refine bran_ndec (fun c => ?_) (fun c => ?_)
  · simp (config := { maxSteps := 1000000 }) (disch := first | omega | (simp only [go_sem]; omega)) only [go_sem, ↓reduceIte]
    try simp [c]
  · subst c
    simp (config := { maxSteps := 1000000 }) (disch := first | omega | (simp only [go_sem]; omega)) only [go_sem, ↓reduceIte]
    refine call_by r2 ?_
    simp (config := { maxSteps := 1000000 }) (disch := first | omega | (simp only [go_sem]; omega)) only [go_sem, ↓reduceIte]
    try simp
theorem givenE_spec {s : Cs} (h : givenE s = 0) : validM s.b s.d s.f = 0 ∧ validM s.c s.d s.g = 0 := by
  unfold givenE at h
  split at h
  · rename_i h1; exact absurd h h1
  · rename_i h1; exact ⟨by simpa using h1, h⟩
theorem w_pullback_of (hg : K_pullback_given P F) (hp : K_pullback_pairs P F) (hx : K_slices_Index_apiPair P F) (s : Cs) :
    W P (c_pullback_of F) (Done [.c 2 true 4, .t 3] [] (.tup [.agg [.arr 2 (prs (if pbErr s = 0 then pbN s else [])), .arr 2 (prs (if pbErr s = 0 then pbE s else [])), .arr 1 (ints (pbG s).n), .arr 3 (eds (pbG s).e)], .int .i64 (pbErr s)]) []) (init [csD s]) := by
  refine W_of ?_
  have rg := hg s
  have hs := @givenE_spec s
  have hE : pbErr s = if givenE s ≠ 0 then givenE s else if 40 < (pbN s).length ∨ 80 < (pbE s).length then 3 else 0 := rfl
  have hG : pbErr s = 0 → pbG s = ⟨(pbN s).map fun p => gt s.b.n p.a, (pbE s).map (pbEdge s.b.e s.c.e (pbN s))⟩ := fun h => by simp [pbG, h, pbG0]
  have hZ : pbErr s ≠ 0 → pbG s = g0 := fun h => by simp [pbG, h]
  generalize pbErr s = er at *
  generalize pbG s = gg at *
  generalize givenE s = ge at *
  simp only [csD] at rg
  simp (config := { maxSteps := 1000000 }) (disch := first | omega | (simp only [go_sem]; omega)) only [go_sem, ↓reduceIte, csD]
  refine call_by rg ?_
  simp (config := { maxSteps := 1000000 }) (disch := first | omega | (simp only [go_sem]; omega)) only [go_sem, ↓reduceIte]
  refine bran_ndec (fun c => ?_) (fun c => ?_)
  · rw [if_pos c] at hE
    have hne : ¬ (er = 0) := by omega
    simp (config := { maxSteps := 1000000 }) (disch := first | omega | (simp only [go_sem]; omega)) only [go_sem, ↓reduceIte]
    rw [if_neg hne, if_neg hne, hZ hne, hE]
    simp [g0, prs, ints, eds]
  · subst c
    rw [if_neg (by simp)] at hE
    obtain ⟨v1, v2⟩ := hs rfl
    obtain ⟨a1, a2, a3, a4, _⟩ := validM_len v1
    obtain ⟨b1, b2, b3, b4, _⟩ := validM_len v2
    obtain ⟨_, _, a5, a6, _⟩ := validM_spec v1
    obtain ⟨_, _, b5, b6, _⟩ := validM_spec v2
    have r1 := hp s.f.n s.g.n (by omega) (by omega)
    have r2 := hp s.f.e s.g.e (by omega) (by omega)
    have l1 : (pbN s).length ≤ 10000 := pairsL_len (by omega) (by omega)
    have l2 : (pbE s).length ≤ 10000 := pairsL_len (by omega) (by omega)
    have m1 : ∀ p ∈ pbN s, (0 ≤ p.a ∧ p.a < s.b.n.length) := fun p hp => by have := pairsL_bd hp; omega
    have m2 : ∀ p ∈ pbE s, (0 ≤ p.a ∧ p.a < s.b.e.length) ∧ (0 ≤ p.b ∧ p.b < s.c.e.length) := fun p hp => by have := pairsL_bd hp; omega
    change FC P _ _ (.arr 2 (prs (pbN s))) _ at r1
    change FC P _ _ (.arr 2 (prs (pbE s))) _ at r2
    generalize pbN s = ns at *
    generalize pbE s = es at *
    obtain ⟨⟨bn, be⟩, ⟨cn, ce⟩, ⟨dn, de⟩, ⟨fn, fe⟩, ⟨gn, ge⟩⟩ := s
    simp only at *
    simp (config := { maxSteps := 1000000 }) (disch := first | omega | (simp only [go_sem]; omega)) only [go_sem, ↓reduceIte]
    refine call_by r1 ?_
    simp (config := { maxSteps := 1000000 }) (disch := first | omega | (simp only [go_sem]; omega)) only [go_sem, ↓reduceIte]
    refine call_by r2 ?_
    simp (config := { maxSteps := 1000000 }) (disch := first | omega | (simp only [go_sem]; omega)) only [go_sem, ↓reduceIte]
    have fitN : ∀ i, i ≤ ns.length → ((ns.take i).map fun p => gt bn p.a).length = i := fun i hi => by simp; omega
    have fitE : ∀ i, i ≤ es.length → ((es.take i).map (pbEdge be ce ns)).length = i := fun i hi => by simp; omega
    refine bran_dec (fun c1 => ?_) (fun c1 => ?_)
    · rw [if_pos (by omega)] at hE
      have hne : ¬ (er = 0) := by omega
      simp (config := { maxSteps := 1000000 }) (disch := first | omega | (simp only [go_sem]; omega)) only [go_sem, ↓reduceIte, c1]
      rw [if_neg hne, if_neg hne, hZ hne, hE]
      simp [g0, prs, ints, eds]
    · simp (config := { maxSteps := 1000000 }) (disch := first | omega | (simp only [go_sem]; omega)) only [go_sem, ↓reduceIte, c1]
      refine bran_dec (fun c2 => ?_) (fun c2 => ?_)
      · rw [if_pos (by omega)] at hE
        have hne : ¬ (er = 0) := by omega
        simp (config := { maxSteps := 1000000 }) (disch := first | omega | (simp only [go_sem]; omega)) only [go_sem, ↓reduceIte, c1, c2]
        rw [if_neg hne, if_neg hne, hZ hne, hE]
        simp [g0, prs, ints, eds]
      · rw [if_neg (by omega)] at hE
        subst hE
        rw [if_pos rfl, if_pos rfl, hG rfl]
        simp (config := { maxSteps := 1000000 }) (disch := first | omega | (simp only [go_sem]; omega)) only [go_sem, ↓reduceIte, c1, c2]
        refine W_loop (fun i : Nat => ⟨[(1, D.pt 0 0), (2, D.pt 5 0), (5, D.pt 10 0), (45, D.sl 6 0 ns.length), (46, D.int IntKind.i64 ns.length), (47, D.int IntKind.i64 i)],
          [(0, Ent.box [D.lst 1 (ints bn), D.lst 3 (eds be), D.lst 1 (ints cn), D.lst 3 (eds ce), D.lst 1 (ints dn), D.lst 3 (eds de), D.lst 1 (ints fn), D.lst 1 (ints fe), D.lst 1 (ints gn), D.lst 1 (ints ge)]),
            (1, Ent.arr 2 []), (2, Ent.arr 2 []), (3, Ent.arr 1 []), (4, Ent.arr 3 []), (5, Ent.box [D.sl 1 0 0, D.sl 2 0 0, D.sl 3 0 0, D.sl 4 0 0]), (6, Ent.arr 2 (prs ns)), (7, Ent.arr 2 (prs es)),
            (8, Ent.arr 1 (ints ((ns.take i).map fun p => gt bn p.a))), (9, Ent.arr 3 []), (10, Ent.box [D.sl 6 0 ns.length, D.sl 7 0 es.length, D.sl 8 0 i, D.sl 9 0 0])], 11⟩) (fun i => i ≤ ns.length) (fun i => ns.length - i) 0 ?_ ?_ ?_
        · simp (config := { maxSteps := 1000000 }) (disch := first | omega | (simp only [go_sem]; omega)) only [go_sem, ↓reduceIte]
          rfl
        · simp
        · intro i hi
          have e1 := fitN i hi
          simp (config := { maxSteps := 1000000 }) (disch := first | omega | (simp only [go_sem]; omega)) only [go_sem, ↓reduceIte, c_pullback_of_b12]
          refine bran_dec (fun c => ?_) (fun c => ?_)
          · have hm := m1 _ (gt_mem (l := ns) (j := i) (by omega) (by omega))
            simp (config := { maxSteps := 1000000 }) (disch := first | omega | (simp only [go_sem]; omega)) only [go_sem, ↓reduceIte, e1]
            exact ⟨i + 1, by rw [take_gt (by omega)]; simp, by omega, by omega⟩
          · obtain rfl : i = ns.length := by omega
            rw [List.take_length] at e1
            simp (config := { maxSteps := 1000000 }) (disch := first | omega | (simp only [go_sem]; omega)) only [go_sem, ↓reduceIte, e1]
            refine W_loop (fun j : Nat => ⟨[(1, D.pt 0 0), (2, D.pt 5 0), (5, D.pt 10 0), (67, D.sl 7 0 es.length), (68, D.int IntKind.i64 es.length), (69, D.int IntKind.i64 j)],
              [(0, Ent.box [D.lst 1 (ints bn), D.lst 3 (eds be), D.lst 1 (ints cn), D.lst 3 (eds ce), D.lst 1 (ints dn), D.lst 3 (eds de), D.lst 1 (ints fn), D.lst 1 (ints fe), D.lst 1 (ints gn), D.lst 1 (ints ge)]),
                (1, Ent.arr 2 []), (2, Ent.arr 2 []), (3, Ent.arr 1 []), (4, Ent.arr 3 []), (5, Ent.box [D.sl 1 0 0, D.sl 2 0 0, D.sl 3 0 0, D.sl 4 0 0]), (6, Ent.arr 2 (prs ns)), (7, Ent.arr 2 (prs es)),
                (8, Ent.arr 1 (ints (ns.map fun p => gt bn p.a))), (9, Ent.arr 3 (eds ((es.take j).map (pbEdge be ce ns)))), (10, Ent.box [D.sl 6 0 ns.length, D.sl 7 0 es.length, D.sl 8 0 ns.length, D.sl 9 0 j])], 11⟩) (fun j => j ≤ es.length) (fun j => es.length - j) 0 ?_ ?_ ?_
            · simp (config := { maxSteps := 1000000 }) (disch := first | omega | (simp only [go_sem]; omega)) only [go_sem, ↓reduceIte]
              rfl
            · simp
            · intro j hj
              have e2 := fitE j hj
              simp (config := { maxSteps := 1000000 }) (disch := first | omega | (simp only [go_sem]; omega)) only [go_sem, ↓reduceIte, c_pullback_of_b19]
              refine bran_dec (fun c => ?_) (fun c => ?_)
              · have hm := m2 _ (gt_mem (l := es) (j := j) (by omega) (by omega))
                have q1 := hx ns (gt be (gt es j).a).f (gt ce (gt es j).b).f (by unfold maxL; omega)
                have q2 := hx ns (gt be (gt es j).a).o (gt ce (gt es j).b).o (by unfold maxL; omega)
                simp (config := { maxSteps := 1000000 }) (disch := first | omega | (simp only [go_sem]; omega)) only [go_sem, ↓reduceIte, e2]
                refine call_by q1 ?_
                simp (config := { maxSteps := 1000000 }) (disch := first | omega | (simp only [go_sem]; omega)) only [go_sem, ↓reduceIte, e2]
                refine call_by q2 ?_
                simp (config := { maxSteps := 1000000 }) (disch := first | omega | (simp only [go_sem]; omega)) only [go_sem, ↓reduceIte, e2]
                exact ⟨j + 1, by rw [take_gt (by omega)]; simp [pbEdge], by omega, by omega⟩
              · obtain rfl : j = es.length := by omega
                rw [List.take_length] at e2
                simp (config := { maxSteps := 1000000 }) (disch := first | omega | (simp only [go_sem]; omega)) only [go_sem, ↓reduceIte, e1, e2]
                try rfl
end
end Go.Am
namespace Go.Am
open Go
set_option linter.unusedVariables false
set_option linter.unusedSimpArgs false
section
variable {P : Program} {F : String → Nat} {α : Type}
theorem pbN_len {s : Cs} (h : pbErr s = 0) : (pbN s).length ≤ 40 ∧ (pbE s).length ≤ 80 ∧ givenE s = 0 := by
  unfold pbErr at h
  split at h
  · rename_i h1; exact absurd h h1
  · rename_i h1
    split at h
    · cases h
    · rename_i h2
      exact ⟨by omega, by omega, by simpa using h1⟩
theorem w_pullback_Of (ho : K_pullback_of P F) (hs : K_pullback_sides P F) (s : Cs) : W P (c_pullback_Of F) (Done [.c 2 true 2, .c 3 true 2, .c 4 true 2, .t 5] [] (.tup [gA (pbG s), mA (pbP s), mA (pbQ s), .int .i64 (pbErr s)]) []) (init [csD s]) := by
  refine W_of ?_
  have ro := ho s
  have hl := @pbN_len s
  have hP : pbP s = if pbErr s = 0 then ⟨asA (pbN s), asA (pbE s)⟩ else m0 := rfl
  have hQ : pbQ s = if pbErr s = 0 then ⟨asB (pbN s), asB (pbE s)⟩ else m0 := rfl
  have hZ : pbErr s ≠ 0 → pbG s = g0 := fun h => by simp [pbG, h]
  generalize pbErr s = er at *
  generalize pbG s = gg at *
  generalize pbP s = pp at *
  generalize pbQ s = qq at *
  generalize pbN s = ns at *
  generalize pbE s = es at *
  simp only [csD] at ro
  simp (config := { maxSteps := 1000000 }) (disch := first | omega | (simp only [go_sem]; omega)) only [go_sem, ↓reduceIte, csD]
  refine call_by ro ?_
  obtain ⟨gn, ge⟩ := gg
  simp (config := { maxSteps := 1000000 }) (disch := first | omega | (simp only [go_sem]; omega)) only [go_sem, ↓reduceIte]
  refine bran_ndec (fun c => ?_) (fun c => ?_)
  · rw [if_neg c] at hP hQ
    simp (config := { maxSteps := 1000000 }) (disch := first | omega | (simp only [go_sem]; omega)) only [go_sem, ↓reduceIte]
    rw [hP, hQ, hZ c]
    simp [gA, mA, g0, m0, ints, eds]
  · subst c
    obtain ⟨l1, l2, _⟩ := hl rfl
    simp only [↓reduceIte] at hP hQ ⊢
    simp (config := { maxSteps := 1000000 }) (disch := first | omega | (simp only [go_sem]; omega)) only [go_sem, ↓reduceIte]
    refine call_by (hs ns (by omega)) ?_
    simp (config := { maxSteps := 1000000 }) (disch := first | omega | (simp only [go_sem]; omega)) only [go_sem, ↓reduceIte]
    refine call_by (hs es (by omega)) ?_
    simp (config := { maxSteps := 1000000 }) (disch := first | omega | (simp only [go_sem]; omega)) only [go_sem, ↓reduceIte]
    rw [hP, hQ]
    simp [gA, mA, asA, asB]
end
end Go.Am
namespace Go.Am
open Go
set_option linter.unusedVariables false
set_option linter.unusedSimpArgs false

def meetI (l : List Pr) (h k : List Int) (n : Nat) : List Int := (List.range n).map fun i : Nat => idx (fun p => decide (p = ⟨gt h i, gt k i⟩)) l 0
def meetL (l : List Pr) (h k : List Int) : List Int := meetI l h k h.length
def meetOk (l : List Pr) (h k : List Int) : Bool := (meetL l h k).all fun x => decide (0 ≤ x)
def medErr (s : Cs) (x : G) (h k : Mo) : Int := if pbErr s ≠ 0 then pbErr s else if validM x s.b h ≠ 0 then validM x s.b h else validM x s.c k
def medM (s : Cs) (x : G) (h k : Mo) : Mo × Int := if medErr s x h k ≠ 0 then (m0, medErr s x h k) else
  if meetOk (pbN s) h.n k.n = true ∧ meetOk (pbE s) h.e k.e = true then (⟨meetL (pbN s) h.n k.n, meetL (pbE s) h.e k.e⟩, 0) else (m0, 11)
def Cs.sm (s : Cs) : Prop := s.f.sm ∧ s.g.sm
section
variable (P : Program) (F : String → Nat)
def K_pullback_meet : Prop := ∀ (l : List Pr) (h k : List Int), l.length ≤ maxL → h.length ≤ 10000 → k.length = h.length → FC P (F "pullback.meet") [.lst 2 (prs l), .lst 1 (ints h), .lst 1 (ints k)] (.tup [.arr 1 (ints (if meetOk l h k = true then meetL l h k else [])), .bool (meetOk l h k)]) []
def K_pullback_Mediate : Prop := ∀ (s : Cs) (x : G) (h k : Mo), FC P (F "pullback.Mediate") [csD s, gD x, mD h, mD k] (.tup [mA (medM s x h k).1, .int .i64 (medM s x h k).2]) []
end
section
variable {P : Program} {F : String → Nat} {α : Type}
theorem meetI_zero (l : List Pr) (h k : List Int) : meetI l h k 0 = [] := rfl
theorem meetI_succ (l : List Pr) (h k : List Int) (n : Nat) : meetI l h k (n + 1) = meetI l h k n ++ [idx (fun p => decide (p = ⟨gt h n, gt k n⟩)) l 0] := by simp [meetI, List.range_succ]
theorem meetI_len (l : List Pr) (h k : List Int) (n : Nat) : (meetI l h k n).length = n := by simp [meetI]
theorem meetI_take (l : List Pr) (h k : List Int) {n m : Nat} (hn : n ≤ m) : (meetI l h k m).take n = meetI l h k n := by
  unfold meetI
  rw [← List.map_take, List.take_range]
  congr 2
  omega
theorem w_pullback_meet (hx : K_slices_Index_apiPair P F) (l : List Pr) (h k : List Int) (hl : l.length ≤ maxL) (h1 : h.length ≤ 10000) (h2 : k.length = h.length) :
    W P (c_pullback_meet F) (Done [.t 6, .t 7] [] (.tup [.arr 1 (ints (if meetOk l h k = true then meetL l h k else [])), .bool (meetOk l h k)]) []) (init [.lst 2 (prs l), .lst 1 (ints h), .lst 1 (ints k)]) := by
  refine W_of ?_
  have hll := hl
  unfold maxL at hl
  simp (config := { maxSteps := 1000000 }) (disch := first | omega | (simp only [go_sem]; omega)) only [go_sem, ↓reduceIte]
  refine W_loop (fun i : Nat => ⟨[(0, .lst 2 (prs l)), (1, .lst 1 (ints h)), (2, .lst 1 (ints k)), (8, .sl 0 0 i), (12, .int .i64 h.length), (13, .int .i64 i)], [(0, .arr 1 (ints (meetI l h k i)))], 1⟩)
    (fun i => i ≤ h.length ∧ ∀ x ∈ meetI l h k i, 0 ≤ x) (fun i => h.length - i) 0 ?_ ?_ ?_
  · simp (config := { maxSteps := 1000000 }) (disch := first | omega | (simp only [go_sem]; omega)) only [go_sem, ↓reduceIte, meetI_zero]
    rfl
  · simp [meetI_zero]
  · rintro i ⟨hi, ha⟩
    have e1 := meetI_len l h k i
    simp (config := { maxSteps := 1000000 }) (disch := first | omega | (simp only [go_sem]; omega)) only [go_sem, ↓reduceIte, c_pullback_meet_b10]
    refine bran_dec (fun c => ?_) (fun c => ?_)
    · have q := hx l (gt h i) (gt k i) hll
      have hs := meetI_succ l h k i
      have ht := meetI_take l h k (n := i + 1) (m := h.length) (by omega)
      generalize idx (fun p => decide (p = ⟨gt h i, gt k i⟩)) l 0 = y at *
      simp (config := { maxSteps := 1000000 }) (disch := first | omega | (simp only [go_sem]; omega)) only [go_sem, ↓reduceIte, e1]
      refine call_by q ?_
      simp (config := { maxSteps := 1000000 }) (disch := first | omega | (simp only [go_sem]; omega)) only [go_sem, ↓reduceIte, e1]
      refine bran_dec (fun d => ?_) (fun d => ?_)
      · have hno : meetOk l h k = false := by
          rw [← Bool.not_eq_true, meetOk, List.all_eq_true]
          intro hall
          have hm : y ∈ meetL l h k := by
            have : y ∈ (meetI l h k h.length).take (i + 1) := by rw [ht, hs]; simp
            exact List.mem_of_mem_take this
          have := hall y hm
          simp at this; omega
        simp (config := { maxSteps := 1000000 }) (disch := first | omega | (simp only [go_sem]; omega)) only [go_sem, ↓reduceIte, e1]
        rw [hno]
        simp [ints]
      · simp (config := { maxSteps := 1000000 }) (disch := first | omega | (simp only [go_sem]; omega)) only [go_sem, ↓reduceIte, e1]
        exact ⟨i + 1, by simp [hs], ⟨by omega, fun x hx => by
          rw [hs] at hx
          rcases List.mem_append.1 hx with hx | hx
          · exact ha x hx
          · simp at hx; omega⟩, by omega⟩
    · obtain rfl : i = h.length := by omega
      have hyes : meetOk l h k = true := by
        rw [meetOk, List.all_eq_true]
        intro x hx
        simpa using ha x hx
      simp (config := { maxSteps := 1000000 }) (disch := first | omega | (simp only [go_sem]; omega)) only [go_sem, ↓reduceIte, e1]
      rw [hyes]
      simp [meetL]
theorem w_pullback_Mediate (ho : K_pullback_of P F) (hv : K_morphism_Valid P F) (hm : K_pullback_meet P F) (s : Cs) (x : G) (h k : Mo) :
    W P (c_pullback_Mediate F) (Done [.c 8 true 2, .t 9] [] (.tup [mA (medM s x h k).1, .int .i64 (medM s x h k).2]) []) (init [csD s, gD x, mD h, mD k]) := by
  refine W_of ?_
  have ro := ho s
  have r1 := hv x s.b h
  have r2 := hv x s.c k
  have hl := @pbN_len s
  have hl1 := @validM_len x s.b h
  have hs1 := @validM_spec x s.b h
  have hs2 := @validM_spec x s.c k
  have hmd : medM s x h k = if medErr s x h k ≠ 0 then (m0, medErr s x h k) else
    if meetOk (pbN s) h.n k.n = true ∧ meetOk (pbE s) h.e k.e = true then (⟨meetL (pbN s) h.n k.n, meetL (pbE s) h.e k.e⟩, 0) else (m0, 11) := rfl
  have hE : medErr s x h k = if pbErr s ≠ 0 then pbErr s else if validM x s.b h ≠ 0 then validM x s.b h else validM x s.c k := rfl
  generalize medErr s x h k = er at *
  generalize medM s x h k = md at *
  generalize pbErr s = e0 at *
  generalize validM x s.b h = e1 at *
  generalize validM x s.c k = e2 at *
  generalize pbN s = ns at *
  generalize pbE s = es at *
  generalize pbG s = gg at *
  obtain ⟨⟨bn, be⟩, ⟨cn, ce⟩, ⟨dn, de⟩, ⟨fn, fe⟩, ⟨gn, ge⟩⟩ := s
  obtain ⟨xn, xe⟩ := x
  obtain ⟨hn, he⟩ := h
  obtain ⟨kn, ke⟩ := k
  obtain ⟨ggn, gge⟩ := gg
  simp only [csD, gD, mD] at ro r1 r2 ⊢
  simp (config := { maxSteps := 1000000 }) (disch := first | omega | (simp only [go_sem]; omega)) only [go_sem, ↓reduceIte]
  refine call_by ro ?_
  simp (config := { maxSteps := 1000000 }) (disch := first | omega | (simp only [go_sem]; omega)) only [go_sem, ↓reduceIte]
  refine bran_dec (fun c => ?_) (fun c => ?_)
  · subst c
    rw [if_neg (by simp)] at hE
    obtain ⟨p1, p2, _⟩ := hl rfl
    rw [if_pos rfl, if_pos rfl] at *
    simp (config := { maxSteps := 1000000 }) (disch := first | omega | (simp only [go_sem]; omega)) only [go_sem, ↓reduceIte]
    refine call_by r1 ?_
    simp (config := { maxSteps := 1000000 }) (disch := first | omega | (simp only [go_sem]; omega)) only [go_sem, ↓reduceIte]
    refine bran_dec (fun c => ?_) (fun c => ?_)
    · subst c
      rw [if_neg (by simp)] at hE
      subst hE
      obtain ⟨q1, q2, _⟩ := hl1 rfl
      obtain ⟨_, _, q3, q4, _⟩ := hs1 rfl
      simp (config := { maxSteps := 1000000 }) (disch := first | omega | (simp only [go_sem]; omega)) only [go_sem, ↓reduceIte]
      refine call_by r2 ?_
      simp (config := { maxSteps := 1000000 }) (disch := first | omega | (simp only [go_sem]; omega)) only [go_sem, ↓reduceIte]
      refine bran_ndec (fun c => ?_) (fun c => ?_)
      · rw [if_pos c] at hmd
        subst hmd
        simp (config := { maxSteps := 1000000 }) (disch := first | omega | (simp only [go_sem]; omega)) only [go_sem, ↓reduceIte]
        simp [m0, mA, ints]
      · subst c
        rw [if_neg (by simp)] at hmd
        obtain ⟨_, _, q5, q6, _⟩ := hs2 rfl
        simp only at q1 q2 q3 q4 q5 q6 hmd
        have t1 := hm ns hn kn (by unfold maxL; omega) (by omega) (by omega)
        have t2 := hm es he ke (by unfold maxL; omega) (by omega) (by omega)
        generalize meetOk ns hn kn = o1 at *
        generalize meetOk es he ke = o2 at *
        generalize meetL ns hn kn = l1 at *
        generalize meetL es he ke = l2 at *
        simp (config := { maxSteps := 1000000 }) (disch := first | omega | (simp only [go_sem]; omega)) only [go_sem, ↓reduceIte]
        refine call_by t1 ?_
        simp (config := { maxSteps := 1000000 }) (disch := first | omega | (simp only [go_sem]; omega)) only [go_sem, ↓reduceIte]
        refine call_by t2 ?_
        cases o1
        · rw [if_neg (by simp)] at hmd
          subst hmd
          simp (config := { maxSteps := 1000000 }) (disch := first | omega | (simp only [go_sem]; omega)) only [go_sem, ↓reduceIte]
          simp [m0, mA, ints]
        · cases o2
          · rw [if_neg (by simp)] at hmd
            subst hmd
            simp (config := { maxSteps := 1000000 }) (disch := first | omega | (simp only [go_sem]; omega)) only [go_sem, ↓reduceIte]
            simp [m0, mA, ints]
          · rw [if_pos (by simp)] at hmd
            subst hmd
            simp (config := { maxSteps := 1000000 }) (disch := first | omega | (simp only [go_sem]; omega)) only [go_sem, ↓reduceIte, mA]
            try simp
    · rw [if_pos c] at hE
      subst hE
      rw [if_pos c] at hmd
      subst hmd
      simp (config := { maxSteps := 1000000 }) (disch := first | omega | (simp only [go_sem]; omega)) only [go_sem, ↓reduceIte, c]
      simp [m0, mA, ints]
  · rw [if_pos c] at hE
    subst hE
    rw [if_pos c] at hmd
    subst hmd
    simp (config := { maxSteps := 1000000 }) (disch := first | omega | (simp only [go_sem]; omega)) only [go_sem, ↓reduceIte, c]
    simp [m0, mA, ints]
end
end Go.Am
namespace Go.Am
open Go
set_option linter.unusedVariables false
set_option linter.unusedSimpArgs false
/- pullback.Check -/
def c_pullback_Check_r0 (F : String → Nat) : List LI := [⟨some 4, .bx (.t 0), none⟩,
  ⟨some 5, .bx (.t 1), none⟩,
  ⟨some 6, .bx (.t 2), none⟩,
  ⟨some 7, .bx (.t 3), none⟩,
  ⟨some 8, .mov (.k (.bool false)), none⟩]
def c_pullback_Check_r1 (F : String → Nat) : List LI := [⟨some 13, .load true 10 (.t 4), none⟩,
  ⟨some 14, .load true 2 (.t 5), none⟩,
  ⟨some 15, .load true 2 (.t 6), none⟩,
  ⟨some 16, .load true 2 (.t 7), none⟩,
  ⟨some 17, .call (F "pullback.Mediate") [.t 13, .t 14, .t 15, .t 16] [], none⟩,
  ⟨some 12, .mov (.t 17), none⟩,
  ⟨some 18, .ext (.t 12) 0, none⟩,
  ⟨some 19, .ext (.t 12) 1, none⟩,
  ⟨some 9, .alloc [.nl 1, .nl 1], none⟩,
  ⟨none, .store 2 (.t 9) (.t 18), none⟩,
  ⟨some 10, .mov (.t 19), none⟩]
def c_pullback_Check_r2 (F : String → Nat) : List LI := [⟨some 20, .mov (.t 10), none⟩,
  ⟨some 21, .bin .neq (.t 20) (.k (.int .i64 (0))), none⟩]
def c_pullback_Check_r3 (F : String → Nat) : List LI := [⟨some 8, .mov (.k (.bool false)), none⟩]
def c_pullback_Check_r4 (F : String → Nat) : List LI := [⟨some 23, .load true 10 (.t 4), none⟩,
  ⟨some 24, .call (F "pullback.of") [.t 23] [], none⟩,
  ⟨some 22, .mov (.t 24), none⟩,
  ⟨some 25, .ext (.t 22) 0, none⟩,
  ⟨some 26, .ext (.t 22) 1, none⟩,
  ⟨some 11, .alloc [.nl 2, .nl 2, .nl 1, .nl 3], none⟩,
  ⟨none, .store 4 (.t 11) (.t 25), none⟩,
  ⟨some 10, .mov (.t 26), none⟩]
def c_pullback_Check_r5 (F : String → Nat) : List LI := [⟨some 27, .mov (.t 10), none⟩,
  ⟨some 28, .bin .eql (.t 27) (.k (.int .i64 (0))), none⟩,
  ⟨some 29, .mov (.t 28), none⟩,
  ⟨some 30, .load true 2 (.t 5), some (29, true)⟩,
  ⟨some 31, .fad 2 (.t 11), some (29, true)⟩,
  ⟨some 32, .load true 2 (.t 31), some (29, true)⟩,
  ⟨some 33, .load true 2 (.t 9), some (29, true)⟩,
  ⟨some 34, .call (F "morphism.Injective") [.t 30, .t 32, .t 33] [], some (29, true)⟩,
  ⟨some 35, .pick (.t 29) (.t 34) (.k (.bool false)), none⟩,
  ⟨some 36, .mov (.t 35), none⟩,
  ⟨some 37, .load true 2 (.t 5), some (36, true)⟩,
  ⟨some 38, .fad 2 (.t 11), some (36, true)⟩,
  ⟨some 39, .load true 2 (.t 38), some (36, true)⟩,
  ⟨some 40, .load true 2 (.t 9), some (36, true)⟩,
  ⟨some 41, .call (F "morphism.Surjective") [.t 37, .t 39, .t 40] [], some (36, true)⟩,
  ⟨some 42, .pick (.t 36) (.t 41) (.k (.bool false)), none⟩,
  ⟨some 8, .mov (.t 42), none⟩]
def c_pullback_Check (F : String → Nat) : LC := (.seq (.reg (c_pullback_Check_r0 F) [4, 5, 6, 7]) (.seq (.reg (c_pullback_Check_r1 F) [4, 5, 9, 10]) (.seq (.seq (.reg (c_pullback_Check_r2 F) [4, 5, 9, 21]) (.cond (.t 21) (.seq (.reg (c_pullback_Check_r3 F) [8]) .ret) .skip)) (.seq (.reg (c_pullback_Check_r4 F) [5, 9, 10, 11]) (.seq (.reg (c_pullback_Check_r5 F) [8]) .ret)))))
def h_pullback_Check : Hints := ⟨[], fun _ => [], tab [(0, [4, 5, 6, 7]), (1, [4, 5, 9, 10]), (2, [4, 5, 9, 21]), (3, [8]), (4, [5, 9, 10, 11]), (5, [8])], tab []⟩

attribute [go_sem] c_pullback_Check_r0 c_pullback_Check_r1 c_pullback_Check_r2 c_pullback_Check_r3 c_pullback_Check_r4 c_pullback_Check_r5 c_pullback_Check
def checkM (s : Cs) (a : G) (h k : Mo) : Bool := decide ((medM s a h k).2 = 0) && (injM a (pbG s) (medM s a h k).1 && surM a (pbG s) (medM s a h k).1)
section
variable (P : Program) (F : String → Nat)
def K_pullback_Check : Prop := ∀ (s : Cs) (x : G) (h k : Mo), FC P (F "pullback.Check") [csD s, gD x, mD h, mD k] (.bool (checkM s x h k)) []
end
section
variable {P : Program} {F : String → Nat} {α : Type}
end
end Go.Am
namespace Go.Am
open Go
set_option linter.unusedVariables false
set_option linter.unusedSimpArgs false
section
variable (P : Program) (F : String → Nat)
end
section
variable {P : Program} {F : String → Nat} {α : Type}
theorem w_pullback_Check (hm : K_pullback_Mediate P F) (ho : K_pullback_of P F) (hi : K_morphism_Injective P F) (hj : K_morphism_Surjective P F) (s : Cs) (x : G) (h k : Mo) :
    W P (c_pullback_Check F) (Done [.t 8] [] (.bool (checkM s x h k)) []) (init [csD s, gD x, mD h, mD k]) := by
  refine W_of ?_
  have r1 := hm s x h k
  have r2 := ho s
  have hc : checkM s x h k = (decide ((medM s x h k).2 = 0) && (injM x (pbG s) (medM s x h k).1 && surM x (pbG s) (medM s x h k).1)) := rfl
  have hp : (medM s x h k).2 = 0 → pbErr s = 0 := by
    unfold medM
    split
    · rename_i h1; intro h2; exact absurd h2 h1
    · rename_i h1
      intro _
      have h1 := Decidable.not_not.1 h1
      unfold medErr at h1
      split at h1
      · rename_i h2; exact absurd h1 h2
      · rename_i h2; simpa using h2
  have r3 := hi x (pbG s) (medM s x h k).1
  have r4 := hj x (pbG s) (medM s x h k).1
  generalize injM x (pbG s) (medM s x h k).1 = b1 at *
  generalize surM x (pbG s) (medM s x h k).1 = b2 at *
  generalize checkM s x h k = cm at *
  generalize medM s x h k = md at *
  generalize pbErr s = e0 at *
  generalize pbG s = gg at *
  generalize pbN s = ns at *
  generalize pbE s = es at *
  obtain ⟨⟨mn, me⟩, er⟩ := md
  obtain ⟨ggn, gge⟩ := gg
  simp only [csD, gD, mD, mA] at *
  subst hc
  simp (config := { maxSteps := 1000000 }) (disch := first | omega | (simp only [go_sem]; omega)) only [go_sem, ↓reduceIte]
  refine call_by r1 ?_
  simp (config := { maxSteps := 1000000 }) (disch := first | omega | (simp only [go_sem]; omega)) only [go_sem, ↓reduceIte]
  refine bran_ndec (fun c => ?_) (fun c => ?_)
  · simp (config := { maxSteps := 1000000 }) (disch := first | omega | (simp only [go_sem]; omega)) only [go_sem, ↓reduceIte, c]
    try simp
  · subst c
    have hp := hp rfl
    subst hp
    simp (config := { maxSteps := 1000000 }) (disch := first | omega | (simp only [go_sem]; omega)) only [go_sem, ↓reduceIte]
    refine call_by r2 ?_
    simp (config := { maxSteps := 1000000 }) (disch := first | omega | (simp only [go_sem]; omega)) only [go_sem, ↓reduceIte]
    refine call_by r3 ?_
    cases b1
    · simp (config := { maxSteps := 1000000 }) (disch := first | omega | (simp only [go_sem]; omega)) only [go_sem, ↓reduceIte]
      try simp
    · simp (config := { maxSteps := 1000000 }) (disch := first | omega | (simp only [go_sem]; omega)) only [go_sem, ↓reduceIte]
      refine call_by r4 ?_
      simp (config := { maxSteps := 1000000 }) (disch := first | omega | (simp only [go_sem]; omega)) only [go_sem, ↓reduceIte]
      try simp
end
end Go.Am
namespace Go.Am
open Go
set_option linter.unusedVariables false
set_option linter.unusedSimpArgs false
def bls (l : List Bool) : List D := l.map .bool
theorem bls_length (l : List Bool) : (bls l).length = l.length := by simp [bls]
theorem bls_at {l : List Bool} {j : Int} (h0 : 0 ≤ j) (h : j < l.length) : (bls l)[j.toNat]? = some (.bool (gt l j)) := by
  unfold bls
  rw [List.getElem?_map, get_gt h0 h]; rfl
theorem bls_atn {l : List Bool} {i : Nat} (h : i < l.length) : (bls l)[i]? = some (.bool (gt l i)) := by
  have := bls_at (l := l) (j := i) (by omega) (by omega)
  simpa using this
theorem bls_set {l : List Bool} {i : Nat} {b : Bool} : (bls l).set i (.bool b) = bls (l.set i b) := by simp [bls, List.map_set]
theorem bls_rep {n : Nat} {b : Bool} : List.replicate n (.bool b) = bls (List.replicate n b) := by simp [bls]
theorem bls_app (l m : List Bool) : bls l ++ bls m = bls (l ++ m) := by simp [bls]
theorem flat_bls (l : List Bool) : (bls l).all D.flatE = true := by simp [bls, D.flatE, D.flat0]
attribute [go_sem] bls_length bls_at bls_set bls_rep bls_app flat_bls
attribute [go_sem low] bls_atn
/-- An ascending list of numbers below a number. -/
structure AscL (l : List Int) (n : Nat) : Prop where
  p : l.Pairwise (· < ·)
  b : ∀ x ∈ l, 0 ≤ x ∧ x < n
def dangP (g : G) (p : Mo) : Bool := p.e.any fun x => !(decide ((gt g.e x).f ∈ p.n) && decide ((gt g.e x).o ∈ p.n))
def rightP (g : G) (p : Mo) : Int := if ascG g.n.length none p.n ≠ 0 then ascG g.n.length none p.n else if ascG g.e.length none p.e ≠ 0 then ascG g.e.length none p.e else if dangP g p = true then 14 else 0
def validP (g : G) (p : Mo) : Int := if validG g ≠ 0 then validG g else rightP g p
/-- A part that is right. -/
structure PK (g : G) (p : Mo) : Prop where
  v : validG g = 0
  n : AscL p.n g.n.length
  e : AscL p.e g.e.length
  d : ∀ x ∈ p.e, (gt g.e x).f ∈ p.n ∧ (gt g.e x).o ∈ p.n
/-- The least part with some nodes and edges. -/
def endsL (g : G) (es : List Int) : List Int := es.flatMap fun x => [(gt g.e x).f, (gt g.e x).o]
section
theorem sel_mem {p : Nat → Bool} {n : Nat} {x : Int} : x ∈ sel p n ↔ ∃ k : Nat, k < n ∧ p k = true ∧ x = k := by
  unfold sel
  simp only [List.mem_map, List.mem_filter, List.mem_range]
  exact ⟨fun ⟨k, ⟨h1, h2⟩, h3⟩ => ⟨k, h1, h2, h3.symm⟩, fun ⟨k, h1, h2, h3⟩ => ⟨k, ⟨h1, h2⟩, h3.symm⟩⟩
theorem sel_memN {p : Nat → Bool} {n k : Nat} : (k : Int) ∈ sel p n ↔ k < n ∧ p k = true := by
  rw [sel_mem]
  exact ⟨fun ⟨j, h1, h2, h3⟩ => by obtain rfl : k = j := by omega
                                   exact ⟨h1, h2⟩, fun ⟨h1, h2⟩ => ⟨k, h1, h2, rfl⟩⟩
theorem sel_pair (p : Nat → Bool) (n : Nat) : (sel p n).Pairwise (· < ·) := by
  unfold sel
  rw [List.pairwise_map]
  exact (List.pairwise_lt_range.sublist List.filter_sublist).imp fun h => by omega
theorem sel_asc (p : Nat → Bool) (n : Nat) : AscL (sel p n) n := ⟨sel_pair p n, fun x hx => by obtain ⟨k, h1, _, rfl⟩ := sel_mem.1 hx; omega⟩
theorem asc_ext : ∀ {a b : List Int}, a.Pairwise (· < ·) → b.Pairwise (· < ·) → (∀ x, x ∈ a ↔ x ∈ b) → a = b
  | [], [], _, _, _ => rfl
  | [], y :: b, _, _, h => absurd ((h y).2 (by simp)) (by simp)
  | x :: a, [], _, _, h => absurd ((h x).1 (by simp)) (by simp)
  | x :: a, y :: b, ha, hb, h => by
    rw [List.pairwise_cons] at ha hb
    have e : x = y := by
      have h1 := (h x).1 (by simp)
      have h2 := (h y).2 (by simp)
      simp only [List.mem_cons] at h1 h2
      rcases h1 with h1 | h1
      · exact h1
      rcases h2 with h2 | h2
      · exact h2.symm
      have := hb.1 x h1
      have := ha.1 y h2
      omega
    subst e
    rw [asc_ext ha.2 hb.2 fun z => ?_]
    have hz := h z
    simp only [List.mem_cons] at hz
    constructor
    · intro m
      rcases hz.1 (.inr m) with r | r
      · have := ha.1 z m; omega
      · exact r
    · intro m
      rcases hz.2 (.inr m) with r | r
      · have := hb.1 z m; omega
      · exact r
theorem asc_sub : ∀ {b a : List Int}, a.Pairwise (· < ·) → b.Pairwise (· < ·) → (∀ x ∈ a, x ∈ b) → a.length ≤ b.length ∧ (a.length = b.length → a = b)
  | [], a, _, _, h => by
    cases a with
    | nil => simp
    | cons x a => exact absurd (h x (by simp)) (by simp)
  | y :: b, [], _, _, _ => by simp
  | y :: b, x :: a, ha, hb, h => by
    have ha' := ha
    rw [List.pairwise_cons] at ha hb
    by_cases e : x = y
    · subst e
      have ih := asc_sub (b := b) (a := a) ha.2 hb.2 fun z hz => by
        have := h z (by simp [hz])
        simp only [List.mem_cons] at this
        rcases this with r | r
        · have := ha.1 z hz; omega
        · exact r
      simp only [List.length_cons]
      exact ⟨by omega, fun q => by rw [ih.2 (by omega)]⟩
    · have hx : x ∈ b := by
        have := h x (by simp)
        simp only [List.mem_cons] at this
        rcases this with r | r
        · exact absurd r e
        · exact r
      have hyx := hb.1 x hx
      have ih := asc_sub (b := b) (a := x :: a) ha' hb.2 fun z hz => by
        have := h z hz
        simp only [List.mem_cons] at this hz
        rcases this with r | r
        · rcases hz with s | s
          · omega
          · have := ha.1 z s; omega
        · exact r
      simp only [List.length_cons] at ih ⊢
      exact ⟨by omega, fun q => by omega⟩
theorem ascG_iff {n : Nat} : ∀ {l : List Int}, ascG n none l = 0 ↔ AscL l n := fun {l} => by
  constructor
  · intro h
    obtain ⟨h1, _, h3⟩ := asc_gt n l none h
    exact ⟨h3, fun x hx => by have := h1 x hx; omega⟩
  · rintro ⟨h1, h2⟩
    have gen : ∀ (l : List Int) (q : Option Int), l.Pairwise (· < ·) → (∀ x ∈ l, 0 ≤ x ∧ x < n) → (∀ z, q = some z → ∀ x ∈ l, z < x) → ascG n q l = 0 := by
      intro l
      induction l with
      | nil => intro q _ _ _; rfl
      | cons x l ih =>
        intro q hp hb hq
        rw [List.pairwise_cons] at hp
        have hx := hb x (by simp)
        have hle : leO x q = false := by
          cases q with
          | none => rfl
          | some z =>
            have := hq z rfl x (by simp)
            simp only [leO, decide_eq_false_iff_not]
            omega
        have := ih (some x) hp.2 (fun y hy => hb y (by simp [hy])) (fun z hz y hy => by cases hz; exact hp.1 y hy)
        simp only [ascG]
        rw [if_pos (by omega), hle]
        simpa using this
    exact gen l none h1 h2 (fun z hz => by cases hz)
theorem validP_ok {g : G} {p : Mo} : validP g p = 0 ↔ PK g p := by
  unfold validP
  split
  · rename_i h; exact ⟨fun e => absurd e h, fun e => absurd e.v h⟩
  rename_i h1
  unfold rightP
  split
  · rename_i h; exact ⟨fun e => absurd e h, fun e => absurd (ascG_iff.2 e.n) h⟩
  rename_i h2
  split
  · rename_i h; exact ⟨fun e => absurd e h, fun e => absurd (ascG_iff.2 e.e) h⟩
  rename_i h3
  split
  · rename_i h
    refine ⟨fun e => absurd e (by decide), fun e => ?_⟩
    unfold dangP at h
    rw [List.any_eq_true] at h
    obtain ⟨x, hx, hd⟩ := h
    have := e.d x hx
    simp [this] at hd
  · rename_i h
    refine ⟨fun _ => ⟨Decidable.not_not.1 h1, ascG_iff.1 (Decidable.not_not.1 h2), ascG_iff.1 (Decidable.not_not.1 h3), fun x hx => ?_⟩, fun _ => rfl⟩
    unfold dangP at h
    rw [Bool.not_eq_true, List.any_eq_false] at h
    have := h x hx
    simpa using this
theorem asc_len {l : List Int} {n : Nat} (h : AscL l n) : l.length ≤ n := by
  have := (asc_sub (b := nums 0 n) h.p (by
    unfold nums
    rw [List.pairwise_map]
    exact List.pairwise_lt_range.imp fun h => by omega) fun x hx => nums_mem.2 (h.b x hx)).1
  rwa [nums_len] at this
theorem PK.len {g : G} {p : Mo} (h : PK g p) : p.n.length ≤ 40 ∧ p.e.length ≤ 80 := by
  have := valid_spec h.v
  have := asc_len h.n
  have := asc_len h.e
  omega
theorem ends_mem {g : G} {es : List Int} {x : Int} : x ∈ endsL g es ↔ ∃ e ∈ es, (gt g.e e).f = x ∨ (gt g.e e).o = x := by
  unfold endsL
  simp only [List.mem_flatMap, List.mem_cons, List.not_mem_nil, or_false]
  exact ⟨fun ⟨e, h1, h2⟩ => ⟨e, h1, h2.imp Eq.symm Eq.symm⟩, fun ⟨e, h1, h2⟩ => ⟨e, h1, h2.imp Eq.symm Eq.symm⟩⟩
end
end Go.Am
