/- Pairs of numbers; injective morphisms. -/
import Derived.Test.YtoeomfoohdheoaaSkB
namespace Go.Am
open Go
set_option linter.unusedVariables false
set_option linter.unusedSimpArgs false
/- r06.Distinct -/
def c_r06_Distinct_r0 (F : String → Nat) : List LI := [⟨some 2, .mov (.k (.bool false)), none⟩]
def c_r06_Distinct_r1 (F : String → Nat) : List LI := [⟨some 3, .mov (.k (.int .i64 (0))), none⟩]
def c_r06_Distinct_r2 (F : String → Nat) : List LI := [⟨some 5, .mov (.t 3), none⟩,
  ⟨some 6, .mov (.t 0), none⟩,
  ⟨some 7, .len (.t 6), none⟩,
  ⟨some 8, .bin .lss (.t 5) (.t 7), none⟩]
def c_r06_Distinct_r3 (F : String → Nat) : List LI := [⟨some 4, .mov (.k (.int .i64 (0))), none⟩]
def c_r06_Distinct_r4 (F : String → Nat) : List LI := [⟨some 11, .mov (.t 4), none⟩,
  ⟨some 12, .mov (.t 3), none⟩,
  ⟨some 13, .bin .lss (.t 11) (.t 12), none⟩]
def c_r06_Distinct_r5 (F : String → Nat) : List LI := [⟨some 16, .mov (.t 0), none⟩,
  ⟨some 17, .mov (.t 3), none⟩,
  ⟨some 18, .iad 1 (.t 16) (.t 17), none⟩,
  ⟨some 19, .load false 1 (.t 18), none⟩,
  ⟨some 20, .mov (.t 0), none⟩,
  ⟨some 21, .mov (.t 4), none⟩,
  ⟨some 22, .iad 1 (.t 20) (.t 21), none⟩,
  ⟨some 23, .load false 1 (.t 22), none⟩,
  ⟨some 24, .bin .eql (.t 19) (.t 23), none⟩]
def c_r06_Distinct_r6 (F : String → Nat) : List LI := [⟨some 2, .mov (.k (.bool false)), none⟩]
def c_r06_Distinct_r7 (F : String → Nat) : List LI := [⟨some 14, .mov (.t 4), none⟩,
  ⟨some 15, .bin .add (.t 14) (.k (.int .i64 (1))), none⟩,
  ⟨some 4, .mov (.t 15), none⟩]
def c_r06_Distinct_b8 (F : String → Nat) : LC := (.seq (.seq (.reg (c_r06_Distinct_r4 F) [0, 3, 4, 13]) (.cond (.t 13) .skip (.exit 2))) (.seq (.block 3 (.seq (.dreg [] (c_r06_Distinct_r5 F) [0, 3, 4, 24]) (.cond (.t 24) (.seq (.reg (c_r06_Distinct_r6 F) [2]) .ret) .skip))) (.reg (c_r06_Distinct_r7 F) [0, 3, 4])))
def c_r06_Distinct_r9 (F : String → Nat) : List LI := [⟨some 9, .mov (.t 3), none⟩,
  ⟨some 10, .bin .add (.t 9) (.k (.int .i64 (1))), none⟩,
  ⟨some 3, .mov (.t 10), none⟩]
def c_r06_Distinct_b10 (F : String → Nat) : LC := (.seq (.seq (.reg (c_r06_Distinct_r2 F) [0, 3, 8]) (.cond (.t 8) .skip (.exit 0))) (.seq (.block 1 (.seq (.reg (c_r06_Distinct_r3 F) [0, 3, 4]) (.block 2 (.loop [0, 3, 4] (c_r06_Distinct_b8 F))))) (.reg (c_r06_Distinct_r9 F) [0, 3])))
def c_r06_Distinct_r11 (F : String → Nat) : List LI := [⟨some 2, .mov (.k (.bool true)), none⟩]
def c_r06_Distinct (F : String → Nat) : LC := (.seq (.reg (c_r06_Distinct_r0 F) [0]) (.seq (.seq (.reg (c_r06_Distinct_r1 F) [0, 3]) (.block 0 (.loop [0, 3] (c_r06_Distinct_b10 F)))) (.seq (.reg (c_r06_Distinct_r11 F) [2]) .ret)))
def h_r06_Distinct : Hints := ⟨[], fun _ => [], tab [(0, [0]), (1, [0, 3]), (2, [0, 3, 8]), (3, [0, 3]), (4, [0, 3, 4]), (5, [0, 3, 4, 13]), (6, [0, 3, 4]), (7, [0, 3, 4, 24]), (8, [2]), (9, [2])], tab [(2, [0, 3]), (5, [0, 3, 4])]⟩

attribute [go_sem] c_r06_Distinct_r0 c_r06_Distinct_r1 c_r06_Distinct_r2 c_r06_Distinct_r3 c_r06_Distinct_r4 c_r06_Distinct_r5 c_r06_Distinct_r6 c_r06_Distinct_r7 c_r06_Distinct_r9 c_r06_Distinct_r11 c_r06_Distinct
/-- A pair. -/
structure Pr where
  a : Int
  b : Int
  deriving DecidableEq, Inhabited
def prD (x : Pr) : D := .agg [.int .i64 x.a, .int .i64 x.b]
def prs (l : List Pr) : List D := l.map prD
theorem prs_length (l : List Pr) : (prs l).length = l.length := by simp [prs]
theorem prs_snoc (l : List Pr) (a b : Int) : prs l ++ [.agg [.int .i64 a, .int .i64 b]] = prs (l ++ [⟨a, b⟩]) := by simp [prs, prD]
theorem prs_app (l m : List Pr) : prs l ++ prs m = prs (l ++ m) := by simp [prs]
theorem flat_prs (l : List Pr) : (prs l).all D.flatE = true := by simp [prs, prD, D.flatE, D.flat0]
theorem prs_at {l : List Pr} {j : Int} (h0 : 0 ≤ j) (h : j < l.length) : (prs l)[j.toNat]? = some (.agg [.int .i64 (gt l j).a, .int .i64 (gt l j).b]) := by
  unfold prs
  rw [List.getElem?_map, get_gt h0 h]; rfl
theorem prs_atn {l : List Pr} {i : Nat} (h : i < l.length) : (prs l)[i]? = some (.agg [.int .i64 (gt l i).a, .int .i64 (gt l i).b]) := by
  have := prs_at (l := l) (j := i) (by omega) (by omega)
  simpa using this
theorem prs_set {l : List Pr} {i : Nat} {a b : Int} : (prs l).set i (.agg [.int .i64 a, .int .i64 b]) = prs (l.set i ⟨a, b⟩) := by simp [prs, List.map_set, prD]
theorem prs_take {l : List Pr} {n : Nat} : (prs l).take n = prs (l.take n) := by simp [prs, List.map_take]
theorem prs_drop {l : List Pr} {n : Nat} : (prs l).drop n = prs (l.drop n) := by simp [prs, List.map_drop]
theorem prs_nil : prs [] = [] := rfl
attribute [go_sem] prs_length prs_snoc prs_app flat_prs prs_at prs_set prs_take prs_drop
attribute [go_sem low] prs_atn
def g0 : G := ⟨[], []⟩
def m0 : Mo := ⟨[], []⟩
/-- The numbers below `n` that have a property. -/
def sel (p : Nat → Bool) (n : Nat) : List Int := ((List.range n).filter p).map fun i : Nat => (i : Int)
theorem sel_zero (p : Nat → Bool) : sel p 0 = [] := rfl
theorem sel_succ (p : Nat → Bool) (n : Nat) : sel p (n + 1) = if p n = true then sel p n ++ [(n : Int)] else sel p n := by
  simp only [sel, List.range_succ, List.filter_append, List.filter_cons, List.filter_nil, List.map_append]
  split <;> simp
theorem sel_len (p : Nat → Bool) (n : Nat) : (sel p n).length ≤ n := by
  simp only [sel, List.length_map]
  exact Nat.le_trans (List.length_filter_le _ _) (by simp)
def distinct (l : List Int) : Bool := decide l.Nodup
section
variable (P : Program) (F : String → Nat)
def K_r06_Distinct : Prop := ∀ l : List Int, l.length ≤ maxL → FC P (F "r06.Distinct") [.lst 1 (ints l)] (.bool (distinct l)) []
end
section
variable {P : Program} {F : String → Nat} {α : Type}
theorem validM_spec {a b : G} {m : Mo} (h : validM a b m = 0) : validG a = 0 ∧ validG b = 0 ∧ m.n.length = a.n.length ∧ m.e.length = a.e.length ∧ nodeE b.n m.n a.n = 0 ∧ edgeE b.e m.n m.e a.e = 0 := by
  unfold validM at h
  split at h
  · rename_i h1; exact absurd h h1
  · rename_i h1
    split at h
    · rename_i h2; exact absurd h h2
    · rename_i h2
      split at h
      · cases h
      · rename_i h3
        split at h
        · rename_i h4; exact absurd h h4
        · rename_i h4
          exact ⟨by simpa using h1, by simpa using h2, by omega, by omega, by simpa using h4, h⟩
/-- No element is equal to one ahead of it, up to here. -/
theorem nodup_take {l : List Int} {i : Nat} (h : i < l.length) : (l.take (i + 1)).Nodup ↔ (l.take i).Nodup ∧ ∀ k : Nat, k < i → gt l i ≠ gt l k := by
  rw [take_gt h, List.nodup_append]
  simp only [List.nodup_cons, List.not_mem_nil, not_false_eq_true, List.nodup_nil, and_self, true_and, List.mem_cons, or_false, forall_eq, ne_eq]
  refine and_congr_right fun _ => ⟨fun hh k hk e => ?_, fun hh x hx e => ?_⟩
  · refine hh (gt l k) ?_ e.symm
    rw [gt_nat (by omega)]
    exact List.mem_take_iff_getElem.2 ⟨k, by omega, rfl⟩
  · obtain ⟨k, hk, rfl⟩ := List.mem_take_iff_getElem.1 hx
    refine hh k (by omega) ?_
    rw [gt_nat (l := l) (i := k) (by omega)]
    exact e.symm
theorem w_r06_Distinct (l : List Int) (hl : l.length ≤ maxL) : W P (c_r06_Distinct F) (Done [.t 2] [] (.bool (distinct l)) []) (init [.lst 1 (ints l)]) := by
  refine W_of ?_
  unfold maxL at hl
  simp (config := { maxSteps := 1000000 }) (disch := first | omega | (simp only [go_sem]; omega)) only [go_sem, ↓reduceIte]
  refine W_loop (fun i : Nat => ⟨[(0, .lst 1 (ints l)), (3, .int .i64 i)], [], 0⟩) (fun i => i ≤ l.length ∧ (l.take i).Nodup) (fun i => l.length - i) 0 ?_ ?_ ?_
  · simp (config := { maxSteps := 1000000 }) (disch := first | omega | (simp only [go_sem]; omega)) only [go_sem, ↓reduceIte]
    rfl
  · simp
  · rintro i ⟨hi, hn⟩
    simp (config := { maxSteps := 1000000 }) (disch := first | omega | (simp only [go_sem]; omega)) only [go_sem, ↓reduceIte, c_r06_Distinct_b10]
    refine bran_dec (fun c => ?_) (fun c => ?_)
    · have ht := nodup_take (l := l) (i := i) (by omega)
      simp (config := { maxSteps := 1000000 }) (disch := first | omega | (simp only [go_sem]; omega)) only [go_sem, ↓reduceIte]
      refine W_loop (fun k : Nat => ⟨[(0, .lst 1 (ints l)), (3, .int .i64 i), (4, .int .i64 k)], [], 0⟩) (fun k => k ≤ i ∧ ∀ j : Nat, j < k → gt l i ≠ gt l j) (fun k => i - k) 0 ?_ ?_ ?_
      · simp (config := { maxSteps := 1000000 }) (disch := first | omega | (simp only [go_sem]; omega)) only [go_sem, ↓reduceIte]
        rfl
      · simp
      · rintro k ⟨hk, hd⟩
        simp (config := { maxSteps := 1000000 }) (disch := first | omega | (simp only [go_sem]; omega)) only [go_sem, ↓reduceIte, c_r06_Distinct_b8]
        refine bran_dec (fun d => ?_) (fun d => ?_)
        · simp (config := { maxSteps := 1000000 }) (disch := first | omega | (simp only [go_sem]; omega)) only [go_sem, ↓reduceIte]
          refine bran_dec (fun e => ?_) (fun e => ?_)
          · simp (config := { maxSteps := 1000000 }) (disch := first | omega | (simp only [go_sem]; omega)) only [go_sem, ↓reduceIte]
            have : ¬ l.Nodup := fun h => by
              have h2 := ht.1 (h.sublist (List.take_sublist _ _))
              exact h2.2 k (by omega) e
            simp [distinct, this]
          · simp (config := { maxSteps := 1000000 }) (disch := first | omega | (simp only [go_sem]; omega)) only [go_sem, ↓reduceIte]
            refine ⟨k + 1, by simp, ⟨by omega, fun j hj => ?_⟩, by omega⟩
            by_cases hjk : j = k
            · subst hjk; exact e
            · exact hd j (by omega)
        · simp (config := { maxSteps := 1000000 }) (disch := first | omega | (simp only [go_sem]; omega)) only [go_sem, ↓reduceIte]
          exact ⟨i + 1, by simp, ⟨by omega, ht.2 ⟨hn, fun j hj => hd j (by omega)⟩⟩, by omega⟩
    · simp (config := { maxSteps := 1000000 }) (disch := first | omega | (simp only [go_sem]; omega)) only [go_sem, ↓reduceIte]
      rw [List.take_of_length_le (by omega)] at hn
      simp [distinct, hn]
end
end Go.Am
