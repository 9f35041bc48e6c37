/- The graph package and its reference: parts. -/
/- Drafts of graphs; what laws take. -/
/- Lists of bools as data; ascending lists; parts of graphs, plain. -/
/- Parts of graphs: whether they are right; membership. -/
/- Closing of parts; Dangling, Identified, Of and Check of complements. -/
/- Parts by bits; cases of descriptions; the law ComplementCovers. -/
/- Unions of parts; the law ComplementLeast. -/
/- Unions, intersections, images and boundaries of parts, plain. -/
/- Unions, intersections, images and preimages of parts: the walks. -/
/- The reference's Join and Meet; Preimage and Image. -/
/- Parts: deletion of numbers, intersections, images and preimages: the walks. -/
/- The graph package: Components; copies. -/
import Derived.Test.YtbpjoianghehmaaSpPa
import Derived.Test.YtbpjoianghehmaaSpPb
import Derived.Test.YtbpjoianghehmaaSpPc
import Derived.Test.YtbpjoianghehmaaAmRu
namespace Go.Am
open Go
set_option linter.unusedVariables false
set_option linter.unusedSimpArgs false
/- r05.Numbers -/
def c_r05_Numbers_r0 (F : String → Nat) : List LI := [⟨some 4, .mov (.k (.nl 1)), none⟩]
def c_r05_Numbers_r1 (F : String → Nat) : List LI := [⟨some 5, .mov (.k (.nl 1)), none⟩]
def c_r05_Numbers_r2 (F : String → Nat) : List LI := [⟨some 6, .mov (.k (.int .i64 (0))), none⟩]
def c_r05_Numbers_r3 (F : String → Nat) : List LI := [⟨some 7, .mov (.t 6), none⟩,
  ⟨some 8, .mov (.t 1), none⟩,
  ⟨some 9, .bin .lss (.t 7) (.t 8), none⟩]
def c_r05_Numbers_r4 (F : String → Nat) : List LI := [⟨some 12, .mov (.t 5), none⟩,
  ⟨some 13, .mov (.t 0), none⟩,
  ⟨some 14, .mov (.t 6), none⟩,
  ⟨some 15, .bin .add (.t 13) (.t 14), none⟩,
  ⟨some 16, .buildSl 1 8 (.int .i64 (0)) 1 [(0, .t 15)], none⟩,
  ⟨some 17, .app 1 8 (.t 12) (.t 16), none⟩,
  ⟨some 5, .mov (.t 17), none⟩]
def c_r05_Numbers_r5 (F : String → Nat) : List LI := [⟨some 10, .mov (.t 6), none⟩,
  ⟨some 11, .bin .add (.t 10) (.k (.int .i64 (1))), none⟩,
  ⟨some 6, .mov (.t 11), none⟩]
def c_r05_Numbers_b6 (F : String → Nat) : LC := (.seq (.seq (.reg (c_r05_Numbers_r3 F) [0, 1, 5, 6, 9]) (.cond (.t 9) .skip (.exit 0))) (.seq (.block 1 (.reg (c_r05_Numbers_r4 F) [0, 1, 5, 6])) (.reg (c_r05_Numbers_r5 F) [0, 1, 5, 6])))
def c_r05_Numbers_r7 (F : String → Nat) : List LI := [⟨some 18, .mov (.t 5), none⟩,
  ⟨some 4, .mov (.t 18), none⟩]
def c_r05_Numbers (F : String → Nat) : LC := (.seq (.reg (c_r05_Numbers_r0 F) [0, 1]) (.seq (.reg (c_r05_Numbers_r1 F) [0, 1, 5]) (.seq (.seq (.reg (c_r05_Numbers_r2 F) [0, 1, 5, 6]) (.block 0 (.loop [0, 1, 5, 6] (c_r05_Numbers_b6 F)))) (.seq (.reg (c_r05_Numbers_r7 F) [4]) .ret))))
def h_r05_Numbers : Hints := ⟨[], fun _ => [], tab [(0, [0, 1]), (1, [0, 1, 5]), (2, [0, 1, 5, 6]), (3, [0, 1, 5, 6, 9]), (4, [0, 1, 5, 6]), (5, [0, 1, 5, 6]), (6, [4])], tab [(3, [0, 1, 5, 6])]⟩

attribute [go_sem] c_r05_Numbers_r0 c_r05_Numbers_r1 c_r05_Numbers_r2 c_r05_Numbers_r3 c_r05_Numbers_r4 c_r05_Numbers_r5 c_r05_Numbers_r7 c_r05_Numbers
section
variable (P : Program) (F : String → Nat)
def K_r05_Numbers : Prop := ∀ (f : Int) (n : Nat), 0 ≤ f → f ≤ 1000000 → n ≤ 1000000 → FC P (F "r05.Numbers") [.int .i64 f, .int .i64 n] (.arr 1 (ints (nums f n))) []
end
section
variable {P : Program} {F : String → Nat} {α : Type}
theorem nums_succ (f : Int) (n : Nat) : nums f (n + 1) = nums f n ++ [f + n] := by simp [nums, List.range_succ]
theorem nums_zero (f : Int) : nums f 0 = [] := by simp [nums]
theorem w_r05_Numbers (f : Int) (n : Nat) (h0 : 0 ≤ f) (h1 : f ≤ 1000000) (h2 : n ≤ 1000000) : W P (c_r05_Numbers F) (Done [.t 4] [] (.arr 1 (ints (nums f n))) []) (init [.int .i64 f, .int .i64 n]) := by
  refine W_of ?_
  simp (config := { maxSteps := 1000000 }) (disch := first | omega | (simp only [go_sem]; omega)) only [go_sem, ↓reduceIte]
  refine W_loop (fun i : Nat => ⟨[(0, .int .i64 f), (1, .int .i64 n), (5, .sl 0 0 i), (6, .int .i64 i)], [(0, .arr 1 (ints (nums f i)))], 1⟩) (fun i => i ≤ n) (fun i => n - i) 0 ?_ ?_ ?_
  · simp (config := { maxSteps := 1000000 }) (disch := first | omega | (simp only [go_sem]; omega)) only [go_sem, ↓reduceIte, nums_zero, ints_nil]
    rfl
  · omega
  · intro i hi
    have e1 := nums_len f i
    simp (config := { maxSteps := 1000000 }) (disch := first | omega | (simp only [go_sem]; omega)) only [go_sem, ↓reduceIte, c_r05_Numbers_b6]
    refine bran_dec (fun a => ?_) (fun a => ?_)
    · simp (config := { maxSteps := 1000000 }) (disch := first | omega | (simp only [go_sem]; omega)) only [go_sem, ↓reduceIte, e1]
      exact ⟨i + 1, by simp [nums_succ], by omega, by omega⟩
    · obtain rfl : i = n := by omega
      simp (config := { maxSteps := 1000000 }) (disch := first | omega | (simp only [go_sem]; omega)) only [go_sem, ↓reduceIte, e1]
end
end Go.Am
namespace Go.Am
open Go
set_option linter.unusedVariables false
set_option linter.unusedSimpArgs false
section
variable (P : Program) (F : String → Nat)
end
def shI : Sh := .int .i64
def shIs : Sh := .slc 1 8 shI
def shE : Sh := .cat [shI, shI, shI]
def shG : Sh := .cat [shIs, .slc 3 24 shE]
theorem rd_int {x : D} (h : HasEl shI x) : ∃ n : Int, x = .int .i64 n ∧ IntKind.i64.min ≤ n ∧ n ≤ IntKind.i64.max := by
  simpa only [shI, HasEl] using h
theorem rd_intl : ∀ {xs : List D}, (∀ y ∈ xs, HasEl shI y) → ∃ l : List Int, xs = ints l
  | [], _ => ⟨[], rfl⟩
  | x :: xs, h => by
    obtain ⟨l, rfl⟩ := rd_intl (xs := xs) fun y hy => h y (by simp [hy])
    obtain ⟨n, rfl, _⟩ := rd_int (h x (by simp))
    exact ⟨n :: l, rfl⟩
theorem rd_ints {x : D} (h : HasEl shIs x) : ∃ l : List Int, x = .lst 1 (ints l) ∧ l.length ≤ 20000000000000 := by
  simp only [shIs, HasEl] at h
  obtain ⟨xs, rfl, h1, h2⟩ := h
  obtain ⟨l, rfl⟩ := rd_intl h2
  refine ⟨l, rfl, ?_⟩
  rw [ints_length] at h1
  unfold reachBytes at h1
  omega
theorem rd_edge {x : D} (h : HasEl shE x) : ∃ e : E, x = edD e := by
  simp only [shE, HasEl] at h
  obtain ⟨ds, rfl, h⟩ := h
  simp only [shI, HasShs, HasEl] at h
  obtain ⟨_, _, rfl, ⟨a, rfl, _⟩, _, _, rfl, ⟨b, rfl, _⟩, _, _, rfl, ⟨c, rfl, _⟩, rfl⟩ := h
  exact ⟨⟨a, b, c⟩, rfl⟩
theorem rd_edl : ∀ {xs : List D}, (∀ y ∈ xs, HasEl shE y) → ∃ l : List E, xs = eds l
  | [], _ => ⟨[], rfl⟩
  | x :: xs, h => by
    obtain ⟨l, rfl⟩ := rd_edl (xs := xs) fun y hy => h y (by simp [hy])
    obtain ⟨n, rfl⟩ := rd_edge (h x (by simp))
    exact ⟨n :: l, rfl⟩
theorem rd_graph {x : D} (h : HasEl shG x) : ∃ g : G, x = gD g := by
  simp only [shG, HasEl] at h
  obtain ⟨ds, rfl, h⟩ := h
  have h' : ∃ a b, ds = a :: b ∧ HasEl shIs a ∧ HasShs [.slc 3 24 shE] b := by simpa only [shIs, HasShs] using h
  obtain ⟨a, _, rfl, h1, h'⟩ := h'
  obtain ⟨l, rfl, _⟩ := rd_ints h1
  simp only [HasShs, HasEl] at h'
  obtain ⟨_, _, rfl, ⟨xs, rfl, _, h3⟩, rfl⟩ := h'
  obtain ⟨es, rfl⟩ := rd_edl h3
  exact ⟨⟨l, es⟩, rfl⟩
section
variable {P : Program} {F : String → Nat} {α : Type}
end
end Go.Am
namespace Go.Am
open Go
set_option linter.unusedVariables false
set_option linter.unusedSimpArgs false
section
theorem gt_setB {α : Type} [Inhabited α] {l : List α} {k i : Nat} {v : α} (hi : i < l.length) : gt (l.set k v) i = if k = i then v else gt l i := by
  rw [gt_nat (by simpa using hi), gt_nat hi, List.getElem_set]
theorem sel_asc (p : Nat → Bool) (n : Nat) : AscL (sel p n) n := ⟨sel_pair p n, fun x hx => by obtain ⟨k, h1, _, rfl⟩ := sel_mem.1 hx; omega⟩
theorem closeP_ok {g : G} {ns es : List Int} (hv : validG g = 0) : PK g (closeP g ns es) := by
  refine ⟨hv, sel_asc _ _, sel_asc _ _, fun x hx => ?_⟩
  obtain ⟨k, hk, hk2, rfl⟩ := sel_mem.1 hx
  simp only [decide_eq_true_eq] at hk2
  obtain ⟨_, t2, t3⟩ := edge_fits hv (i := k) (by omega)
  obtain ⟨a, ha, ha2⟩ := gtI t2
  obtain ⟨b, hb, hb2⟩ := gtI t3
  simp only [closeP]
  rw [ha2, hb2, sel_memN, sel_memN]
  refine ⟨⟨ha, ?_⟩, hb, ?_⟩
  · simp only [Bool.or_eq_true, decide_eq_true_eq]
    exact .inr (ends_mem.2 ⟨k, hk2, .inl ha2⟩)
  · simp only [Bool.or_eq_true, decide_eq_true_eq]
    exact .inr (ends_mem.2 ⟨k, hk2, .inr hb2⟩)
end
end Go.Am
namespace Go.Am
open Go
set_option linter.unusedVariables false
set_option linter.unusedSimpArgs false
attribute [local irreducible] W
/- r07.has -/
def c_r07_has_r0 (F : String → Nat) : List LI := [⟨some 4, .mov (.k (.bool false)), none⟩]
def c_r07_has_r1 (F : String → Nat) : List LI := [⟨some 5, .mov (.k (.int .i64 (0))), none⟩]
def c_r07_has_r2 (F : String → Nat) : List LI := [⟨some 6, .mov (.t 5), none⟩,
  ⟨some 7, .mov (.t 0), none⟩,
  ⟨some 8, .len (.t 7), none⟩,
  ⟨some 9, .bin .lss (.t 6) (.t 8), none⟩]
def c_r07_has_r3 (F : String → Nat) : List LI := [⟨some 12, .mov (.t 0), none⟩,
  ⟨some 13, .mov (.t 5), none⟩,
  ⟨some 14, .iad 1 (.t 12) (.t 13), none⟩,
  ⟨some 15, .load false 1 (.t 14), none⟩,
  ⟨some 16, .mov (.t 1), none⟩,
  ⟨some 17, .bin .eql (.t 15) (.t 16), none⟩]
def c_r07_has_r4 (F : String → Nat) : List LI := [⟨some 4, .mov (.k (.bool true)), none⟩]
def c_r07_has_r5 (F : String → Nat) : List LI := [⟨some 10, .mov (.t 5), none⟩,
  ⟨some 11, .bin .add (.t 10) (.k (.int .i64 (1))), none⟩,
  ⟨some 5, .mov (.t 11), none⟩]
def c_r07_has_b6 (F : String → Nat) : LC := (.seq (.seq (.reg (c_r07_has_r2 F) [0, 1, 5, 9]) (.cond (.t 9) .skip (.exit 0))) (.seq (.block 1 (.seq (.reg (c_r07_has_r3 F) [0, 1, 5, 17]) (.cond (.t 17) (.seq (.reg (c_r07_has_r4 F) [4]) .ret) .skip))) (.reg (c_r07_has_r5 F) [0, 1, 5])))
def c_r07_has_r7 (F : String → Nat) : List LI := [⟨some 4, .mov (.k (.bool false)), none⟩]
def c_r07_has (F : String → Nat) : LC := (.seq (.reg (c_r07_has_r0 F) [0, 1]) (.seq (.seq (.reg (c_r07_has_r1 F) [0, 1, 5]) (.block 0 (.loop [0, 1, 5] (c_r07_has_b6 F)))) (.seq (.reg (c_r07_has_r7 F) [4]) .ret)))
def h_r07_has : Hints := ⟨[], fun _ => [], tab [(0, [0, 1]), (1, [0, 1, 5]), (2, [0, 1, 5, 9]), (3, [0, 1, 5]), (4, [0, 1, 5, 17]), (5, [4]), (6, [4])], tab [(2, [0, 1, 5])]⟩

/- r07.into -/
def c_r07_into_r0 (F : String → Nat) : List LI := [⟨some 4, .mov (.k (.nl 1)), none⟩]
def c_r07_into_r1 (F : String → Nat) : List LI := [⟨some 5, .mov (.k (.nl 1)), none⟩]
def c_r07_into_r2 (F : String → Nat) : List LI := [⟨some 6, .mov (.k (.int .i64 (0))), none⟩]
def c_r07_into_r3 (F : String → Nat) : List LI := [⟨some 7, .mov (.t 6), none⟩,
  ⟨some 8, .mov (.t 0), none⟩,
  ⟨some 9, .len (.t 8), none⟩,
  ⟨some 10, .bin .lss (.t 7) (.t 9), none⟩]
def c_r07_into_r4 (F : String → Nat) : List LI := [⟨some 13, .mov (.t 1), none⟩,
  ⟨some 14, .mov (.t 0), none⟩,
  ⟨some 15, .mov (.t 6), none⟩,
  ⟨some 16, .iad 1 (.t 14) (.t 15), none⟩,
  ⟨some 17, .load false 1 (.t 16), none⟩,
  ⟨some 18, .call (F "r07.has") [.t 13, .t 17] [], none⟩]
def c_r07_into_r5 (F : String → Nat) : List LI := [⟨some 19, .mov (.t 5), none⟩,
  ⟨some 20, .mov (.t 6), none⟩,
  ⟨some 21, .buildSl 1 8 (.int .i64 (0)) 1 [(0, .t 20)], none⟩,
  ⟨some 22, .app 1 8 (.t 19) (.t 21), none⟩,
  ⟨some 5, .mov (.t 22), none⟩]
def c_r07_into_r6 (F : String → Nat) : List LI := [⟨some 11, .mov (.t 6), none⟩,
  ⟨some 12, .bin .add (.t 11) (.k (.int .i64 (1))), none⟩,
  ⟨some 6, .mov (.t 12), none⟩]
def c_r07_into_b7 (F : String → Nat) : LC := (.seq (.seq (.reg (c_r07_into_r3 F) [0, 1, 5, 6, 10]) (.cond (.t 10) .skip (.exit 0))) (.seq (.block 1 (.seq (.reg (c_r07_into_r4 F) [0, 1, 5, 6, 18]) (.cond (.t 18) (.reg (c_r07_into_r5 F) [0, 1, 5, 6]) .skip))) (.reg (c_r07_into_r6 F) [0, 1, 5, 6])))
def c_r07_into_r8 (F : String → Nat) : List LI := [⟨some 23, .mov (.t 5), none⟩,
  ⟨some 4, .mov (.t 23), none⟩]
def c_r07_into (F : String → Nat) : LC := (.seq (.reg (c_r07_into_r0 F) [0, 1]) (.seq (.reg (c_r07_into_r1 F) [0, 1, 5]) (.seq (.seq (.reg (c_r07_into_r2 F) [0, 1, 5, 6]) (.block 0 (.loop [0, 1, 5, 6] (c_r07_into_b7 F)))) (.seq (.reg (c_r07_into_r8 F) [4]) .ret))))
def h_r07_into : Hints := ⟨[], fun _ => [], tab [(0, [0, 1]), (1, [0, 1, 5]), (2, [0, 1, 5, 6]), (3, [0, 1, 5, 6, 10]), (4, [0, 1, 5, 6]), (5, [0, 1, 5, 6, 18]), (6, [0, 1, 5, 6]), (7, [4])], tab [(3, [0, 1, 5, 6])]⟩

/- r07.ascending -/
def c_r07_ascending_r0 (F : String → Nat) : List LI := [⟨some 4, .mov (.k (.int .i64 (0))), none⟩]
def c_r07_ascending_r1 (F : String → Nat) : List LI := [⟨some 5, .mov (.k (.int .i64 (0))), none⟩]
def c_r07_ascending_r2 (F : String → Nat) : List LI := [⟨some 6, .mov (.t 5), none⟩,
  ⟨some 7, .mov (.t 0), none⟩,
  ⟨some 8, .len (.t 7), none⟩,
  ⟨some 9, .bin .lss (.t 6) (.t 8), none⟩]
def c_r07_ascending_r3 (F : String → Nat) : List LI := [⟨some 12, .mov (.t 0), none⟩,
  ⟨some 13, .mov (.t 5), none⟩,
  ⟨some 14, .iad 1 (.t 12) (.t 13), none⟩,
  ⟨some 15, .load false 1 (.t 14), none⟩,
  ⟨some 16, .bin .lss (.t 15) (.k (.int .i64 (0))), none⟩,
  ⟨some 17, .mov (.t 16), none⟩,
  ⟨some 18, .mov (.t 0), some (17, false)⟩,
  ⟨some 19, .mov (.t 5), some (17, false)⟩,
  ⟨some 20, .iad 1 (.t 18) (.t 19), some (17, false)⟩,
  ⟨some 21, .load false 1 (.t 20), some (17, false)⟩,
  ⟨some 22, .mov (.t 1), some (17, false)⟩,
  ⟨some 23, .bin .geq (.t 21) (.t 22), some (17, false)⟩,
  ⟨some 24, .pick (.t 17) (.k (.bool true)) (.t 23), none⟩]
def c_r07_ascending_r4 (F : String → Nat) : List LI := [⟨some 4, .mov (.k (.int .i64 (6))), none⟩]
def c_r07_ascending_r5 (F : String → Nat) : List LI := [⟨some 25, .mov (.t 5), none⟩,
  ⟨some 26, .bin .gtr (.t 25) (.k (.int .i64 (0))), none⟩,
  ⟨some 27, .mov (.t 26), none⟩,
  ⟨some 28, .mov (.t 0), some (27, true)⟩,
  ⟨some 29, .mov (.t 5), some (27, true)⟩,
  ⟨some 30, .iad 1 (.t 28) (.t 29), some (27, true)⟩,
  ⟨some 31, .load false 1 (.t 30), some (27, true)⟩,
  ⟨some 32, .mov (.t 0), some (27, true)⟩,
  ⟨some 33, .mov (.t 5), some (27, true)⟩,
  ⟨some 34, .bin .sub (.t 33) (.k (.int .i64 (1))), some (27, true)⟩,
  ⟨some 35, .iad 1 (.t 32) (.t 34), some (27, true)⟩,
  ⟨some 36, .load false 1 (.t 35), some (27, true)⟩,
  ⟨some 37, .bin .leq (.t 31) (.t 36), some (27, true)⟩,
  ⟨some 38, .pick (.t 27) (.t 37) (.k (.bool false)), none⟩]
def c_r07_ascending_r6 (F : String → Nat) : List LI := [⟨some 4, .mov (.k (.int .i64 (12))), none⟩]
def c_r07_ascending_r7 (F : String → Nat) : List LI := [⟨some 10, .mov (.t 5), none⟩,
  ⟨some 11, .bin .add (.t 10) (.k (.int .i64 (1))), none⟩,
  ⟨some 5, .mov (.t 11), none⟩]
def c_r07_ascending_b8 (F : String → Nat) : LC := (.seq (.seq (.reg (c_r07_ascending_r2 F) [0, 1, 5, 9]) (.cond (.t 9) .skip (.exit 0))) (.seq (.block 1 (.seq (.seq (.reg (c_r07_ascending_r3 F) [0, 1, 5, 24]) (.cond (.t 24) (.seq (.reg (c_r07_ascending_r4 F) [4]) .ret) .skip)) (.seq (.dreg [] (c_r07_ascending_r5 F) [0, 1, 5, 38]) (.cond (.t 38) (.seq (.reg (c_r07_ascending_r6 F) [4]) .ret) .skip)))) (.reg (c_r07_ascending_r7 F) [0, 1, 5])))
def c_r07_ascending_r9 (F : String → Nat) : List LI := [⟨some 4, .mov (.k (.int .i64 (0))), none⟩]
def c_r07_ascending (F : String → Nat) : LC := (.seq (.reg (c_r07_ascending_r0 F) [0, 1]) (.seq (.seq (.reg (c_r07_ascending_r1 F) [0, 1, 5]) (.block 0 (.loop [0, 1, 5] (c_r07_ascending_b8 F)))) (.seq (.reg (c_r07_ascending_r9 F) [4]) .ret)))
def h_r07_ascending : Hints := ⟨[], fun _ => [], tab [(0, [0, 1]), (1, [0, 1, 5]), (2, [0, 1, 5, 9]), (3, [0, 1, 5]), (4, [0, 1, 5, 24]), (5, [4]), (6, [0, 1, 5, 38]), (7, [4]), (8, [4])], tab [(2, [0, 1, 5])]⟩

/- r07.Right -/
def c_r07_Right_r0 (F : String → Nat) : List LI := [⟨some 2, .bx (.t 0), none⟩,
  ⟨some 3, .bx (.t 1), none⟩,
  ⟨some 4, .mov (.k (.int .i64 (0))), none⟩]
def c_r07_Right_r1 (F : String → Nat) : List LI := [⟨some 9, .fad 0 (.t 3), none⟩,
  ⟨some 10, .load false 1 (.t 9), none⟩,
  ⟨some 11, .fad 0 (.t 2), none⟩,
  ⟨some 12, .load false 1 (.t 11), none⟩,
  ⟨some 13, .len (.t 12), none⟩,
  ⟨some 14, .call (F "r07.ascending") [.t 10, .t 13] [], none⟩,
  ⟨some 5, .mov (.t 14), none⟩]
def c_r07_Right_r2 (F : String → Nat) : List LI := [⟨some 15, .mov (.t 5), none⟩,
  ⟨some 16, .bin .neq (.t 15) (.k (.int .i64 (0))), none⟩]
def c_r07_Right_r3 (F : String → Nat) : List LI := [⟨some 17, .mov (.t 5), none⟩,
  ⟨some 4, .mov (.t 17), none⟩]
def c_r07_Right_r4 (F : String → Nat) : List LI := [⟨some 18, .fad 1 (.t 3), none⟩,
  ⟨some 19, .load false 1 (.t 18), none⟩,
  ⟨some 20, .fad 1 (.t 2), none⟩,
  ⟨some 21, .load false 1 (.t 20), none⟩,
  ⟨some 22, .len (.t 21), none⟩,
  ⟨some 23, .call (F "r07.ascending") [.t 19, .t 22] [], none⟩,
  ⟨some 6, .mov (.t 23), none⟩]
def c_r07_Right_r5 (F : String → Nat) : List LI := [⟨some 24, .mov (.t 6), none⟩,
  ⟨some 25, .bin .neq (.t 24) (.k (.int .i64 (0))), none⟩]
def c_r07_Right_r6 (F : String → Nat) : List LI := [⟨some 26, .mov (.t 6), none⟩,
  ⟨some 4, .mov (.t 26), none⟩]
def c_r07_Right_r7 (F : String → Nat) : List LI := [⟨some 7, .mov (.k (.int .i64 (0))), none⟩]
def c_r07_Right_r8 (F : String → Nat) : List LI := [⟨some 27, .mov (.t 7), none⟩,
  ⟨some 28, .fad 1 (.t 3), none⟩,
  ⟨some 29, .load false 1 (.t 28), none⟩,
  ⟨some 30, .len (.t 29), none⟩,
  ⟨some 31, .bin .lss (.t 27) (.t 30), none⟩]
def c_r07_Right_r9 (F : String → Nat) : List LI := [⟨some 34, .fad 1 (.t 2), none⟩,
  ⟨some 35, .load false 1 (.t 34), none⟩,
  ⟨some 36, .fad 1 (.t 3), none⟩,
  ⟨some 37, .load false 1 (.t 36), none⟩,
  ⟨some 38, .mov (.t 7), none⟩,
  ⟨some 39, .iad 1 (.t 37) (.t 38), none⟩,
  ⟨some 40, .load false 1 (.t 39), none⟩,
  ⟨some 41, .iad 3 (.t 35) (.t 40), none⟩,
  ⟨some 42, .load true 3 (.t 41), none⟩,
  ⟨some 8, .alloc [.int .i64 (0), .int .i64 (0), .int .i64 (0)], none⟩,
  ⟨none, .store 3 (.t 8) (.t 42), none⟩]
def c_r07_Right_r10 (F : String → Nat) : List LI := [⟨some 43, .fad 0 (.t 3), none⟩,
  ⟨some 44, .load false 1 (.t 43), none⟩,
  ⟨some 45, .fad 1 (.t 8), none⟩,
  ⟨some 46, .load false 1 (.t 45), none⟩,
  ⟨some 47, .call (F "r07.has") [.t 44, .t 46] [], none⟩,
  ⟨some 48, .not (.t 47), none⟩,
  ⟨some 49, .mov (.t 48), none⟩,
  ⟨some 50, .fad 0 (.t 3), some (49, false)⟩,
  ⟨some 51, .load false 1 (.t 50), some (49, false)⟩,
  ⟨some 52, .fad 2 (.t 8), some (49, false)⟩,
  ⟨some 53, .load false 1 (.t 52), some (49, false)⟩,
  ⟨some 54, .call (F "r07.has") [.t 51, .t 53] [], some (49, false)⟩,
  ⟨some 55, .not (.t 54), some (49, false)⟩,
  ⟨some 56, .pick (.t 49) (.k (.bool true)) (.t 55), none⟩]
def c_r07_Right_r11 (F : String → Nat) : List LI := [⟨some 4, .mov (.k (.int .i64 (14))), none⟩]
def c_r07_Right_r12 (F : String → Nat) : List LI := [⟨some 32, .mov (.t 7), none⟩,
  ⟨some 33, .bin .add (.t 32) (.k (.int .i64 (1))), none⟩,
  ⟨some 7, .mov (.t 33), none⟩]
def c_r07_Right_b13 (F : String → Nat) : LC := (.seq (.seq (.reg (c_r07_Right_r8 F) [2, 3, 7, 31]) (.cond (.t 31) .skip (.exit 0))) (.seq (.block 1 (.seq (.dreg [] (c_r07_Right_r9 F) [2, 3, 7, 8]) (.seq (.reg (c_r07_Right_r10 F) [2, 3, 7, 56]) (.cond (.t 56) (.seq (.reg (c_r07_Right_r11 F) [4]) .ret) .skip)))) (.reg (c_r07_Right_r12 F) [2, 3, 7])))
def c_r07_Right_r14 (F : String → Nat) : List LI := [⟨some 4, .mov (.k (.int .i64 (0))), none⟩]
def c_r07_Right (F : String → Nat) : LC := (.seq (.reg (c_r07_Right_r0 F) [2, 3]) (.seq (.seq (.reg (c_r07_Right_r1 F) [2, 3, 5]) (.seq (.reg (c_r07_Right_r2 F) [2, 3, 5, 16]) (.cond (.t 16) (.seq (.reg (c_r07_Right_r3 F) [4]) .ret) .skip))) (.seq (.seq (.reg (c_r07_Right_r4 F) [2, 3, 6]) (.seq (.reg (c_r07_Right_r5 F) [2, 3, 6, 25]) (.cond (.t 25) (.seq (.reg (c_r07_Right_r6 F) [4]) .ret) .skip))) (.seq (.seq (.reg (c_r07_Right_r7 F) [2, 3, 7]) (.block 0 (.loop [2, 3, 7] (c_r07_Right_b13 F)))) (.seq (.reg (c_r07_Right_r14 F) [4]) .ret)))))
def h_r07_Right : Hints := ⟨[], fun _ => [], tab [(0, [2, 3]), (1, [2, 3, 5]), (2, [2, 3, 5, 16]), (3, [4]), (4, [2, 3, 6]), (5, [2, 3, 6, 25]), (6, [4]), (7, [2, 3, 7]), (8, [2, 3, 7, 31]), (9, [2, 3, 7]), (10, [2, 3, 7, 8]), (11, [2, 3, 7, 56]), (12, [4]), (13, [4])], tab [(8, [2, 3, 7])]⟩

/- r07.Valid -/
def c_r07_Valid_r0 (F : String → Nat) : List LI := [⟨some 2, .bx (.t 0), none⟩,
  ⟨some 3, .bx (.t 1), none⟩,
  ⟨some 4, .mov (.k (.int .i64 (0))), none⟩]
def c_r07_Valid_r1 (F : String → Nat) : List LI := [⟨some 6, .load true 2 (.t 2), none⟩,
  ⟨some 7, .call (F "r05.Valid") [.t 6] [], none⟩,
  ⟨some 5, .mov (.t 7), none⟩]
def c_r07_Valid_r2 (F : String → Nat) : List LI := [⟨some 8, .mov (.t 5), none⟩,
  ⟨some 9, .bin .neq (.t 8) (.k (.int .i64 (0))), none⟩]
def c_r07_Valid_r3 (F : String → Nat) : List LI := [⟨some 10, .mov (.t 5), none⟩,
  ⟨some 4, .mov (.t 10), none⟩]
def c_r07_Valid_r4 (F : String → Nat) : List LI := [⟨some 11, .load true 2 (.t 2), none⟩,
  ⟨some 12, .load true 2 (.t 3), none⟩,
  ⟨some 13, .call (F "r07.Right") [.t 11, .t 12] [], none⟩,
  ⟨some 4, .mov (.t 13), none⟩]
def c_r07_Valid (F : String → Nat) : LC := (.seq (.reg (c_r07_Valid_r0 F) [2, 3]) (.seq (.seq (.reg (c_r07_Valid_r1 F) [2, 3, 5]) (.seq (.reg (c_r07_Valid_r2 F) [2, 3, 5, 9]) (.cond (.t 9) (.seq (.reg (c_r07_Valid_r3 F) [4]) .ret) .skip))) (.seq (.reg (c_r07_Valid_r4 F) [4]) .ret)))
def h_r07_Valid : Hints := ⟨[], fun _ => [], tab [(0, [2, 3]), (1, [2, 3, 5]), (2, [2, 3, 5, 9]), (3, [4]), (4, [4])], tab []⟩

/- r07.Few -/
def c_r07_Few_r0 (F : String → Nat) : List LI := [⟨some 2, .bx (.t 0), none⟩,
  ⟨some 4, .mov (.k (.bool false)), none⟩]
def c_r07_Few_r1 (F : String → Nat) : List LI := [⟨some 5, .fad 0 (.t 2), none⟩,
  ⟨some 6, .load false 1 (.t 5), none⟩,
  ⟨some 7, .len (.t 6), none⟩,
  ⟨some 8, .fad 1 (.t 2), none⟩,
  ⟨some 9, .load false 1 (.t 8), none⟩,
  ⟨some 10, .len (.t 9), none⟩,
  ⟨some 11, .bin .add (.t 7) (.t 10), none⟩,
  ⟨some 12, .mov (.t 1), none⟩,
  ⟨some 13, .bin .leq (.t 11) (.t 12), none⟩,
  ⟨some 4, .mov (.t 13), none⟩]
def c_r07_Few (F : String → Nat) : LC := (.seq (.reg (c_r07_Few_r0 F) [1, 2]) (.seq (.reg (c_r07_Few_r1 F) [4]) .ret))
def h_r07_Few : Hints := ⟨[], fun _ => [], tab [(0, [1, 2]), (1, [4])], tab []⟩

attribute [go_sem] c_r07_has_r0 c_r07_has_r1 c_r07_has_r2 c_r07_has_r3 c_r07_has_r4 c_r07_has_r5 c_r07_has_r7 c_r07_has c_r07_into_r0 c_r07_into_r1 c_r07_into_r2 c_r07_into_r3 c_r07_into_r4 c_r07_into_r5 c_r07_into_r6 c_r07_into_r8 c_r07_into c_r07_ascending_r0 c_r07_ascending_r1 c_r07_ascending_r2 c_r07_ascending_r3 c_r07_ascending_r4 c_r07_ascending_r5 c_r07_ascending_r6 c_r07_ascending_r7 c_r07_ascending_r9 c_r07_ascending c_r07_Right_r0 c_r07_Right_r1 c_r07_Right_r2 c_r07_Right_r3 c_r07_Right_r4 c_r07_Right_r5 c_r07_Right_r6 c_r07_Right_r7 c_r07_Right_r8 c_r07_Right_r9 c_r07_Right_r10 c_r07_Right_r11 c_r07_Right_r12 c_r07_Right_r14 c_r07_Right c_r07_Valid_r0 c_r07_Valid_r1 c_r07_Valid_r2 c_r07_Valid_r3 c_r07_Valid_r4 c_r07_Valid c_r07_Few_r0 c_r07_Few_r1 c_r07_Few
def intoL (l p : List Int) : List Int := sel (fun i : Nat => decide (gt l i ∈ p)) l.length
section
variable (P : Program) (F : String → Nat)
def K_r07_has : Prop := ∀ (l : List Int) (n : Int), l.length ≤ maxL → FC P (F "r07.has") [.lst 1 (ints l), .int .i64 n] (.bool (decide (n ∈ l))) []
def K_r07_into : Prop := ∀ (l p : List Int), l.length ≤ 10000 → p.length ≤ maxL → FC P (F "r07.into") [.lst 1 (ints l), .lst 1 (ints p)] (.arr 1 (ints (intoL l p))) []
def K_r07_ascending : Prop := ∀ (l : List Int) (n : Int), l.length ≤ maxL → 0 ≤ n → n ≤ 1000000 → FC P (F "r07.ascending") [.lst 1 (ints l), .int .i64 n] (.int .i64 (ascG n none l)) []
def K_r07_Right : Prop := ∀ (g : G) (p : Mo), validG g = 0 → p.n.length ≤ maxL → p.e.length ≤ maxL → FC P (F "r07.Right") [gD g, mD p] (.int .i64 (rightP g p)) []
def K_r07_Valid : Prop := ∀ (g : G) (p : Mo), p.n.length ≤ maxL → p.e.length ≤ maxL → FC P (F "r07.Valid") [gD g, mD p] (.int .i64 (validP g p)) []
def K_r07_Few : Prop := ∀ (m : Mo) (n : Int), m.n.length ≤ maxL → m.e.length ≤ maxL → FC P (F "r07.Few") [mD m, .int .i64 n] (.bool (fewM m n)) []
end
section
variable {P : Program} {F : String → Nat} {α : Type}
theorem mem_take {l : List Int} {n : Int} {i : Nat} (h : i < l.length) : n ∈ l.take (i + 1) ↔ n ∈ l.take i ∨ gt l i = n := by
  rw [take_gt h]; simp [eq_comm]
theorem w_r07_has (l : List Int) (n : Int) (hl : l.length ≤ maxL) : W P (c_r07_has F) (Done [.t 4] [] (.bool (decide (n ∈ l))) []) (init [.lst 1 (ints l), .int .i64 n]) := by
  refine W_of ?_
  unfold maxL at hl
  simp (config := { maxSteps := 1000000 }) (disch := first | omega | (simp only [go_sem]; omega)) only [go_sem, ↓reduceIte]
  refine W_loop (fun i : Nat => ⟨[(0, .lst 1 (ints l)), (1, .int .i64 n), (5, .int .i64 i)], [], 0⟩) (fun i => i ≤ l.length ∧ n ∉ l.take i) (fun i => l.length - i) 0 ?_ ?_ ?_
  · simp (config := { maxSteps := 1000000 }) (disch := first | omega | (simp only [go_sem]; omega)) only [go_sem, ↓reduceIte]
    rfl
  · simp
  · rintro i ⟨hi, hn⟩
    simp (config := { maxSteps := 1000000 }) (disch := first | omega | (simp only [go_sem]; omega)) only [go_sem, ↓reduceIte, c_r07_has_b6]
    refine bran_dec (fun c => ?_) (fun c => ?_)
    · have hm := mem_take (n := n) (l := l) (i := i) (by omega)
      simp (config := { maxSteps := 1000000 }) (disch := first | omega | (simp only [go_sem]; omega)) only [go_sem, ↓reduceIte]
      refine bran_dec (fun d => ?_) (fun d => ?_)
      · have : n ∈ l := by rw [← d]; exact gt_mem (by omega) (by omega)
        simp (config := { maxSteps := 1000000 }) (disch := first | omega | (simp only [go_sem]; omega)) only [go_sem, ↓reduceIte]
        simp [this]
      · simp (config := { maxSteps := 1000000 }) (disch := first | omega | (simp only [go_sem]; omega)) only [go_sem, ↓reduceIte]
        exact ⟨i + 1, by simp, ⟨by omega, fun h => by rcases hm.1 h with h | h; exact hn h; exact d h⟩, by omega⟩
    · obtain rfl : i = l.length := by omega
      rw [List.take_length] at hn
      simp (config := { maxSteps := 1000000 }) (disch := first | omega | (simp only [go_sem]; omega)) only [go_sem, ↓reduceIte]
      simp [hn]
theorem w_r07_into (hh : K_r07_has P F) (l p : List Int) (hl : l.length ≤ 10000) (hp : p.length ≤ maxL) : W P (c_r07_into F) (Done [.t 4] [] (.arr 1 (ints (intoL l p))) []) (init [.lst 1 (ints l), .lst 1 (ints p)]) := by
  refine W_of ?_
  simp (config := { maxSteps := 1000000 }) (disch := first | omega | (simp only [go_sem]; omega)) only [go_sem, ↓reduceIte]
  refine W_loop (fun i : Nat => ⟨[(0, .lst 1 (ints l)), (1, .lst 1 (ints p)), (5, .sl 0 0 (sel (fun i : Nat => decide (gt l i ∈ p)) i).length), (6, .int .i64 i)], [(0, .arr 1 (ints (sel (fun i : Nat => decide (gt l i ∈ p)) i)))], 1⟩) (fun i => i ≤ l.length) (fun i => l.length - i) 0 ?_ ?_ ?_
  · simp (config := { maxSteps := 1000000 }) (disch := first | omega | (simp only [go_sem]; omega)) only [go_sem, ↓reduceIte, sel_zero]
    rfl
  · simp
  · intro i hi
    have e1 := sel_len (fun i : Nat => decide (gt l i ∈ p)) i
    have hs := sel_succ (fun i : Nat => decide (gt l i ∈ p)) i
    simp (config := { maxSteps := 1000000 }) (disch := first | omega | (simp only [go_sem]; omega)) only [go_sem, ↓reduceIte, c_r07_into_b7]
    refine bran_dec (fun c => ?_) (fun c => ?_)
    · have r := hh p (gt l i) hp
      generalize decide (gt l i ∈ p) = b at *
      simp (config := { maxSteps := 1000000 }) (disch := first | omega | (simp only [go_sem]; omega)) only [go_sem, ↓reduceIte]
      refine call_by r ?_
      cases b
      · simp (config := { maxSteps := 1000000 }) (disch := first | omega | (simp only [go_sem]; omega)) only [go_sem, ↓reduceIte]
        exact ⟨i + 1, by simp [hs], by omega, by omega⟩
      · simp (config := { maxSteps := 1000000 }) (disch := first | omega | (simp only [go_sem]; omega)) only [go_sem, ↓reduceIte]
        exact ⟨i + 1, by simp [hs], by omega, by omega⟩
    · obtain rfl : i = l.length := by omega
      simp (config := { maxSteps := 1000000 }) (disch := first | omega | (simp only [go_sem]; omega)) only [go_sem, ↓reduceIte]
      try rfl
theorem w_r07_ascending (l : List Int) (n : Int) (hl : l.length ≤ maxL) (h0 : 0 ≤ n) (h1 : n ≤ 1000000) : W P (c_r07_ascending F) (Done [.t 4] [] (.int .i64 (ascG n none l)) []) (init [.lst 1 (ints l), .int .i64 n]) := by
  refine W_of ?_
  unfold maxL at hl
  simp (config := { maxSteps := 1000000 }) (disch := first | omega | (simp only [go_sem]; omega)) only [go_sem, ↓reduceIte]
  refine W_loop (fun i : Nat => ⟨[(0, .lst 1 (ints l)), (1, .int .i64 n), (5, .int .i64 i)], [], 0⟩) (fun i => i ≤ l.length ∧ ascG n none l = ascG n (prevO l i) (l.drop i)) (fun i => l.length - i) 0 ?_ ?_ ?_
  · simp (config := { maxSteps := 1000000 }) (disch := first | omega | (simp only [go_sem]; omega)) only [go_sem, ↓reduceIte]
    rfl
  · simp [prevO]
  · intro i hi
    simp (config := { maxSteps := 1000000 }) (disch := first | omega | (simp only [go_sem]; omega)) only [go_sem, ↓reduceIte, c_r07_ascending_b8]
    refine bran_dec (fun a => ?_) (fun a => ?_)
    · have hs := asc_step n l i (by omega)
      simp (config := { maxSteps := 1000000 }) (disch := first | omega | (simp only [go_sem]; omega)) only [go_sem, ↓reduceIte]
      refine bran_dec (fun b => ?_) (fun b => ?_)
      · simp (config := { maxSteps := 1000000 }) (disch := first | omega | (simp only [go_sem]; omega)) only [go_sem, ↓reduceIte, b]
        rw [hi.2, hs, if_neg (by omega)]
      · simp (config := { maxSteps := 1000000 }) (disch := first | omega | (simp only [go_sem]; omega)) only [go_sem, ↓reduceIte, b]
        refine bran_dec (fun b2 => ?_) (fun b2 => ?_)
        · simp (config := { maxSteps := 1000000 }) (disch := first | omega | (simp only [go_sem]; omega)) only [go_sem, ↓reduceIte]
          rw [hi.2, hs, if_neg (by omega)]
        · rw [if_pos (by omega)] at hs
          simp (config := { maxSteps := 1000000 }) (disch := first | omega | (simp only [go_sem]; omega)) only [go_sem, ↓reduceIte]
          refine bran_dec (fun c => ?_) (fun c => ?_)
          · simp (config := { maxSteps := 1000000 }) (disch := first | omega | (simp only [go_sem]; omega)) only [go_sem, ↓reduceIte, c]
            refine bran_dec (fun d => ?_) (fun d => ?_)
            · simp (config := { maxSteps := 1000000 }) (disch := first | omega | (simp only [go_sem]; omega)) only [go_sem, ↓reduceIte]
              rw [hi.2, hs, if_pos ⟨by omega, d⟩]
            · simp (config := { maxSteps := 1000000 }) (disch := first | omega | (simp only [go_sem]; omega)) only [go_sem, ↓reduceIte]
              exact ⟨i + 1, by simp, ⟨by omega, by rw [hi.2, hs, if_neg (fun e => d e.2)]⟩, by omega⟩
          · simp (config := { maxSteps := 1000000 }) (disch := first | omega | (simp only [go_sem]; omega)) only [go_sem, ↓reduceIte, c]
            exact ⟨i + 1, by simp, ⟨by omega, by rw [hi.2, hs, if_neg (fun e => by omega)]⟩, by omega⟩
    · simp (config := { maxSteps := 1000000 }) (disch := first | omega | (simp only [go_sem]; omega)) only [go_sem, ↓reduceIte]
      rw [hi.2, List.drop_of_length_le (by omega)]
      rfl
theorem w_r07_Right (hl : K_r07_ascending P F) (hh : K_r07_has P F) (g : G) (p : Mo) (hv : validG g = 0) (h1 : p.n.length ≤ maxL) (h2 : p.e.length ≤ maxL) : W P (c_r07_Right F) (Done [.t 4] [] (.int .i64 (rightP g p)) []) (init [gD g, mD p]) := by
  refine W_of ?_
  have vs := valid_spec hv
  have r1 := hl p.n g.n.length h1 (by omega) (by omega)
  have r2 := hl p.e g.e.length h2 (by omega) (by omega)
  have hR : rightP g p = if ascG g.n.length none p.n ≠ 0 then ascG g.n.length none p.n else if ascG g.e.length none p.e ≠ 0 then ascG g.e.length none p.e else if dangP g p = true then 14 else 0 := rfl
  rw [hR]
  by_cases c1 : ascG g.n.length none p.n = 0
  case neg =>
    rw [if_pos c1]
    generalize ascG g.n.length none p.n = v at *
    simp only [gD, mD] at *
    simp (config := { maxSteps := 1000000 }) (disch := first | omega | (simp only [go_sem]; omega)) only [go_sem, ↓reduceIte]
    refine call_by r1 ?_
    simp (config := { maxSteps := 1000000 }) (disch := first | omega | (simp only [go_sem]; omega)) only [go_sem, ↓reduceIte, c1]
  rw [if_neg (by simp [c1])]
  by_cases c2 : ascG g.e.length none p.e = 0
  case neg =>
    rw [if_pos c2]
    rw [c1] at r1
    generalize ascG g.e.length none p.e = v at *
    simp only [gD, mD] at *
    simp (config := { maxSteps := 1000000 }) (disch := first | omega | (simp only [go_sem]; omega)) only [go_sem, ↓reduceIte]
    refine call_by r1 ?_
    simp (config := { maxSteps := 1000000 }) (disch := first | omega | (simp only [go_sem]; omega)) only [go_sem, ↓reduceIte]
    refine call_by r2 ?_
    simp (config := { maxSteps := 1000000 }) (disch := first | omega | (simp only [go_sem]; omega)) only [go_sem, ↓reduceIte, c2]
  rw [if_neg (by simp [c2])]
  have a1 := ascG_iff.1 c1
  have a2 := ascG_iff.1 c2
  have q1 := asc_len a1
  have q2 := asc_len a2
  rw [c1] at r1
  rw [c2] at r2
  have hD : dangP g p = p.e.any fun x => !(decide ((gt g.e x).f ∈ p.n) && decide ((gt g.e x).o ∈ p.n)) := rfl
  have hx := fun x => hh p.n x (by unfold maxL; omega)
  clear hR c1 c2
  obtain ⟨gn, ge⟩ := g
  obtain ⟨pn, pe⟩ := p
  simp only [gD, mD] at *
  simp (config := { maxSteps := 1000000 }) (disch := first | omega | (simp only [go_sem]; omega)) only [go_sem, ↓reduceIte]
  refine call_by r1 ?_
  simp (config := { maxSteps := 1000000 }) (disch := first | omega | (simp only [go_sem]; omega)) only [go_sem, ↓reduceIte]
  refine call_by r2 ?_
  simp (config := { maxSteps := 1000000 }) (disch := first | omega | (simp only [go_sem]; omega)) only [go_sem, ↓reduceIte]
  refine W_loop (fun i : Nat => ⟨[(2, .pt 0 0), (3, .pt 1 0), (7, .int .i64 i)], [(0, .box [.lst 1 (ints gn), .lst 3 (eds ge)]), (1, .box [.lst 1 (ints pn), .lst 1 (ints pe)])], 2⟩) (fun i => i ≤ pe.length ∧ ∀ k : Nat, k < i → (gt ge (gt pe k)).f ∈ pn ∧ (gt ge (gt pe k)).o ∈ pn) (fun i => pe.length - i) 0 ?_ ?_ ?_
  · simp (config := { maxSteps := 1000000 }) (disch := first | omega | (simp only [go_sem]; omega)) only [go_sem, ↓reduceIte]
    rfl
  · exact ⟨by omega, fun k hk => by omega⟩
  · rintro i ⟨hi, hk⟩
    by_cases c : i < pe.length
    · have g1 : decide ((i : Int) < pe.length) = true := decide_eq_true (by omega)
      have hb := a2.b _ (gt_mem (l := pe) (j := i) (by omega) (by omega))
      have x1 := hx (gt ge (gt pe i)).f
      have x2 := hx (gt ge (gt pe i)).o
      by_cases d1 : (gt ge (gt pe i)).f ∈ pn
      · rw [decide_eq_true d1] at x1
        by_cases d2 : (gt ge (gt pe i)).o ∈ pn
        · rw [decide_eq_true d2] at x2
          simp (config := { maxSteps := 1000000 }) (disch := first | omega | (simp only [go_sem]; omega)) only [go_sem, ↓reduceIte, c_r07_Right_b13, g1]
          refine call_by x1 ?_
          simp (config := { maxSteps := 1000000 }) (disch := first | omega | (simp only [go_sem]; omega)) only [go_sem, ↓reduceIte]
          refine call_by x2 ?_
          simp (config := { maxSteps := 1000000 }) (disch := first | omega | (simp only [go_sem]; omega)) only [go_sem, ↓reduceIte]
          refine ⟨i + 1, by simp, ⟨by omega, fun k h => ?_⟩, by omega⟩
          by_cases e : k = i
          · subst e; exact ⟨d1, d2⟩
          · exact hk k (by omega)
        · rw [decide_eq_false d2] at x2
          have hdt : dangP ⟨gn, ge⟩ ⟨pn, pe⟩ = true := by
            rw [hD, List.any_eq_true]
            exact ⟨_, gt_mem (l := pe) (j := i) (by omega) (by omega), by simp [d2]⟩
          rw [hdt]
          simp (config := { maxSteps := 1000000 }) (disch := first | omega | (simp only [go_sem]; omega)) only [go_sem, ↓reduceIte, c_r07_Right_b13, g1]
          refine call_by x1 ?_
          simp (config := { maxSteps := 1000000 }) (disch := first | omega | (simp only [go_sem]; omega)) only [go_sem, ↓reduceIte]
          refine call_by x2 ?_
          simp (config := { maxSteps := 1000000 }) (disch := first | omega | (simp only [go_sem]; omega)) only [go_sem, ↓reduceIte]
          try rfl
      · rw [decide_eq_false d1] at x1
        have hdt : dangP ⟨gn, ge⟩ ⟨pn, pe⟩ = true := by
          rw [hD, List.any_eq_true]
          exact ⟨_, gt_mem (l := pe) (j := i) (by omega) (by omega), by simp [d1]⟩
        rw [hdt]
        simp (config := { maxSteps := 1000000 }) (disch := first | omega | (simp only [go_sem]; omega)) only [go_sem, ↓reduceIte, c_r07_Right_b13, g1]
        refine call_by x1 ?_
        simp (config := { maxSteps := 1000000 }) (disch := first | omega | (simp only [go_sem]; omega)) only [go_sem, ↓reduceIte]
        try rfl
    · have g1 : decide ((i : Int) < pe.length) = false := decide_eq_false (by omega)
      obtain rfl : i = pe.length := by omega
      have hdt : dangP ⟨gn, ge⟩ ⟨pn, pe⟩ = false := by
        rw [hD, List.any_eq_false]
        intro x hx
        obtain ⟨k, k1, k2⟩ := mem_gt hx
        have := hk k k1
        rw [k2] at this
        simp [this]
      rw [hdt]
      simp (config := { maxSteps := 1000000 }) (disch := first | omega | (simp only [go_sem]; omega)) only [go_sem, ↓reduceIte, c_r07_Right_b13, g1]
      try rfl
theorem w_r07_Valid (hv : K_r05_Valid P F) (hp : K_r07_Right P F) (g : G) (p : Mo) (h1 : p.n.length ≤ maxL) (h2 : p.e.length ≤ maxL) : W P (c_r07_Valid F) (Done [.t 4] [] (.int .i64 (validP g p)) []) (init [gD g, mD p]) := by
  refine W_of ?_
  have r1 := hv g
  have hR : validP g p = if validG g ≠ 0 then validG g else rightP g p := rfl
  rw [hR]
  by_cases c : validG g = 0
  · have r2 := hp g p c h1 h2
    rw [if_neg (by simp [c])]
    rw [c] at r1
    generalize rightP g p = v at *
    simp only [gD, mD] at *
    simp (config := { maxSteps := 1000000 }) (disch := first | omega | (simp only [go_sem]; omega)) only [go_sem, ↓reduceIte]
    refine call_by r1 ?_
    simp (config := { maxSteps := 1000000 }) (disch := first | omega | (simp only [go_sem]; omega)) only [go_sem, ↓reduceIte]
    refine call_by r2 ?_
    simp (config := { maxSteps := 1000000 }) (disch := first | omega | (simp only [go_sem]; omega)) only [go_sem, ↓reduceIte]
  · rw [if_pos c]
    generalize validG g = v at *
    simp only [gD, mD] at *
    simp (config := { maxSteps := 1000000 }) (disch := first | omega | (simp only [go_sem]; omega)) only [go_sem, ↓reduceIte]
    refine call_by r1 ?_
    simp (config := { maxSteps := 1000000 }) (disch := first | omega | (simp only [go_sem]; omega)) only [go_sem, ↓reduceIte, c]
theorem w_r07_Few (m : Mo) (n : Int) (h1 : m.n.length ≤ maxL) (h2 : m.e.length ≤ maxL) : W P (c_r07_Few F) (Done [.t 4] [] (.bool (fewM m n)) []) (init [mD m, .int .i64 n]) := by
  refine W_of ?_
  obtain ⟨mn, me⟩ := m
  simp only [maxL] at h1 h2
  simp (config := { maxSteps := 1000000 }) (disch := first | omega | (simp only [go_sem]; omega)) only [go_sem, ↓reduceIte, mD, fewM]
end
end Go.Am
namespace Go.Am
open Go
set_option linter.unusedVariables false
set_option linter.unusedSimpArgs false
attribute [local irreducible] W
/- r07.marked -/
def c_r07_marked_r0 (F : String → Nat) : List LI := [⟨some 2, .mov (.k (.nl 1)), none⟩]
def c_r07_marked_r1 (F : String → Nat) : List LI := [⟨some 3, .mov (.k (.nl 1)), none⟩]
def c_r07_marked_r2 (F : String → Nat) : List LI := [⟨some 4, .mov (.k (.int .i64 (0))), none⟩]
def c_r07_marked_r3 (F : String → Nat) : List LI := [⟨some 5, .mov (.t 4), none⟩,
  ⟨some 6, .mov (.t 0), none⟩,
  ⟨some 7, .len (.t 6), none⟩,
  ⟨some 8, .bin .lss (.t 5) (.t 7), none⟩]
def c_r07_marked_r4 (F : String → Nat) : List LI := [⟨some 11, .mov (.t 0), none⟩,
  ⟨some 12, .mov (.t 4), none⟩,
  ⟨some 13, .iad 1 (.t 11) (.t 12), none⟩,
  ⟨some 14, .load false 1 (.t 13), none⟩]
def c_r07_marked_r5 (F : String → Nat) : List LI := [⟨some 15, .mov (.t 3), none⟩,
  ⟨some 16, .mov (.t 4), none⟩,
  ⟨some 17, .buildSl 1 8 (.int .i64 (0)) 1 [(0, .t 16)], none⟩,
  ⟨some 18, .app 1 8 (.t 15) (.t 17), none⟩,
  ⟨some 3, .mov (.t 18), none⟩]
def c_r07_marked_r6 (F : String → Nat) : List LI := [⟨some 9, .mov (.t 4), none⟩,
  ⟨some 10, .bin .add (.t 9) (.k (.int .i64 (1))), none⟩,
  ⟨some 4, .mov (.t 10), none⟩]
def c_r07_marked_b7 (F : String → Nat) : LC := (.seq (.seq (.reg (c_r07_marked_r3 F) [0, 3, 4, 8]) (.cond (.t 8) .skip (.exit 0))) (.seq (.block 1 (.seq (.reg (c_r07_marked_r4 F) [0, 3, 4, 14]) (.cond (.t 14) (.reg (c_r07_marked_r5 F) [0, 3, 4]) .skip))) (.reg (c_r07_marked_r6 F) [0, 3, 4])))
def c_r07_marked_r8 (F : String → Nat) : List LI := [⟨some 19, .mov (.t 3), none⟩,
  ⟨some 2, .mov (.t 19), none⟩]
def c_r07_marked (F : String → Nat) : LC := (.seq (.reg (c_r07_marked_r0 F) [0]) (.seq (.reg (c_r07_marked_r1 F) [0, 3]) (.seq (.seq (.reg (c_r07_marked_r2 F) [0, 3, 4]) (.block 0 (.loop [0, 3, 4] (c_r07_marked_b7 F)))) (.seq (.reg (c_r07_marked_r8 F) [2]) .ret))))
def h_r07_marked : Hints := ⟨[], fun _ => [], tab [(0, [0]), (1, [0, 3]), (2, [0, 3, 4]), (3, [0, 3, 4, 8]), (4, [0, 3, 4]), (5, [0, 3, 4, 14]), (6, [0, 3, 4]), (7, [2])], tab [(3, [0, 3, 4])]⟩

/- r07.Least -/
def c_r07_Least_r0 (F : String → Nat) : List LI := [⟨some 3, .bx (.t 0), none⟩,
  ⟨some 6, .alloc [.nl 1, .nl 1], none⟩]
def c_r07_Least_r1 (F : String → Nat) : List LI := [⟨some 9, .buildSl 1 1 (.bool false) 0 [], none⟩,
  ⟨some 10, .mov (.t 1), none⟩,
  ⟨some 11, .app 1 1 (.t 9) (.t 10), none⟩,
  ⟨some 7, .mov (.t 11), none⟩]
def c_r07_Least_r2 (F : String → Nat) : List LI := [⟨some 8, .mov (.k (.int .i64 (0))), none⟩]
def c_r07_Least_r3 (F : String → Nat) : List LI := [⟨some 12, .mov (.t 8), none⟩,
  ⟨some 13, .mov (.t 2), none⟩,
  ⟨some 14, .len (.t 13), none⟩,
  ⟨some 15, .bin .lss (.t 12) (.t 14), none⟩]
def c_r07_Least_r4 (F : String → Nat) : List LI := [⟨some 18, .mov (.t 2), none⟩,
  ⟨some 19, .mov (.t 8), none⟩,
  ⟨some 20, .iad 1 (.t 18) (.t 19), none⟩,
  ⟨some 21, .load false 1 (.t 20), none⟩]
def c_r07_Least_r5 (F : String → Nat) : List LI := [⟨some 22, .mov (.t 7), none⟩,
  ⟨some 23, .fad 1 (.t 3), none⟩,
  ⟨some 24, .load false 1 (.t 23), none⟩,
  ⟨some 25, .mov (.t 8), none⟩,
  ⟨some 26, .iad 3 (.t 24) (.t 25), none⟩,
  ⟨some 27, .fad 1 (.t 26), none⟩,
  ⟨some 28, .load false 1 (.t 27), none⟩,
  ⟨some 29, .mov (.t 7), none⟩,
  ⟨some 30, .fad 1 (.t 3), none⟩,
  ⟨some 31, .load false 1 (.t 30), none⟩,
  ⟨some 32, .mov (.t 8), none⟩,
  ⟨some 33, .iad 3 (.t 31) (.t 32), none⟩,
  ⟨some 34, .fad 2 (.t 33), none⟩,
  ⟨some 35, .load false 1 (.t 34), none⟩,
  ⟨some 36, .iad 1 (.t 22) (.t 28), none⟩,
  ⟨none, .store 1 (.t 36) (.k (.bool true)), none⟩,
  ⟨some 37, .iad 1 (.t 29) (.t 35), none⟩,
  ⟨none, .store 1 (.t 37) (.k (.bool true)), none⟩]
def c_r07_Least_r6 (F : String → Nat) : List LI := [⟨some 16, .mov (.t 8), none⟩,
  ⟨some 17, .bin .add (.t 16) (.k (.int .i64 (1))), none⟩,
  ⟨some 8, .mov (.t 17), none⟩]
def c_r07_Least_b7 (F : String → Nat) : LC := (.seq (.seq (.reg (c_r07_Least_r3 F) [2, 3, 6, 7, 8, 15]) (.cond (.t 15) .skip (.exit 0))) (.seq (.block 1 (.seq (.reg (c_r07_Least_r4 F) [2, 3, 6, 7, 8, 21]) (.cond (.t 21) (.dreg [] (c_r07_Least_r5 F) [2, 3, 6, 7, 8]) .skip))) (.reg (c_r07_Least_r6 F) [2, 3, 6, 7, 8])))
def c_r07_Least_r8 (F : String → Nat) : List LI := [⟨some 38, .mov (.t 7), none⟩,
  ⟨some 39, .call (F "r07.marked") [.t 38] [], none⟩,
  ⟨some 40, .mov (.t 2), none⟩,
  ⟨some 41, .call (F "r07.marked") [.t 40] [], none⟩,
  ⟨some 42, .build [.nl 1, .nl 1] [(0, 1, .t 39), (1, 1, .t 41)], none⟩,
  ⟨none, .store 2 (.t 6) (.t 42), none⟩]
def c_r07_Least (F : String → Nat) : LC := (.seq (.reg (c_r07_Least_r0 F) [1, 2, 3, 6]) (.seq (.reg (c_r07_Least_r1 F) [2, 3, 6, 7]) (.seq (.seq (.reg (c_r07_Least_r2 F) [2, 3, 6, 7, 8]) (.block 0 (.loop [2, 3, 6, 7, 8] (c_r07_Least_b7 F)))) (.seq (.reg (c_r07_Least_r8 F) [6]) .ret))))
def h_r07_Least : Hints := ⟨[], fun _ => [], tab [(0, [1, 2, 3, 6]), (1, [2, 3, 6, 7]), (2, [2, 3, 6, 7, 8]), (3, [2, 3, 6, 7, 8, 15]), (4, [2, 3, 6, 7, 8]), (5, [2, 3, 6, 7, 8, 21]), (6, [2, 3, 6, 7, 8]), (7, [6])], tab [(3, [2, 3, 6, 7, 8])]⟩

attribute [go_sem] c_r07_marked_r0 c_r07_marked_r1 c_r07_marked_r2 c_r07_marked_r3 c_r07_marked_r4 c_r07_marked_r5 c_r07_marked_r6 c_r07_marked_r8 c_r07_marked c_r07_Least_r0 c_r07_Least_r1 c_r07_Least_r2 c_r07_Least_r3 c_r07_Least_r4 c_r07_Least_r5 c_r07_Least_r6 c_r07_Least_r8 c_r07_Least
def leastP (g : G) (bn be : List Bool) : Mo := ⟨sel (fun k : Nat => gt bn k || decide ((k : Int) ∈ endsL g (markL be))) bn.length, markL be⟩
section
variable (P : Program) (F : String → Nat)
def K_r07_marked : Prop := ∀ b : List Bool, b.length ≤ 1000 → FC P (F "r07.marked") [.lst 1 (bls b)] (.arr 1 (ints (markL b))) []
def K_r07_Least : Prop := ∀ (g : G) (bn be : List Bool), validG g = 0 → bn.length = g.n.length → be.length = g.e.length → FC P (F "r07.Least") [gD g, .lst 1 (bls bn), .lst 1 (bls be)] (mA (leastP g bn be)) []
end
section
variable {P : Program} {F : String → Nat} {α : Type}
theorem w_r07_marked (b : List Bool) (hb : b.length ≤ 1000) : W P (c_r07_marked F) (Done [.t 2] [] (.arr 1 (ints (markL b))) []) (init [.lst 1 (bls b)]) := by
  refine W_of ?_
  have hM : markL b = sel (fun k : Nat => gt b k) b.length := rfl
  have sl := sel_len (fun k : Nat => gt b k)
  have ss := sel_succ (fun k : Nat => gt b k)
  have s0 := sel_zero (fun k : Nat => gt b k)
  rw [hM]
  clear hM
  generalize hS : sel (fun k : Nat => gt b k) = S at *
  simp (config := { maxSteps := 1000000 }) (disch := first | omega | (simp only [go_sem]; omega)) only [go_sem, ↓reduceIte]
  refine W_loop (fun i : Nat => ⟨[(0, .lst 1 (bls b)), (3, .sl 0 0 (S i).length), (4, .int .i64 i)], [(0, .arr 1 (ints (S i)))], 1⟩) (fun i => i ≤ b.length) (fun i => b.length - i) 0 ?_ ?_ ?_
  · simp (config := { maxSteps := 1000000 }) (disch := first | omega | (simp only [go_sem]; omega)) only [go_sem, ↓reduceIte, s0, ints_nil]
    rfl
  · simp
  · intro i hi
    have sli := sl i
    by_cases c : i < b.length
    · have g1 : decide ((i : Int) < b.length) = true := decide_eq_true (by omega)
      have hs := ss i
      generalize hb' : gt b i = t at *
      cases t
      · simp (config := { maxSteps := 1000000 }) (disch := first | omega | (simp only [go_sem]; omega)) only [go_sem, ↓reduceIte, c_r07_marked_b7, g1, hb']
        exact ⟨i + 1, by simp [hs], by omega, by omega⟩
      · simp (config := { maxSteps := 1000000 }) (disch := first | omega | (simp only [go_sem]; omega)) only [go_sem, ↓reduceIte, c_r07_marked_b7, g1, hb']
        exact ⟨i + 1, by simp [hs], by omega, by omega⟩
    · have g1 : decide ((i : Int) < b.length) = false := decide_eq_false (by omega)
      obtain rfl : i = b.length := by omega
      simp (config := { maxSteps := 1000000 }) (disch := first | omega | (simp only [go_sem]; omega)) only [go_sem, ↓reduceIte, c_r07_marked_b7, g1]
theorem markL_mem {b : List Bool} {k : Nat} : (k : Int) ∈ markL b ↔ k < b.length ∧ gt b k = true := sel_memN
set_option maxHeartbeats 1000000 in
theorem w_r07_Least (hm : K_r07_marked P F) (g : G) (bn be : List Bool) (hv : validG g = 0) (h1 : bn.length = g.n.length) (h2 : be.length = g.e.length) : W P (c_r07_Least F) (Done [.c 6 true 2] [] (mA (leastP g bn be)) []) (init [gD g, .lst 1 (bls bn), .lst 1 (bls be)]) := by
  refine W_of ?_
  have vs := valid_spec hv
  have hef : ∀ i : Nat, i < g.e.length → (0 ≤ (gt g.e i).f ∧ (gt g.e i).f < g.n.length) ∧ (0 ≤ (gt g.e i).o ∧ (gt g.e i).o < g.n.length) := fun i hi => (edge_fits hv (i := i) (by omega)).2
  have hL : leastP g bn be = ⟨sel (fun k : Nat => gt bn k || decide ((k : Int) ∈ endsL g (markL be))) bn.length, markL be⟩ := rfl
  have r2 := hm be (by omega)
  have hm1 := fun z : List Bool => hm z
  have ends : ∀ (i : Nat) (x : Int), x ∈ endsL g ((markL be).filter fun e => decide (e < ((i + 1 : Nat) : Int))) ↔ x ∈ endsL g ((markL be).filter fun e => decide (e < (i : Int))) ∨ (i < be.length ∧ gt be i = true ∧ ((gt g.e i).f = x ∨ (gt g.e i).o = x)) := fun i x => by
    rw [ends_mem, ends_mem]
    constructor
    · rintro ⟨e, he, hx⟩
      rw [List.mem_filter] at he
      obtain ⟨he, hlt⟩ := he
      obtain ⟨k, hk, hk2, rfl⟩ := sel_mem.1 he
      by_cases c : k = i
      · subst c; exact .inr ⟨hk, hk2, hx⟩
      · refine .inl ⟨k, List.mem_filter.2 ⟨he, ?_⟩, hx⟩
        simp at hlt ⊢
        omega
    · rintro (⟨e, he, hx⟩ | ⟨h3, h4, hx⟩)
      · rw [List.mem_filter] at he
        refine ⟨e, List.mem_filter.2 ⟨he.1, ?_⟩, hx⟩
        have := he.2
        simp at this ⊢
        omega
      · exact ⟨i, List.mem_filter.2 ⟨markL_mem.2 ⟨h3, h4⟩, by simp; omega⟩, hx⟩
  have endsZ : ∀ x : Int, ¬ x ∈ endsL g ((markL be).filter fun e => decide (e < ((0 : Nat) : Int))) := fun x h => by
    obtain ⟨e, he, _⟩ := ends_mem.1 h
    rw [List.mem_filter] at he
    obtain ⟨k, _, _, rfl⟩ := sel_mem.1 he.1
    have := he.2
    simp at this
    omega
  have endsF : (markL be).filter (fun e => decide (e < (be.length : Int))) = markL be := List.filter_eq_self.2 fun e he => by
    obtain ⟨k, hk, _, rfl⟩ := sel_mem.1 he
    simpa using hk
  rw [hL]
  clear hL
  obtain ⟨gn, ge⟩ := g
  simp only [gD] at *
  simp (config := { maxSteps := 1000000 }) (disch := first | omega | (simp only [go_sem]; omega)) only [go_sem, ↓reduceIte]
  refine W_loop (fun s : Nat × List Bool => ⟨[(2, .lst 1 (bls be)), (3, .pt 0 0), (6, .pt 3 0), (7, .sl 4 0 gn.length), (8, .int .i64 s.1)], [(0, .box [.lst 1 (ints gn), .lst 3 (eds ge)]), (1, .arr 1 []), (2, .arr 1 []), (3, .box [.sl 1 0 0, .sl 2 0 0]), (4, .arr 1 (bls s.2))], 5⟩)
    (fun s => s.1 ≤ be.length ∧ s.2.length = gn.length ∧ ∀ k : Nat, k < gn.length → gt s.2 k = (gt bn k || decide ((k : Int) ∈ endsL ⟨gn, ge⟩ ((markL be).filter fun e => decide (e < (s.1 : Int)))))) (fun s => be.length - s.1) (0, bn) ?_ ?_ ?_
  · simp (config := { maxSteps := 1000000 }) (disch := first | omega | (simp only [go_sem]; omega)) only [go_sem, ↓reduceIte, h1]
    rfl
  · exact ⟨by simp, h1, fun k hk => by rw [decide_eq_false (endsZ k)]; simp⟩
  · rintro ⟨i, z⟩ ⟨i1, i2, i3⟩
    simp only at i1 i2 i3
    by_cases c : i < be.length
    · have g1 : decide ((i : Int) < be.length) = true := decide_eq_true (by omega)
      obtain ⟨⟨f1, f2⟩, o1, o2⟩ := hef i (by omega)
      generalize hb' : gt be i = t at *
      cases t
      · simp (config := { maxSteps := 1000000 }) (disch := first | omega | (simp only [go_sem]; omega)) only [go_sem, ↓reduceIte, c_r07_Least_b7, g1, hb']
        refine ⟨(i + 1, z), by simp, ⟨by simp only; omega, i2, fun k hk => ?_⟩, by simp only; omega⟩
        rw [i3 k hk]
        have := ends i k
        rw [hb'] at this
        have this' : (k : Int) ∈ endsL ⟨gn, ge⟩ ((markL be).filter fun e => decide (e < ((i + 1 : Nat) : Int))) ↔ (k : Int) ∈ endsL ⟨gn, ge⟩ ((markL be).filter fun e => decide (e < (i : Int))) := by rw [this]; simp
        simp only
        rw [decide_eq_decide.2 this']
      · simp (config := { maxSteps := 1000000 }) (disch := first | omega | (simp only [go_sem]; omega)) only [go_sem, ↓reduceIte, c_r07_Least_b7, g1, hb', i2]
        refine ⟨(i + 1, (z.set (gt ge i).f.toNat true).set (gt ge i).o.toNat true), by simp, ⟨by simp only; omega, by simp [i2], fun k hk => ?_⟩, by simp only; omega⟩
        have := ends i k
        rw [hb'] at this
        have this' : (k : Int) ∈ endsL ⟨gn, ge⟩ ((markL be).filter fun e => decide (e < ((i + 1 : Nat) : Int))) ↔ (k : Int) ∈ endsL ⟨gn, ge⟩ ((markL be).filter fun e => decide (e < (i : Int))) ∨ ((gt ge i).f = (k : Int) ∨ (gt ge i).o = (k : Int)) := by rw [this]; simp [c]
        have hdec : decide ((k : Int) ∈ endsL ⟨gn, ge⟩ ((markL be).filter fun e => decide (e < ((i + 1 : Nat) : Int)))) = (decide ((k : Int) ∈ endsL ⟨gn, ge⟩ ((markL be).filter fun e => decide (e < (i : Int)))) || (decide ((gt ge i).f = (k : Int)) || decide ((gt ge i).o = (k : Int)))) := by
          rw [Bool.eq_iff_iff]
          simp only [decide_eq_true_eq, Bool.or_eq_true]
          exact this'
        simp only
        rw [gt_setB (by simp; omega), gt_setB (by omega), i3 k hk, hdec]
        by_cases e1 : (gt ge i).o.toNat = k
        · have : (gt ge i).o = (k : Int) := by omega
          simp [e1, this, c]
        · by_cases e2 : (gt ge i).f.toNat = k
          · have : (gt ge i).f = (k : Int) := by omega
            simp [e1, e2, this, c]
          · have q1 : ¬ (gt ge i).o = (k : Int) := by omega
            have q2 : ¬ (gt ge i).f = (k : Int) := by omega
            simp [e1, e2, q1, q2]
    · have g1 : decide ((i : Int) < be.length) = false := decide_eq_false (by omega)
      obtain rfl : i = be.length := by omega
      rw [endsF] at i3
      have hz : markL z = sel (fun k : Nat => gt bn k || decide ((k : Int) ∈ endsL ⟨gn, ge⟩ (markL be))) bn.length := by
        refine asc_ext (sel_pair _ _) (sel_pair _ _) fun x => ?_
        rw [markL_x, sel_mem]
        constructor
        · rintro ⟨k, k1, k2, rfl⟩; exact ⟨k, by omega, by rw [← i3 k (by omega)]; exact k2, rfl⟩
        · rintro ⟨k, k1, k2, rfl⟩; exact ⟨k, by omega, by rw [i3 k (by omega)]; exact k2, rfl⟩
      have r1 := hm1 z (by omega)
      rw [hz] at r1
      generalize sel (fun k : Nat => gt bn k || decide ((k : Int) ∈ endsL ⟨gn, ge⟩ (markL be))) bn.length = w1 at *
      simp (config := { maxSteps := 1000000 }) (disch := first | omega | (simp only [go_sem]; omega)) only [go_sem, ↓reduceIte, c_r07_Least_b7, g1, i2]
      refine call_by r1 ?_
      simp (config := { maxSteps := 1000000 }) (disch := first | omega | (simp only [go_sem]; omega)) only [go_sem, ↓reduceIte]
      refine call_by r2 ?_
      simp (config := { maxSteps := 1000000 }) (disch := first | omega | (simp only [go_sem]; omega)) only [go_sem, ↓reduceIte]
      try rfl
theorem close_least {g : G} {ns es : List Int} {bn be : List Bool} (h1 : bn.length = g.n.length) (h2 : be.length = g.e.length) (h3 : ∀ k : Nat, k < g.n.length → gt bn k = decide ((k : Int) ∈ ns)) (h4 : ∀ k : Nat, k < g.e.length → gt be k = decide ((k : Int) ∈ es)) (h5 : ∀ x ∈ es, 0 ≤ x ∧ x < g.e.length) : leastP g bn be = closeP g ns es := by
  have hM : markL be = sel (fun k : Nat => decide ((k : Int) ∈ es)) g.e.length := asc_ext (sel_pair _ _) (sel_pair _ _) fun x => by
    rw [markL_x, sel_mem]
    constructor
    · rintro ⟨k, k1, k2, rfl⟩; exact ⟨k, by omega, by rw [← h4 k (by omega)]; exact k2, rfl⟩
    · rintro ⟨k, k1, k2, rfl⟩; exact ⟨k, by omega, by rw [h4 k (by omega)]; exact k2, rfl⟩
  have hE : ∀ x, x ∈ endsL g (markL be) ↔ x ∈ endsL g es := fun x => by
    rw [ends_mem, ends_mem, hM]
    constructor
    · rintro ⟨e, he, hx⟩
      obtain ⟨k, _, k2, rfl⟩ := sel_mem.1 he
      exact ⟨k, by simpa using k2, hx⟩
    · rintro ⟨e, he, hx⟩
      obtain ⟨k, hk, rfl⟩ := gtI (h5 e he)
      exact ⟨k, sel_memN.2 ⟨hk, by simpa using he⟩, hx⟩
  refine mo_extP (asc_ext (sel_pair _ _) (sel_pair _ _) fun x => ?_) hM
  rw [show (leastP g bn be).n = sel (fun k : Nat => gt bn k || decide ((k : Int) ∈ endsL g (markL be))) bn.length from rfl, show (closeP g ns es).n = sel (fun k : Nat => decide ((k : Int) ∈ ns) || decide ((k : Int) ∈ endsL g es)) g.n.length from rfl, sel_mem, sel_mem]
  constructor
  · rintro ⟨k, k1, k2, rfl⟩
    refine ⟨k, by omega, ?_, rfl⟩
    rw [h3 k (by omega), decide_eq_decide.2 (hE k)] at k2
    exact k2
  · rintro ⟨k, k1, k2, rfl⟩
    refine ⟨k, by omega, ?_, rfl⟩
    rw [h3 k (by omega), decide_eq_decide.2 (hE k)]
    exact k2
end
end Go.Am
namespace Go.Am
open Go
set_option linter.unusedVariables false
set_option linter.unusedSimpArgs false
attribute [local irreducible] W
/- r07.Made -/
def c_r07_Made_r0 (F : String → Nat) : List LI := [⟨some 2, .bx (.t 0), none⟩,
  ⟨some 4, .alloc [.nl 1, .nl 1], none⟩]
def c_r07_Made_r1 (F : String → Nat) : List LI := [⟨some 9, .fad 0 (.t 2), none⟩,
  ⟨some 10, .load false 1 (.t 9), none⟩,
  ⟨some 11, .len (.t 10), none⟩,
  ⟨some 12, .makeSl 1 1 (.bool false) (.t 11), none⟩,
  ⟨some 13, .fad 1 (.t 2), none⟩,
  ⟨some 14, .load false 1 (.t 13), none⟩,
  ⟨some 15, .len (.t 14), none⟩,
  ⟨some 16, .makeSl 1 1 (.bool false) (.t 15), none⟩,
  ⟨some 5, .mov (.t 12), none⟩,
  ⟨some 6, .mov (.t 16), none⟩]
def c_r07_Made_r2 (F : String → Nat) : List LI := [⟨some 7, .mov (.k (.int .i64 (0))), none⟩]
def c_r07_Made_r3 (F : String → Nat) : List LI := [⟨some 17, .mov (.t 7), none⟩,
  ⟨some 18, .mov (.t 5), none⟩,
  ⟨some 19, .len (.t 18), none⟩,
  ⟨some 20, .bin .lss (.t 17) (.t 19), none⟩]
def c_r07_Made_r4 (F : String → Nat) : List LI := [⟨some 23, .mov (.t 5), none⟩,
  ⟨some 24, .mov (.t 7), none⟩,
  ⟨some 25, .mov (.t 1), none⟩,
  ⟨some 26, .mov (.t 7), none⟩,
  ⟨some 27, .bin .rem (.t 26) (.k (.int .i64 (64))), none⟩,
  ⟨some 28, .bin .shr (.t 25) (.t 27), none⟩,
  ⟨some 29, .bin .and (.t 28) (.k (.int .u64 (1))), none⟩,
  ⟨some 30, .bin .eql (.t 29) (.k (.int .u64 (1))), none⟩,
  ⟨some 31, .iad 1 (.t 23) (.t 24), none⟩,
  ⟨none, .store 1 (.t 31) (.t 30), none⟩]
def c_r07_Made_r5 (F : String → Nat) : List LI := [⟨some 21, .mov (.t 7), none⟩,
  ⟨some 22, .bin .add (.t 21) (.k (.int .i64 (1))), none⟩,
  ⟨some 7, .mov (.t 22), none⟩]
def c_r07_Made_b6 (F : String → Nat) : LC := (.seq (.seq (.reg (c_r07_Made_r3 F) [1, 2, 4, 5, 6, 7, 20]) (.cond (.t 20) .skip (.exit 0))) (.seq (.block 1 (.reg (c_r07_Made_r4 F) [1, 2, 4, 5, 6, 7])) (.reg (c_r07_Made_r5 F) [1, 2, 4, 5, 6, 7])))
def c_r07_Made_r7 (F : String → Nat) : List LI := [⟨some 8, .mov (.k (.int .i64 (0))), none⟩]
def c_r07_Made_r8 (F : String → Nat) : List LI := [⟨some 32, .mov (.t 8), none⟩,
  ⟨some 33, .mov (.t 6), none⟩,
  ⟨some 34, .len (.t 33), none⟩,
  ⟨some 35, .bin .lss (.t 32) (.t 34), none⟩]
def c_r07_Made_r9 (F : String → Nat) : List LI := [⟨some 38, .mov (.t 6), none⟩,
  ⟨some 39, .mov (.t 8), none⟩,
  ⟨some 40, .mov (.t 1), none⟩,
  ⟨some 41, .mov (.t 5), none⟩,
  ⟨some 42, .len (.t 41), none⟩,
  ⟨some 43, .mov (.t 8), none⟩,
  ⟨some 44, .bin .add (.t 42) (.t 43), none⟩,
  ⟨some 45, .bin .rem (.t 44) (.k (.int .i64 (64))), none⟩,
  ⟨some 46, .bin .shr (.t 40) (.t 45), none⟩,
  ⟨some 47, .bin .and (.t 46) (.k (.int .u64 (1))), none⟩,
  ⟨some 48, .bin .eql (.t 47) (.k (.int .u64 (1))), none⟩,
  ⟨some 49, .iad 1 (.t 38) (.t 39), none⟩,
  ⟨none, .store 1 (.t 49) (.t 48), none⟩]
def c_r07_Made_r10 (F : String → Nat) : List LI := [⟨some 36, .mov (.t 8), none⟩,
  ⟨some 37, .bin .add (.t 36) (.k (.int .i64 (1))), none⟩,
  ⟨some 8, .mov (.t 37), none⟩]
def c_r07_Made_b11 (F : String → Nat) : LC := (.seq (.seq (.reg (c_r07_Made_r8 F) [1, 2, 4, 5, 6, 8, 35]) (.cond (.t 35) .skip (.exit 2))) (.seq (.block 3 (.reg (c_r07_Made_r9 F) [1, 2, 4, 5, 6, 8])) (.reg (c_r07_Made_r10 F) [1, 2, 4, 5, 6, 8])))
def c_r07_Made_r12 (F : String → Nat) : List LI := [⟨some 50, .load true 2 (.t 2), none⟩,
  ⟨some 51, .mov (.t 5), none⟩,
  ⟨some 52, .mov (.t 6), none⟩,
  ⟨some 53, .call (F "r07.Least") [.t 50, .t 51, .t 52] [], none⟩,
  ⟨none, .store 2 (.t 4) (.t 53), none⟩]
def c_r07_Made (F : String → Nat) : LC := (.seq (.reg (c_r07_Made_r0 F) [1, 2, 4]) (.seq (.dreg [(5, (some 16), [], false)] (c_r07_Made_r1 F) [1, 2, 4, 5, 6]) (.seq (.seq (.reg (c_r07_Made_r2 F) [1, 2, 4, 5, 6, 7]) (.block 0 (.loop [1, 2, 4, 5, 6, 7] (c_r07_Made_b6 F)))) (.seq (.seq (.reg (c_r07_Made_r7 F) [1, 2, 4, 5, 6, 8]) (.block 2 (.loop [1, 2, 4, 5, 6, 8] (c_r07_Made_b11 F)))) (.seq (.reg (c_r07_Made_r12 F) [4]) .ret)))))
def h_r07_Made : Hints := ⟨[], fun _ => [], tab [(0, [1, 2, 4]), (1, [1, 2, 4, 5, 6]), (2, [1, 2, 4, 5, 6, 7]), (3, [1, 2, 4, 5, 6, 7, 20]), (4, [1, 2, 4, 5, 6, 7]), (5, [1, 2, 4, 5, 6, 7]), (6, [1, 2, 4, 5, 6, 8]), (7, [1, 2, 4, 5, 6, 8, 35]), (8, [1, 2, 4, 5, 6, 8]), (9, [1, 2, 4, 5, 6, 8]), (10, [4])], tab [(3, [1, 2, 4, 5, 6, 7]), (7, [1, 2, 4, 5, 6, 8])]⟩

attribute [go_sem] c_r07_Made_r0 c_r07_Made_r1 c_r07_Made_r2 c_r07_Made_r3 c_r07_Made_r4 c_r07_Made_r5 c_r07_Made_r7 c_r07_Made_r8 c_r07_Made_r9 c_r07_Made_r10 c_r07_Made_r12 c_r07_Made
/-- The bit of a number. -/
def bitB (s i : Int) : Bool := decide (IntKind.u64.wrap ((BitVec.ofInt 64 (s.fdiv (2 ^ (min (i.tmod 64).toNat 64))) &&& 1#64).toNat : Int) = 1)
def bitL (s : Int) (n m : Nat) : List Bool := (List.range m).map fun k : Nat => bitB s ((n : Int) + (k : Int))
/-- The least part with the elements that bits name. -/
def partP (g : G) (s : Int) : Mo := leastP g (bitL s 0 g.n.length) (bitL s g.n.length g.e.length)
section
variable (P : Program) (F : String → Nat)
def K_r07_Made : Prop := ∀ (g : G) (s : Int), validG g = 0 → FC P (F "r07.Made") [gD g, .int .u64 s] (mA (partP g s)) []
end
section
variable {P : Program} {F : String → Nat} {α : Type}
theorem bitL_len (s : Int) (n m : Nat) : (bitL s n m).length = m := by simp [bitL]
theorem bitL_gt {s : Int} {n m k : Nat} (h : k < m) : gt (bitL s n m) (k : Int) = bitB s ((n : Int) + k) := by
  rw [gt_nat (by rw [bitL_len]; exact h)]
  simp [bitL]
theorem least_close {g : G} {bn be : List Bool} (h1 : bn.length = g.n.length) (h2 : be.length = g.e.length) : leastP g bn be = closeP g (markL bn) (markL be) := by
  have hm : ∀ (b : List Bool) (k : Nat), k < b.length → gt b k = decide ((k : Int) ∈ markL b) := fun b k hk => by
    rw [Bool.eq_iff_iff, decide_eq_true_eq, markL_mem]
    exact ⟨fun h => ⟨hk, h⟩, fun h => h.2⟩
  refine close_least h1 h2 (fun k hk => hm bn k (by omega)) (fun k hk => hm be k (by omega)) fun x hx => ?_
  obtain ⟨k, hk, _, rfl⟩ := sel_mem.1 hx
  omega
theorem partP_ok {g : G} {s : Int} (hv : validG g = 0) : PK g (partP g s) := by
  unfold partP
  rw [least_close (bitL_len _ _ _) (bitL_len _ _ _)]
  exact closeP_ok hv
theorem w_r07_Made (hl : K_r07_Least P F) (g : G) (s : Int) (hv : validG g = 0) : W P (c_r07_Made F) (Done [.c 4 true 2] [] (mA (partP g s)) []) (init [gD g, .int .u64 s]) := by
  refine W_of ?_
  have vs := valid_spec hv
  have r1 := hl g (bitL s 0 g.n.length) (bitL s g.n.length g.e.length) hv (bitL_len _ _ _) (bitL_len _ _ _)
  have hL : partP g s = leastP g (bitL s 0 g.n.length) (bitL s g.n.length g.e.length) := rfl
  rw [hL]
  clear hL
  have b0 := bitL_len s 0 g.n.length
  have b1 := bitL_len s g.n.length g.e.length
  have bg0 : ∀ k : Nat, k < g.n.length → gt (bitL s 0 g.n.length) (k : Int) = bitB s (k : Int) := fun k hk => by rw [bitL_gt hk]; simp
  have bg1 : ∀ k : Nat, k < g.e.length → gt (bitL s g.n.length g.e.length) (k : Int) = bitB s ((g.n.length : Int) + k) := fun k hk => bitL_gt hk
  generalize bitL s 0 g.n.length = x0 at *
  generalize bitL s g.n.length g.e.length = x1 at *
  have hnb : ∀ i : Int, 0 ≤ i → ¬ i.tmod 64 < 0 := fun i h => by rw [Int.tmod_eq_emod_of_nonneg h]; omega
  have hb : ∀ i : Int, decide (IntKind.u64.wrap ((BitVec.ofInt 64 (s.fdiv (2 ^ (min (i.tmod 64).toNat 64))) &&& 1#64).toNat : Int) = 1) = bitB s i := fun i => rfl
  have z0 : ¬ ((64 : Int) = 0) := by omega
  obtain ⟨gn, ge⟩ := g
  simp only [gD] at *
  simp (config := { maxSteps := 1000000 }) (disch := first | omega | (simp only [go_sem]; omega)) only [go_sem, ↓reduceIte]
  refine W_loop (fun t : Nat × List Bool => ⟨[(1, .int .u64 s), (2, .pt 0 0), (4, .pt 3 0), (5, .sl 4 0 gn.length), (6, .sl 5 0 ge.length), (7, .int .i64 t.1)],
    [(0, .box [.lst 1 (ints gn), .lst 3 (eds ge)]), (1, .arr 1 []), (2, .arr 1 []), (3, .box [.sl 1 0 0, .sl 2 0 0]), (4, .arr 1 (bls t.2)), (5, .arr 1 (bls (List.replicate ge.length false)))], 6⟩)
    (fun t => t.1 ≤ gn.length ∧ t.2.length = gn.length ∧ ∀ k : Nat, k < t.1 → gt t.2 k = bitB s k) (fun t => gn.length - t.1) (0, List.replicate gn.length false) ?_ ?_ ?_
  · simp (config := { maxSteps := 1000000 }) (disch := first | omega | (simp only [go_sem]; omega)) only [go_sem, ↓reduceIte]
    rfl
  · exact ⟨by simp, by simp, fun k hk => by simp at hk⟩
  · rintro ⟨i, z⟩ ⟨i1, i2, i3⟩
    simp only at i1 i2 i3
    by_cases c : i < gn.length
    · have g1 : decide ((i : Int) < gn.length) = true := decide_eq_true (by omega)
      have hi := hnb i (by omega)
      have hbi := hb i
      simp (config := { maxSteps := 1000000 }) (disch := first | omega | (simp only [go_sem]; omega)) only [go_sem, ↓reduceIte, c_r07_Made_b6, g1, z0, hi, hbi, i2]
      refine ⟨(i + 1, z.set i (bitB s i)), by simp; rfl, ⟨by simp only; omega, by simp [i2], fun k hk => ?_⟩, by simp only; omega⟩
      simp only at hk
      simp only
      rw [gt_setB (by omega)]
      by_cases e : i = k
      · subst e; simp
      · rw [if_neg e]; exact i3 k (by omega)
    · have g1 : decide ((i : Int) < gn.length) = false := decide_eq_false (by omega)
      obtain rfl : i = gn.length := by omega
      have hz : z = x0 := list_ext_gt (by omega) fun k hk => by rw [i3 k (by omega), bg0 k (by omega)]
      subst hz
      clear i3
      simp (config := { maxSteps := 1000000 }) (disch := first | omega | (simp only [go_sem]; omega)) only [go_sem, ↓reduceIte, c_r07_Made_b6, g1, i2]
      refine W_loop (fun t : Nat × List Bool => ⟨[(1, .int .u64 s), (2, .pt 0 0), (4, .pt 3 0), (5, .sl 4 0 gn.length), (6, .sl 5 0 ge.length), (8, .int .i64 t.1)],
        [(0, .box [.lst 1 (ints gn), .lst 3 (eds ge)]), (1, .arr 1 []), (2, .arr 1 []), (3, .box [.sl 1 0 0, .sl 2 0 0]), (4, .arr 1 (bls z)), (5, .arr 1 (bls t.2))], 6⟩)
        (fun t => t.1 ≤ ge.length ∧ t.2.length = ge.length ∧ ∀ k : Nat, k < t.1 → gt t.2 k = bitB s ((gn.length : Int) + k)) (fun t => ge.length - t.1) (0, List.replicate ge.length false) ?_ ?_ ?_
      · simp (config := { maxSteps := 1000000 }) (disch := first | omega | (simp only [go_sem]; omega)) only [go_sem, ↓reduceIte]
        rfl
      · exact ⟨by simp, by simp, fun k hk => by simp at hk⟩
      · rintro ⟨i, y⟩ ⟨j1, j2, j3⟩
        simp only at j1 j2 j3
        by_cases c : i < ge.length
        · have g1 : decide ((i : Int) < ge.length) = true := decide_eq_true (by omega)
          have hi := hnb ((gn.length : Int) + i) (by omega)
          have hbi := hb ((gn.length : Int) + i)
          simp (config := { maxSteps := 1000000 }) (disch := first | omega | (simp only [go_sem]; omega)) only [go_sem, ↓reduceIte, c_r07_Made_b11, g1, z0, hi, hbi, i2, j2]
          refine ⟨(i + 1, y.set i (bitB s ((gn.length : Int) + i))), by simp; rfl, ⟨by simp only; omega, by simp [j2], fun k hk => ?_⟩, by simp only; omega⟩
          simp only at hk
          simp only
          rw [gt_setB (by omega)]
          by_cases e : i = k
          · subst e; simp
          · rw [if_neg e]; exact j3 k (by omega)
        · have g1 : decide ((i : Int) < ge.length) = false := decide_eq_false (by omega)
          obtain rfl : i = ge.length := by omega
          have hz : y = x1 := list_ext_gt (by omega) fun k hk => by rw [j3 k (by omega), bg1 k (by omega)]
          subst hz
          clear j3
          generalize leastP ⟨gn, ge⟩ z y = w at *
          obtain ⟨wn, we⟩ := w
          simp only [mA] at *
          simp (config := { maxSteps := 1000000 }) (disch := first | omega | (simp only [go_sem]; omega)) only [go_sem, ↓reduceIte, c_r07_Made_b11, g1, i2, j2]
          refine call_by r1 ?_
          simp (config := { maxSteps := 1000000 }) (disch := first | omega | (simp only [go_sem]; omega)) only [go_sem, ↓reduceIte]
          try rfl
def shU64 : Sh := .int .u64
theorem rd_u64 {x : D} (h : HasEl shU64 x) : ∃ n : Int, x = .int .u64 n := by
  simp only [shU64, HasEl] at h
  obtain ⟨n, rfl, _⟩ := h
  exact ⟨n, rfl⟩
end
end Go.Am
namespace Go.Am
open Go
set_option linter.unusedVariables false
set_option linter.unusedSimpArgs false
attribute [local irreducible] W
/- r07.In -/
def c_r07_In_r0 (F : String → Nat) : List LI := [⟨some 2, .bx (.t 0), none⟩,
  ⟨some 3, .bx (.t 1), none⟩,
  ⟨some 4, .mov (.k (.bool false)), none⟩]
def c_r07_In_r1 (F : String → Nat) : List LI := [⟨some 5, .fad 0 (.t 2), none⟩,
  ⟨some 6, .load false 1 (.t 5), none⟩,
  ⟨some 7, .fad 0 (.t 3), none⟩,
  ⟨some 8, .load false 1 (.t 7), none⟩,
  ⟨some 9, .call (F "r07.into") [.t 6, .t 8] [], none⟩,
  ⟨some 10, .len (.t 9), none⟩,
  ⟨some 11, .fad 0 (.t 2), none⟩,
  ⟨some 12, .load false 1 (.t 11), none⟩,
  ⟨some 13, .len (.t 12), none⟩,
  ⟨some 14, .bin .eql (.t 10) (.t 13), none⟩,
  ⟨some 15, .mov (.t 14), none⟩,
  ⟨some 16, .fad 1 (.t 2), some (15, true)⟩,
  ⟨some 17, .load false 1 (.t 16), some (15, true)⟩,
  ⟨some 18, .fad 1 (.t 3), some (15, true)⟩,
  ⟨some 19, .load false 1 (.t 18), some (15, true)⟩,
  ⟨some 20, .call (F "r07.into") [.t 17, .t 19] [], some (15, true)⟩,
  ⟨some 21, .len (.t 20), some (15, true)⟩,
  ⟨some 22, .fad 1 (.t 2), some (15, true)⟩,
  ⟨some 23, .load false 1 (.t 22), some (15, true)⟩,
  ⟨some 24, .len (.t 23), some (15, true)⟩,
  ⟨some 25, .bin .eql (.t 21) (.t 24), some (15, true)⟩,
  ⟨some 26, .pick (.t 15) (.t 25) (.k (.bool false)), none⟩,
  ⟨some 4, .mov (.t 26), none⟩]
def c_r07_In (F : String → Nat) : LC := (.seq (.reg (c_r07_In_r0 F) [2, 3]) (.seq (.dreg [(4, none, [], true), (7, (some 64), [4], false), (15, none, [], true), (18, (some 133119), [15], false)] (c_r07_In_r1 F) [4]) .ret))
def h_r07_In : Hints := ⟨[], fun _ => [], tab [(0, [2, 3]), (1, [4])], tab []⟩

attribute [go_sem] c_r07_In_r0 c_r07_In_r1 c_r07_In
def joinE (g : G) (p q : Mo) : Int := if validP g p ≠ 0 then validP g p else rightP g q
def inP (p q : Mo) : Bool := decide (((intoL p.n q.n).length : Int) = p.n.length) && decide (((intoL p.e q.e).length : Int) = p.e.length)
section
variable (P : Program) (F : String → Nat)
def K_r07_In : Prop := ∀ (p q : Mo), p.n.length ≤ 10000 → p.e.length ≤ 10000 → q.sm → FC P (F "r07.In") [mD p, mD q] (.bool (inP p q)) []
end
section
variable {P : Program} {F : String → Nat} {α : Type}
theorem w_r07_In (hi : K_r07_into P F) (p q : Mo) (h1 : p.n.length ≤ 10000) (h2 : p.e.length ≤ 10000) (h3 : q.sm) : W P (c_r07_In F) (Done [.t 4] [] (.bool (inP p q)) []) (init [mD p, mD q]) := by
  refine W_of ?_
  have r1 := hi p.n q.n h1 h3.1
  have r2 := hi p.e q.e h2 h3.2
  have hI : inP p q = (decide (((intoL p.n q.n).length : Int) = p.n.length) && decide (((intoL p.e q.e).length : Int) = p.e.length)) := rfl
  have l1 : (intoL p.n q.n).length ≤ p.n.length := sel_len _ _
  have l2 : (intoL p.e q.e).length ≤ p.e.length := sel_len _ _
  rw [hI]
  clear hI
  obtain ⟨pn, pe⟩ := p
  obtain ⟨qn, qe⟩ := q
  simp only [mD] at *
  generalize intoL pn qn = i1 at *
  generalize intoL pe qe = i2 at *
  cases c : decide ((i1.length : Int) = pn.length)
  · simp (config := { maxSteps := 1000000 }) (disch := first | omega | (simp only [go_sem]; omega)) only [go_sem, ↓reduceIte]
    refine call_by r1 ?_
    simp (config := { maxSteps := 1000000 }) (disch := first | omega | (simp only [go_sem]; omega)) only [go_sem, ↓reduceIte, c]
    try simp
  · simp (config := { maxSteps := 1000000 }) (disch := first | omega | (simp only [go_sem]; omega)) only [go_sem, ↓reduceIte]
    refine call_by r1 ?_
    simp (config := { maxSteps := 1000000 }) (disch := first | omega | (simp only [go_sem]; omega)) only [go_sem, ↓reduceIte, c]
    refine call_by r2 ?_
    simp (config := { maxSteps := 1000000 }) (disch := first | omega | (simp only [go_sem]; omega)) only [go_sem, ↓reduceIte]
    try simp
theorem sel_full {f : Nat → Bool} : ∀ {n : Nat}, (∀ k, k < n → f k = true) → (sel f n).length = n
  | 0, _ => by rw [sel_zero]; rfl
  | n + 1, h => by rw [sel_succ, if_pos (h n (by omega)), List.length_append, sel_full fun k hk => h k (by omega)]; rfl
theorem into_full {l p : List Int} (h : ∀ v ∈ l, v ∈ p) : (intoL l p).length = l.length :=
  sel_full fun k hk => decide_eq_true (h _ (gt_mem (by omega) (by omega)))
end
end Go.Am
namespace Go.Am
open Go
set_option linter.unusedVariables false
set_option linter.unusedSimpArgs false
def meetP (p q : Mo) : Mo := ⟨comL p.n q.n, comL p.e q.e⟩
def meetR (g : G) (p q : Mo) : Mo × Int := if joinE g p q ≠ 0 then (m0, joinE g p q) else (meetP p q, 0)
section
theorem com_mrg {a b : List Int} {n : Nat} (ha : AscL a n) : comL a b = mrgL n a b true :=
  asc_ext (com_asc ha.p) mrg_asc fun x => by
    rw [com_mem, mrg_mem]
    simp only [if_true]
    exact ⟨fun h => ⟨ha.b x h.1, h⟩, fun h => h.2⟩
theorem out_mem {g : G} {pe : List Int} {x : Int} : ∀ {n : Nat}, x ∈ outE g pe n ↔ ∃ k : Nat, k < n ∧ ¬ (k : Int) ∈ pe ∧ ((gt g.e k).f = x ∨ (gt g.e k).o = x)
  | 0 => by simp [outE]
  | n + 1 => by
    rw [outE]
    have ih := out_mem (g := g) (pe := pe) (x := x) (n := n)
    split
    · rename_i h
      rw [ih]
      constructor
      · rintro ⟨k, h1, h2⟩; exact ⟨k, by omega, h2⟩
      · rintro ⟨k, h1, h2, h3⟩
        by_cases e : k = n
        · subst e; exact absurd h h2
        · exact ⟨k, by omega, h2, h3⟩
    · rename_i h
      rw [List.mem_append, ih]
      simp only [List.mem_cons, List.not_mem_nil, or_false]
      constructor
      · rintro (⟨k, h1, h2⟩ | h2)
        · exact ⟨k, by omega, h2⟩
        · exact ⟨n, by omega, h, h2.imp Eq.symm Eq.symm⟩
      · rintro ⟨k, h1, h2, h3⟩
        by_cases e : k = n
        · subst e; exact .inr (h3.imp Eq.symm Eq.symm)
        · exact .inl ⟨k, by omega, h2, h3⟩
theorem bd_mem {g : G} {p : Mo} {x : Int} : x ∈ bdL g p ↔ (∃ k : Nat, k < g.e.length ∧ ¬ (k : Int) ∈ p.e ∧ ((gt g.e k).f = x ∨ (gt g.e k).o = x)) ∧ x ∈ p.n := by
  unfold bdL
  rw [com_mem, imgs_mem, out_mem]
theorem into_len {l p : List Int} : (intoL l p).length = l.length ↔ ∀ x ∈ l, x ∈ p := by
  constructor
  · intro h x hx
    obtain ⟨i, hi, rfl⟩ := mem_gt hx
    refine Decidable.byContradiction fun hn => ?_
    have key : ∀ n : Nat, i < n → (sel (fun i : Nat => decide (gt l i ∈ p)) n).length < n := fun n => by
      induction n with
      | zero => intro h; omega
      | succ n ih =>
        intro hin
        have hle := sel_len (fun i : Nat => decide (gt l i ∈ p)) n
        rw [sel_succ]
        by_cases e : i = n
        · subst e
          rw [if_neg (by simpa using hn)]
          omega
        · have := ih (by omega)
          split
          · rw [List.length_append]; simp only [List.length_cons, List.length_nil]; omega
          · omega
    have := key l.length hi
    unfold intoL at h
    omega
  · exact into_full
theorem inP_iff {p q : Mo} : inP p q = true ↔ (∀ x ∈ p.n, x ∈ q.n) ∧ ∀ x ∈ p.e, x ∈ q.e := by
  unfold inP
  rw [Bool.and_eq_true, decide_eq_true_eq, decide_eq_true_eq, ← into_len, ← into_len]
  omega
end
end Go.Am
namespace Go.Am
open Go
set_option linter.unusedVariables false
set_option linter.unusedSimpArgs false
attribute [local irreducible] W
/- r07.merged -/
def c_r07_merged_r0 (F : String → Nat) : List LI := [⟨some 8, .mov (.k (.nl 1)), none⟩]
def c_r07_merged_r1 (F : String → Nat) : List LI := [⟨some 9, .mov (.k (.nl 1)), none⟩]
def c_r07_merged_r2 (F : String → Nat) : List LI := [⟨some 10, .mov (.k (.int .i64 (0))), none⟩]
def c_r07_merged_r3 (F : String → Nat) : List LI := [⟨some 13, .mov (.t 10), none⟩,
  ⟨some 14, .mov (.t 0), none⟩,
  ⟨some 15, .bin .lss (.t 13) (.t 14), none⟩]
def c_r07_merged_r4 (F : String → Nat) : List LI := [⟨some 18, .mov (.t 1), none⟩,
  ⟨some 19, .mov (.t 10), none⟩,
  ⟨some 20, .call (F "r07.has") [.t 18, .t 19] [], none⟩,
  ⟨some 21, .mov (.t 2), none⟩,
  ⟨some 22, .mov (.t 10), none⟩,
  ⟨some 23, .call (F "r07.has") [.t 21, .t 22] [], none⟩,
  ⟨some 11, .mov (.t 20), none⟩,
  ⟨some 12, .mov (.t 23), none⟩]
def c_r07_merged_r5 (F : String → Nat) : List LI := [⟨some 24, .mov (.t 11), none⟩,
  ⟨some 25, .mov (.t 24), none⟩,
  ⟨some 26, .mov (.t 12), some (25, true)⟩,
  ⟨some 27, .pick (.t 25) (.t 26) (.k (.bool false)), none⟩,
  ⟨some 28, .mov (.t 27), none⟩,
  ⟨some 29, .mov (.t 3), some (28, false)⟩,
  ⟨some 30, .not (.t 29), some (28, false)⟩,
  ⟨some 31, .mov (.t 30), some (28, false)⟩,
  ⟨some 32, .mov (.t 11), some (31, true)⟩,
  ⟨some 33, .mov (.t 32), some (31, true)⟩,
  ⟨some 34, .mov (.t 12), some (33, false)⟩,
  ⟨some 35, .pick (.t 33) (.k (.bool true)) (.t 34), some (31, true)⟩,
  ⟨some 36, .pick (.t 31) (.t 35) (.k (.bool false)), some (28, false)⟩,
  ⟨some 37, .pick (.t 28) (.k (.bool true)) (.t 36), none⟩]
def c_r07_merged_r6 (F : String → Nat) : List LI := [⟨some 38, .mov (.t 9), none⟩,
  ⟨some 39, .mov (.t 10), none⟩,
  ⟨some 40, .buildSl 1 8 (.int .i64 (0)) 1 [(0, .t 39)], none⟩,
  ⟨some 41, .app 1 8 (.t 38) (.t 40), none⟩,
  ⟨some 9, .mov (.t 41), none⟩]
def c_r07_merged_r7 (F : String → Nat) : List LI := [⟨some 16, .mov (.t 10), none⟩,
  ⟨some 17, .bin .add (.t 16) (.k (.int .i64 (1))), none⟩,
  ⟨some 10, .mov (.t 17), none⟩]
def c_r07_merged_b8 (F : String → Nat) : LC := (.seq (.seq (.reg (c_r07_merged_r3 F) [0, 1, 2, 3, 9, 10, 15]) (.cond (.t 15) .skip (.exit 0))) (.seq (.block 1 (.seq (.reg (c_r07_merged_r4 F) [0, 1, 2, 3, 9, 10, 11, 12]) (.seq (.reg (c_r07_merged_r5 F) [0, 1, 2, 3, 9, 10, 37]) (.cond (.t 37) (.reg (c_r07_merged_r6 F) [0, 1, 2, 3, 9, 10]) .skip)))) (.reg (c_r07_merged_r7 F) [0, 1, 2, 3, 9, 10])))
def c_r07_merged_r9 (F : String → Nat) : List LI := [⟨some 42, .mov (.t 9), none⟩,
  ⟨some 8, .mov (.t 42), none⟩]
def c_r07_merged (F : String → Nat) : LC := (.seq (.reg (c_r07_merged_r0 F) [0, 1, 2, 3]) (.seq (.reg (c_r07_merged_r1 F) [0, 1, 2, 3, 9]) (.seq (.seq (.reg (c_r07_merged_r2 F) [0, 1, 2, 3, 9, 10]) (.block 0 (.loop [0, 1, 2, 3, 9, 10] (c_r07_merged_b8 F)))) (.seq (.reg (c_r07_merged_r9 F) [8]) .ret))))
def h_r07_merged : Hints := ⟨[], fun _ => [], tab [(0, [0, 1, 2, 3]), (1, [0, 1, 2, 3, 9]), (2, [0, 1, 2, 3, 9, 10]), (3, [0, 1, 2, 3, 9, 10, 15]), (4, [0, 1, 2, 3, 9, 10]), (5, [0, 1, 2, 3, 9, 10, 11, 12]), (6, [0, 1, 2, 3, 9, 10, 37]), (7, [0, 1, 2, 3, 9, 10]), (8, [8])], tab [(3, [0, 1, 2, 3, 9, 10])]⟩

/- r07.both -/
def c_r07_both_r0 (F : String → Nat) : List LI := [⟨some 3, .bx (.t 0), none⟩,
  ⟨some 4, .bx (.t 1), none⟩,
  ⟨some 5, .bx (.t 2), none⟩,
  ⟨some 6, .mov (.k (.int .i64 (0))), none⟩]
def c_r07_both_r1 (F : String → Nat) : List LI := [⟨some 8, .load true 2 (.t 3), none⟩,
  ⟨some 9, .load true 2 (.t 4), none⟩,
  ⟨some 10, .call (F "r07.Valid") [.t 8, .t 9] [], none⟩,
  ⟨some 7, .mov (.t 10), none⟩]
def c_r07_both_r2 (F : String → Nat) : List LI := [⟨some 11, .mov (.t 7), none⟩,
  ⟨some 12, .bin .neq (.t 11) (.k (.int .i64 (0))), none⟩]
def c_r07_both_r3 (F : String → Nat) : List LI := [⟨some 13, .mov (.t 7), none⟩,
  ⟨some 6, .mov (.t 13), none⟩]
def c_r07_both_r4 (F : String → Nat) : List LI := [⟨some 14, .load true 2 (.t 3), none⟩,
  ⟨some 15, .load true 2 (.t 5), none⟩,
  ⟨some 16, .call (F "r07.Right") [.t 14, .t 15] [], none⟩,
  ⟨some 6, .mov (.t 16), none⟩]
def c_r07_both (F : String → Nat) : LC := (.seq (.reg (c_r07_both_r0 F) [3, 4, 5]) (.seq (.seq (.reg (c_r07_both_r1 F) [3, 5, 7]) (.seq (.reg (c_r07_both_r2 F) [3, 5, 7, 12]) (.cond (.t 12) (.seq (.reg (c_r07_both_r3 F) [6]) .ret) .skip))) (.seq (.reg (c_r07_both_r4 F) [6]) .ret)))
def h_r07_both : Hints := ⟨[], fun _ => [], tab [(0, [3, 4, 5]), (1, [3, 5, 7]), (2, [3, 5, 7, 12]), (3, [6]), (4, [6])], tab []⟩

attribute [go_sem] c_r07_merged_r0 c_r07_merged_r1 c_r07_merged_r2 c_r07_merged_r3 c_r07_merged_r4 c_r07_merged_r5 c_r07_merged_r6 c_r07_merged_r7 c_r07_merged_r9 c_r07_merged c_r07_both_r0 c_r07_both_r1 c_r07_both_r2 c_r07_both_r3 c_r07_both_r4 c_r07_both
def combR (g : G) (p q : Mo) (all : Bool) : Mo × Int := if joinE g p q ≠ 0 then (m0, joinE g p q) else (⟨mrgL g.n.length p.n q.n all, mrgL g.e.length p.e q.e all⟩, 0)
section
variable (P : Program) (F : String → Nat)
def K_r07_merged : Prop := ∀ (n : Nat) (a b : List Int) (all : Bool), n ≤ 1000 → a.length ≤ maxL → b.length ≤ maxL → FC P (F "r07.merged") [.int .i64 n, .lst 1 (ints a), .lst 1 (ints b), .bool all] (.arr 1 (ints (mrgL n a b all))) []
def K_r07_both : Prop := ∀ (g : G) (p q : Mo), p.sm → q.sm → FC P (F "r07.both") [gD g, mD p, mD q] (.int .i64 (joinE g p q)) []
end
section
variable {P : Program} {F : String → Nat} {α : Type}
theorem w_r07_merged (hh : K_r07_has P F) (n : Nat) (a b : List Int) (all : Bool) (hn : n ≤ 1000) (h1 : a.length ≤ maxL) (h2 : b.length ≤ maxL) : W P (c_r07_merged F) (Done [.t 8] [] (.arr 1 (ints (mrgL n a b all))) []) (init [.int .i64 n, .lst 1 (ints a), .lst 1 (ints b), .bool all]) := by
  refine W_of ?_
  have hM : mrgL n a b all = sel (fun i : Nat => (inL a i && inL b i) || (!all && (inL a i || inL b i))) n := rfl
  have ss := sel_succ (fun i : Nat => (inL a i && inL b i) || (!all && (inL a i || inL b i)))
  have s0 := sel_zero (fun i : Nat => (inL a i && inL b i) || (!all && (inL a i || inL b i)))
  have sl := sel_len (fun i : Nat => (inL a i && inL b i) || (!all && (inL a i || inL b i)))
  have ra := fun i : Nat => hh a (i : Int) h1
  have rb := fun i : Nat => hh b (i : Int) h2
  have ea : ∀ i : Nat, decide ((i : Int) ∈ a) = inL a i := fun i => rfl
  have eb : ∀ i : Nat, decide ((i : Int) ∈ b) = inL b i := fun i => rfl
  rw [hM]
  clear hM
  generalize sel (fun i : Nat => (inL a i && inL b i) || (!all && (inL a i || inL b i))) = S at *
  simp (config := { maxSteps := 1000000 }) (disch := first | omega | (simp only [go_sem]; omega)) only [go_sem, ↓reduceIte]
  refine W_loop (fun i : Nat => ⟨[(0, .int .i64 n), (1, .lst 1 (ints a)), (2, .lst 1 (ints b)), (3, .bool all), (9, .sl 0 0 (S i).length), (10, .int .i64 i)], [(0, .arr 1 (ints (S i)))], 1⟩) (fun i => i ≤ n) (fun i => n - i) 0 ?_ ?_ ?_
  · simp (config := { maxSteps := 1000000 }) (disch := first | omega | (simp only [go_sem]; omega)) only [go_sem, ↓reduceIte, s0]
    rfl
  · simp
  · intro i hi
    have hl := sl i
    by_cases c : i < n
    · have d1 : decide ((i : Int) < n) = true := decide_eq_true (by omega)
      have r1 := ra i
      have r2 := rb i
      have st := ss i
      rw [ea i] at r1
      rw [eb i] at r2
      generalize inL a i = u at *
      generalize inL b i = v at *
      simp (config := { maxSteps := 1000000 }) (disch := first | omega | (simp only [go_sem]; omega)) only [go_sem, ↓reduceIte, c_r07_merged_b8, d1]
      refine call_by r1 ?_
      simp (config := { maxSteps := 1000000 }) (disch := first | omega | (simp only [go_sem]; omega)) only [go_sem, ↓reduceIte]
      refine call_by r2 ?_
      cases all <;> cases u <;> cases v
      all_goals
        simp only [Bool.and_self, Bool.and_false, Bool.false_and, Bool.or_self, Bool.or_false, Bool.or_true, Bool.true_or, Bool.not_true, Bool.not_false, Bool.true_and, Bool.and_true, Bool.false_or, if_true, if_false, Bool.false_eq_true] at st
        simp (config := { maxSteps := 1000000 }) (disch := first | omega | (simp only [go_sem]; omega)) only [go_sem, ↓reduceIte]
        exact ⟨i + 1, by simp [st], by omega, by omega⟩
    · have d1 : decide ((i : Int) < n) = false := decide_eq_false (by omega)
      obtain rfl : i = n := by omega
      simp (config := { maxSteps := 1000000 }) (disch := first | omega | (simp only [go_sem]; omega)) only [go_sem, ↓reduceIte, c_r07_merged_b8, d1]
theorem w_r07_both (hv : K_r07_Valid P F) (hp : K_r07_Right P F) (g : G) (p q : Mo) (h1 : p.sm) (h2 : q.sm) : W P (c_r07_both F) (Done [.t 6] [] (.int .i64 (joinE g p q)) []) (init [gD g, mD p, mD q]) := by
  refine W_of ?_
  have r1 := hv g p h1.1 h1.2
  have r2 := fun h => hp g q h h2.1 h2.2
  have hv0 := @validP_ok g p
  unfold joinE
  generalize validP g p = v at *
  generalize rightP g q = u at *
  simp only [gD, mD] at *
  simp (config := { maxSteps := 1000000 }) (disch := first | omega | (simp only [go_sem]; omega)) only [go_sem, ↓reduceIte]
  refine call_by r1 ?_
  simp (config := { maxSteps := 1000000 }) (disch := first | omega | (simp only [go_sem]; omega)) only [go_sem, ↓reduceIte]
  refine bran_ndec (fun c => ?_) (fun c => ?_)
  · simp (config := { maxSteps := 1000000 }) (disch := first | omega | (simp only [go_sem]; omega)) only [go_sem, ↓reduceIte]
    try rw [if_pos c]
  · have r2 := r2 (hv0.1 c).v
    simp (config := { maxSteps := 1000000 }) (disch := first | omega | (simp only [go_sem]; omega)) only [go_sem, ↓reduceIte]
    refine call_by r2 ?_
    simp (config := { maxSteps := 1000000 }) (disch := first | omega | (simp only [go_sem]; omega)) only [go_sem, ↓reduceIte]
    rw [if_neg (by simp [c])]
end
end Go.Am
namespace Go.Am
open Go
set_option linter.unusedVariables false
set_option linter.unusedSimpArgs false
attribute [local irreducible] W
/- r07.combined -/
def c_r07_combined_r0 (F : String → Nat) : List LI := [⟨some 4, .bx (.t 0), none⟩,
  ⟨some 5, .bx (.t 1), none⟩,
  ⟨some 6, .bx (.t 2), none⟩,
  ⟨some 8, .alloc [.nl 1, .nl 1], none⟩,
  ⟨some 9, .mov (.k (.int .i64 (0))), none⟩]
def c_r07_combined_r1 (F : String → Nat) : List LI := [⟨some 11, .load true 2 (.t 4), none⟩,
  ⟨some 12, .load true 2 (.t 5), none⟩,
  ⟨some 13, .load true 2 (.t 6), none⟩,
  ⟨some 14, .call (F "r07.both") [.t 11, .t 12, .t 13] [], none⟩,
  ⟨some 10, .mov (.t 14), none⟩]
def c_r07_combined_r2 (F : String → Nat) : List LI := [⟨some 15, .mov (.t 10), none⟩,
  ⟨some 16, .bin .neq (.t 15) (.k (.int .i64 (0))), none⟩]
def c_r07_combined_r3 (F : String → Nat) : List LI := [⟨some 17, .build [.nl 1, .nl 1] [], none⟩,
  ⟨some 18, .mov (.t 10), none⟩,
  ⟨none, .store 2 (.t 8) (.t 17), none⟩,
  ⟨some 9, .mov (.t 18), none⟩]
def c_r07_combined_r4 (F : String → Nat) : List LI := [⟨some 19, .fad 0 (.t 4), none⟩,
  ⟨some 20, .load false 1 (.t 19), none⟩,
  ⟨some 21, .len (.t 20), none⟩,
  ⟨some 22, .fad 0 (.t 5), none⟩,
  ⟨some 23, .load false 1 (.t 22), none⟩,
  ⟨some 24, .fad 0 (.t 6), none⟩,
  ⟨some 25, .load false 1 (.t 24), none⟩,
  ⟨some 26, .mov (.t 3), none⟩,
  ⟨some 27, .call (F "r07.merged") [.t 21, .t 23, .t 25, .t 26] [], none⟩,
  ⟨some 28, .fad 1 (.t 4), none⟩,
  ⟨some 29, .load false 1 (.t 28), none⟩,
  ⟨some 30, .len (.t 29), none⟩,
  ⟨some 31, .fad 1 (.t 5), none⟩,
  ⟨some 32, .load false 1 (.t 31), none⟩,
  ⟨some 33, .fad 1 (.t 6), none⟩,
  ⟨some 34, .load false 1 (.t 33), none⟩,
  ⟨some 35, .mov (.t 3), none⟩,
  ⟨some 36, .call (F "r07.merged") [.t 30, .t 32, .t 34, .t 35] [], none⟩,
  ⟨some 37, .build [.nl 1, .nl 1] [(0, 1, .t 27), (1, 1, .t 36)], none⟩,
  ⟨none, .store 2 (.t 8) (.t 37), none⟩,
  ⟨some 9, .mov (.k (.int .i64 (0))), none⟩]
def c_r07_combined (F : String → Nat) : LC := (.seq (.reg (c_r07_combined_r0 F) [3, 4, 5, 6, 8]) (.seq (.seq (.reg (c_r07_combined_r1 F) [3, 4, 5, 6, 8, 10]) (.seq (.reg (c_r07_combined_r2 F) [3, 4, 5, 6, 8, 10, 16]) (.cond (.t 16) (.seq (.reg (c_r07_combined_r3 F) [8, 9]) .ret) .skip))) (.seq (.dreg [(8, none, [], true), (10, (some 512), [8], false), (13, (some 4096), [8], false), (15, (some 16384), [8], false)] (c_r07_combined_r4 F) [8, 9]) .ret)))
def h_r07_combined : Hints := ⟨[], fun _ => [], tab [(0, [3, 4, 5, 6, 8]), (1, [3, 4, 5, 6, 8, 10]), (2, [3, 4, 5, 6, 8, 10, 16]), (3, [8, 9]), (4, [8, 9])], tab []⟩

attribute [go_sem] c_r07_combined_r0 c_r07_combined_r1 c_r07_combined_r2 c_r07_combined_r3 c_r07_combined_r4 c_r07_combined
section
variable (P : Program) (F : String → Nat)
def K_r07_combined : Prop := ∀ (g : G) (p q : Mo) (all : Bool), p.sm → q.sm → FC P (F "r07.combined") [gD g, mD p, mD q, .bool all] (.tup [mA (combR g p q all).1, .int .i64 (combR g p q all).2]) []
end
section
variable {P : Program} {F : String → Nat} {α : Type}
theorem joinE_ok {g : G} {p q : Mo} : joinE g p q = 0 ↔ PK g p ∧ PK g q := by
  unfold joinE
  split
  · rename_i h; exact ⟨fun e => absurd e h, fun e => absurd (validP_ok.2 e.1) h⟩
  · rename_i h
    have hp := validP_ok.1 (Decidable.not_not.1 h)
    constructor
    · intro e; exact ⟨hp, validP_ok.1 (by unfold validP; rw [if_neg (by simp [hp.v]), e])⟩
    · rintro ⟨_, hq⟩
      have := validP_ok.2 hq
      unfold validP at this
      rw [if_neg (by simp [hp.v])] at this
      exact this
theorem w_r07_combined (hb : K_r07_both P F) (hm : K_r07_merged P F) (g : G) (p q : Mo) (all : Bool) (h1 : p.sm) (h2 : q.sm) : W P (c_r07_combined F) (Done [.c 8 true 2, .t 9] [] (.tup [mA (combR g p q all).1, .int .i64 (combR g p q all).2]) []) (init [gD g, mD p, mD q, .bool all]) := by
  refine W_of ?_
  have r1 := hb g p q h1 h2
  have hR : combR g p q all = if joinE g p q ≠ 0 then (m0, joinE g p q) else (⟨mrgL g.n.length p.n q.n all, mrgL g.e.length p.e q.e all⟩, 0) := rfl
  have h0 : joinE g p q = 0 → g.n.length ≤ 40 ∧ g.e.length ≤ 80 := fun h => by
    have := valid_spec (joinE_ok.1 h).1.v
    omega
  generalize joinE g p q = v at *
  rw [hR]
  clear hR
  have h3 := h1.1
  have h4 := h1.2
  have h5 := h2.1
  have h6 := h2.2
  obtain ⟨gn, ge⟩ := g
  obtain ⟨pn, pe⟩ := p
  obtain ⟨qn, qe⟩ := q
  simp only [gD, mD, mA, m0] at *
  simp (config := { maxSteps := 1000000 }) (disch := first | omega | (simp only [go_sem]; omega)) only [go_sem, ↓reduceIte]
  refine call_by r1 ?_
  simp (config := { maxSteps := 1000000 }) (disch := first | omega | (simp only [go_sem]; omega)) only [go_sem, ↓reduceIte]
  refine bran_ndec (fun c => ?_) (fun c => ?_)
  · simp (config := { maxSteps := 1000000 }) (disch := first | omega | (simp only [go_sem]; omega)) only [go_sem, ↓reduceIte]
    simp [c, mA, m0, ints]
  · obtain ⟨l1, l2⟩ := h0 c
    have r2 := hm gn.length pn qn all (by omega) h3 h5
    have r3 := hm ge.length pe qe all (by omega) h4 h6
    rw [if_neg (by simp [c])]
    generalize mrgL gn.length pn qn all = y1 at *
    generalize mrgL ge.length pe qe all = y2 at *
    simp (config := { maxSteps := 1000000 }) (disch := first | omega | (simp only [go_sem]; omega)) only [go_sem, ↓reduceIte]
    refine call_by r2 ?_
    simp (config := { maxSteps := 1000000 }) (disch := first | omega | (simp only [go_sem]; omega)) only [go_sem, ↓reduceIte]
    refine call_by r3 ?_
    simp (config := { maxSteps := 1000000 }) (disch := first | omega | (simp only [go_sem]; omega)) only [go_sem, ↓reduceIte]
    try rfl
end
end Go.Am
namespace Go.Am
open Go
set_option linter.unusedVariables false
set_option linter.unusedSimpArgs false
attribute [local irreducible] W
/- r07.Meet -/
def c_r07_Meet_r0 (F : String → Nat) : List LI := [⟨some 3, .bx (.t 0), none⟩,
  ⟨some 4, .bx (.t 1), none⟩,
  ⟨some 5, .bx (.t 2), none⟩,
  ⟨some 6, .alloc [.nl 1, .nl 1], none⟩,
  ⟨some 7, .mov (.k (.int .i64 (0))), none⟩]
def c_r07_Meet_r1 (F : String → Nat) : List LI := [⟨some 8, .load true 2 (.t 3), none⟩,
  ⟨some 9, .load true 2 (.t 4), none⟩,
  ⟨some 10, .load true 2 (.t 5), none⟩,
  ⟨some 11, .call (F "r07.combined") [.t 8, .t 9, .t 10, .k (.bool true)] [], none⟩,
  ⟨some 12, .ext (.t 11) 0, none⟩,
  ⟨some 13, .ext (.t 11) 1, none⟩,
  ⟨none, .store 2 (.t 6) (.t 12), none⟩,
  ⟨some 7, .mov (.t 13), none⟩]
def c_r07_Meet (F : String → Nat) : LC := (.seq (.reg (c_r07_Meet_r0 F) [3, 4, 5, 6]) (.seq (.reg (c_r07_Meet_r1 F) [6, 7]) .ret))
def h_r07_Meet : Hints := ⟨[], fun _ => [], tab [(0, [3, 4, 5, 6]), (1, [6, 7])], tab []⟩

attribute [go_sem] c_r07_Meet_r0 c_r07_Meet_r1 c_r07_Meet
section
variable (P : Program) (F : String → Nat)
def K_r07_Meet : Prop := ∀ (g : G) (p q : Mo), p.sm → q.sm → FC P (F "r07.Meet") [gD g, mD p, mD q] (.tup [mA (meetR g p q).1, .int .i64 (meetR g p q).2]) []
end
section
variable {P : Program} {F : String → Nat} {α : Type}
theorem comb_meet {g : G} {p q : Mo} : combR g p q true = meetR g p q := by
  unfold combR meetR
  split
  · rfl
  · rename_i h
    obtain ⟨k1, k2⟩ := joinE_ok.1 (Decidable.not_not.1 h)
    rw [meetP, com_mrg k1.n, com_mrg k1.e]
theorem w_r07_Meet (hc : K_r07_combined P F) (g : G) (p q : Mo) (h1 : p.sm) (h2 : q.sm) : W P (c_r07_Meet F) (Done [.c 6 true 2, .t 7] [] (.tup [mA (meetR g p q).1, .int .i64 (meetR g p q).2]) []) (init [gD g, mD p, mD q]) := by
  refine W_of ?_
  have r1 := hc g p q true h1 h2
  rw [comb_meet] at r1
  generalize meetR g p q = R at *
  obtain ⟨⟨rn, re⟩, v⟩ := R
  simp only [gD, mD, mA] at *
  simp (config := { maxSteps := 1000000 }) (disch := first | omega | (simp only [go_sem]; omega)) only [go_sem, ↓reduceIte]
  refine call_by r1 ?_
  simp (config := { maxSteps := 1000000 }) (disch := first | omega | (simp only [go_sem]; omega)) only [go_sem, ↓reduceIte]
  try rfl
end
end Go.Am
namespace Go.Am
open Go
set_option linter.unusedVariables false
set_option linter.unusedSimpArgs false

def mn2 (a b : Int) : Int := if b < a then b else a
/-- One edge: both ends get the lesser number. -/
def stepC (l : List Int) (x : E) : List Int := (l.set x.f.toNat (mn2 (gt l x.f) (gt l x.o))).set x.o.toNat (mn2 (gt l x.f) (gt l x.o))
def passC (es : List E) (l : List Int) : List Int := es.foldl stepC l
def sumN (l : List Int) : Nat := (l.map Int.toNat).sum
def limK (es : List E) : Nat → List Int → List Int
  | 0, l => l
  | k + 1, l => if passC es l = l then l else limK es k (passC es l)
def limC (es : List E) (l : List Int) : List Int := limK es (sumN l + 1) l
/-- The numbers below `n` that meet a condition. -/
def idxs (p : Nat → Bool) : Nat → List Int
  | 0 => []
  | n + 1 => if p n then idxs p n ++ [(n : Int)] else idxs p n
def partC (es : List E) (l : List Int) (i : Nat) : Mo := ⟨idxs (fun n => decide (gt l n = (i : Int))) l.length, idxs (fun m => decide (gt l (gt es m).f = (i : Int))) es.length⟩
def partsC (es : List E) (l : List Int) : Nat → List Mo
  | 0 => []
  | i + 1 => if gt l i = (i : Int) then partsC es l i ++ [partC es l i] else partsC es l i
def compsG (g : G) : List Mo × Int := if validG g ≠ 0 then ([], validG g) else (partsC g.e (limC g.e (nums 0 g.n.length)) g.n.length, 0)
section
variable (P : Program) (F : String → Nat)
end
section
variable {P : Program} {F : String → Nat} {α : Type}
theorem stepC_len (l : List Int) (x : E) : (stepC l x).length = l.length := by simp [stepC]
theorem foldC_len (es : List E) (l : List Int) : (es.foldl stepC l).length = l.length := by
  induction es generalizing l with
  | nil => rfl
  | cons x es ih => rw [List.foldl_cons, ih, stepC_len]
/-- All entries are at least 0. -/
def NN0 (l : List Int) : Prop := ∀ i : Nat, 0 ≤ gt l (i : Int)
theorem gt_toNat [Inhabited α] (l : List α) (x : Int) : gt l ((x.toNat : Nat) : Int) = gt l x := by simp only [gt, Int.toNat_natCast]
theorem gt_setJ {l : List Int} {i : Nat} {v : Int} (j : Nat) : gt (l.set i v) (j : Int) = if j = i ∧ i < l.length then v else gt l (j : Int) := by
  simp only [gt, Int.toNat_natCast, List.getD_eq_getElem?_getD, List.getElem?_set]
  by_cases h : j = i
  · subst h
    by_cases h2 : j < l.length <;> simp [h2]
  · rw [if_neg (Ne.symm h), if_neg (fun e => h e.1)]
theorem sum_set_le (l : List Int) (i : Nat) (v : Int) (h0 : 0 ≤ v) (hv : v ≤ gt l (i : Int)) : sumN (l.set i v) ≤ sumN l ∧ (sumN (l.set i v) = sumN l → l.set i v = l) := by
  induction l generalizing i with
  | nil => simp [sumN]
  | cons a l ih =>
    cases i with
    | zero =>
      have hv' : v ≤ a := by simpa [gt] using hv
      simp only [List.set_cons_zero, sumN, List.map_cons, List.sum_cons]
      refine ⟨by omega, fun h => ?_⟩
      have : v = a := by omega
      rw [this]
    | succ i =>
      have hv' : v ≤ gt l (i : Int) := by simpa [gt] using hv
      obtain ⟨h1, h2⟩ := ih i hv'
      simp only [List.set_cons_succ, sumN, List.map_cons, List.sum_cons] at h1 h2 ⊢
      refine ⟨by omega, fun h => ?_⟩
      rw [h2 (by omega)]
theorem mn2_spec (a b : Int) : mn2 a b ≤ a ∧ mn2 a b ≤ b ∧ (mn2 a b = a ∨ mn2 a b = b) := by unfold mn2; split <;> omega
theorem stepC_nn {l : List Int} (h : NN0 l) (x : E) : NN0 (stepC l x) := by
  intro j
  have h1 : 0 ≤ gt l x.f := by have := h x.f.toNat; rwa [gt_toNat] at this
  have h2 : 0 ≤ gt l x.o := by have := h x.o.toNat; rwa [gt_toNat] at this
  have h3 := mn2_spec (gt l x.f) (gt l x.o)
  simp only [stepC, gt_setJ]
  split
  · omega
  · split
    · omega
    · exact h j
theorem stepC_sum {l : List Int} (h : NN0 l) (x : E) : sumN (stepC l x) ≤ sumN l ∧ (sumN (stepC l x) = sumN l → stepC l x = l) := by
  have h1 : 0 ≤ gt l x.f := by have := h x.f.toNat; rwa [gt_toNat] at this
  have h2 : 0 ≤ gt l x.o := by have := h x.o.toNat; rwa [gt_toNat] at this
  have e1 : gt l ((x.f.toNat : Nat) : Int) = gt l x.f := gt_toNat _ _
  have e2 : gt l ((x.o.toNat : Nat) : Int) = gt l x.o := gt_toNat _ _
  have h3 := mn2_spec (gt l x.f) (gt l x.o)
  obtain ⟨a1, a2⟩ := sum_set_le l x.f.toNat (mn2 (gt l x.f) (gt l x.o)) (by omega) (by rw [e1]; omega)
  obtain ⟨b1, b2⟩ := sum_set_le (l.set x.f.toNat (mn2 (gt l x.f) (gt l x.o))) x.o.toNat (mn2 (gt l x.f) (gt l x.o)) (by omega) (by rw [gt_setJ]; split <;> omega)
  refine ⟨Nat.le_trans b1 a1, fun e => ?_⟩
  unfold stepC at e ⊢
  have e3 := a2 (by omega)
  rw [e3] at b2 e ⊢
  exact b2 e
theorem foldC_sum (es : List E) {l : List Int} (h : NN0 l) : NN0 (es.foldl stepC l) ∧ sumN (es.foldl stepC l) ≤ sumN l ∧ (sumN (es.foldl stepC l) = sumN l → es.foldl stepC l = l) := by
  induction es generalizing l with
  | nil => exact ⟨h, Nat.le_refl _, fun _ => rfl⟩
  | cons x es ih =>
    obtain ⟨a, b, c⟩ := ih (stepC_nn h x)
    obtain ⟨d, e⟩ := stepC_sum h x
    rw [List.foldl_cons]
    refine ⟨a, Nat.le_trans b d, fun hs => ?_⟩
    rw [c (by omega)]
    exact e (by rw [c (by omega)] at hs; exact hs)
theorem limK_more {es : List E} {l : List Int} (h : NN0 l) : ∀ k k', sumN l < k → sumN l < k' → limK es k l = limK es k' l := by
  intro k
  induction k generalizing l with
  | zero => intro k' h1; omega
  | succ k ih =>
    intro k' h1 h2
    cases k' with
    | zero => omega
    | succ k' =>
      simp only [limK]
      split
      · rfl
      · rename_i hne
        obtain ⟨a, b, c⟩ := foldC_sum es h
        change sumN (passC es l) ≤ sumN l at b
        change NN0 (passC es l) at a
        have : sumN (passC es l) < sumN l := Nat.lt_of_le_of_ne b (fun e => hne (c e))
        exact ih a k' (by omega) (by omega)
theorem limC_eq {es : List E} {l : List Int} (h : NN0 l) : limC es l = if passC es l = l then l else limC es (passC es l) := by
  conv => lhs; unfold limC
  simp only [limK]
  split
  · rfl
  · rename_i hne
    obtain ⟨a, b, c⟩ := foldC_sum es h
    change sumN (passC es l) ≤ sumN l at b
    change NN0 (passC es l) at a
    have : sumN (passC es l) < sumN l := Nat.lt_of_le_of_ne b (fun e => hne (c e))
    exact limK_more a _ _ (by omega) (by omega)
theorem stepC_diff {l : List Int} {x : E} (hf : 0 ≤ x.f ∧ x.f < l.length) (ho : 0 ≤ x.o ∧ x.o < l.length) (h : ¬ (gt l x.f = mn2 (gt l x.f) (gt l x.o) ∧ gt l x.o = mn2 (gt l x.f) (gt l x.o))) : stepC l x ≠ l := by
  intro e
  apply h
  have e1 : gt (stepC l x) ((x.o.toNat : Nat) : Int) = mn2 (gt l x.f) (gt l x.o) := by
    simp only [stepC, gt_setJ]
    rw [if_pos ⟨by trivial, by simp; omega⟩]
  have e2 : gt (stepC l x) ((x.f.toNat : Nat) : Int) = mn2 (gt l x.f) (gt l x.o) := by
    simp only [stepC, gt_setJ]
    split
    · rfl
    · rw [if_pos ⟨by trivial, by omega⟩]
  rw [e, gt_toNat] at e1 e2
  exact ⟨e2, e1⟩
theorem idxs_len (p : Nat → Bool) : ∀ n, (idxs p n).length ≤ n
  | 0 => by simp [idxs]
  | n + 1 => by have := idxs_len p n; simp only [idxs]; split <;> simp <;> omega
theorem partsC_len (es : List E) (l : List Int) : ∀ i, (partsC es l i).length ≤ i
  | 0 => by simp [partsC]
  | i + 1 => by have := partsC_len es l i; simp only [partsC]; split <;> simp <;> omega
end
end Go.Am
