/- The graph package and its reference: parts. -/
/- Drafts of graphs; what laws take. -/
/- Parts of graphs: whether they are right; membership. -/
/- slices.Concat; disjoint unions. -/
/- Unions of parts; the law ComplementLeast. -/
/- Unions, intersections, images and boundaries of parts, plain. -/
/- Unions, intersections, images and preimages of parts: the walks. -/
/- The reference's Join and Meet; Preimage and Image. -/
/- Parts: deletion of numbers, intersections, images and preimages: the walks. -/
import Derived.Test.YtbpjoianghehmaaSpPa
import Derived.Test.YtbpjoianghehmaaSpPb
import Derived.Test.YtbpjoianghehmaaSpPc
namespace Go.Am
open Go
set_option linter.unusedVariables false
set_option linter.unusedSimpArgs false
/- r05.Copied -/
def c_r05_Copied_r0 (F : String → Nat) : List LI := [⟨some 1, .bx (.t 0), none⟩,
  ⟨some 2, .alloc [.nl 1, .nl 3], none⟩]
def c_r05_Copied_r1 (F : String → Nat) : List LI := [⟨some 3, .buildSl 1 8 (.int .i64 (0)) 0 [], none⟩,
  ⟨some 4, .fad 0 (.t 1), none⟩,
  ⟨some 5, .load false 1 (.t 4), none⟩,
  ⟨some 6, .app 1 8 (.t 3) (.t 5), none⟩,
  ⟨some 7, .buildSl 3 24 (.agg [.int .i64 (0), .int .i64 (0), .int .i64 (0)]) 0 [], none⟩,
  ⟨some 8, .fad 1 (.t 1), none⟩,
  ⟨some 9, .load false 1 (.t 8), none⟩,
  ⟨some 10, .app 3 24 (.t 7) (.t 9), none⟩,
  ⟨some 11, .build [.nl 1, .nl 3] [(0, 1, .t 6), (1, 1, .t 10)], none⟩,
  ⟨none, .store 2 (.t 2) (.t 11), none⟩]
def c_r05_Copied (F : String → Nat) : LC := (.seq (.reg (c_r05_Copied_r0 F) [1, 2]) (.seq (.dreg [(2, (some 2), [], false), (3, none, [], true), (6, (some 32), [3], false)] (c_r05_Copied_r1 F) [2]) .ret))
def h_r05_Copied : Hints := ⟨[], fun _ => [], tab [(0, [1, 2]), (1, [2])], tab []⟩

attribute [go_sem] c_r05_Copied_r0 c_r05_Copied_r1 c_r05_Copied
section
variable (P : Program) (F : String → Nat)
def K_r05_Copied : Prop := ∀ g : G, g.n.length ≤ 1000000 → g.e.length ≤ 1000000 → FC P (F "r05.Copied") [gD g] (gA g) []
end
section
variable {P : Program} {F : String → Nat} {α : Type}
theorem w_r05_Copied (g : G) (h0 : g.n.length ≤ 1000000) (h1 : g.e.length ≤ 1000000) : W P (c_r05_Copied F) (Done [.c 2 true 2] [] (gA g) []) (init [gD g]) := by
  refine W_of ?_
  obtain ⟨ns, es⟩ := g
  simp only at h0 h1
  simp (config := { maxSteps := 1000000 }) (disch := first | omega | (simp only [go_sem]; omega)) only [go_sem, ↓reduceIte, gD, gA]
end
end Go.Am
namespace Go.Am
open Go
set_option linter.unusedVariables false
set_option linter.unusedSimpArgs false
section
variable (P : Program) (F : String → Nat)
end
def shI : Sh := .int .i64
def shIs : Sh := .slc 1 8 shI
def shE : Sh := .cat [shI, shI, shI]
def shG : Sh := .cat [shIs, .slc 3 24 shE]
theorem rd_int {x : D} (h : HasEl shI x) : ∃ n : Int, x = .int .i64 n ∧ IntKind.i64.min ≤ n ∧ n ≤ IntKind.i64.max := by
  simpa only [shI, HasEl] using h
theorem rd_intl : ∀ {xs : List D}, (∀ y ∈ xs, HasEl shI y) → ∃ l : List Int, xs = ints l
  | [], _ => ⟨[], rfl⟩
  | x :: xs, h => by
    obtain ⟨l, rfl⟩ := rd_intl (xs := xs) fun y hy => h y (by simp [hy])
    obtain ⟨n, rfl, _⟩ := rd_int (h x (by simp))
    exact ⟨n :: l, rfl⟩
theorem rd_ints {x : D} (h : HasEl shIs x) : ∃ l : List Int, x = .lst 1 (ints l) ∧ l.length ≤ 20000000000000 := by
  simp only [shIs, HasEl] at h
  obtain ⟨xs, rfl, h1, h2⟩ := h
  obtain ⟨l, rfl⟩ := rd_intl h2
  refine ⟨l, rfl, ?_⟩
  rw [ints_length] at h1
  unfold reachBytes at h1
  omega
theorem rd_edge {x : D} (h : HasEl shE x) : ∃ e : E, x = edD e := by
  simp only [shE, HasEl] at h
  obtain ⟨ds, rfl, h⟩ := h
  simp only [shI, HasShs, HasEl] at h
  obtain ⟨_, _, rfl, ⟨a, rfl, _⟩, _, _, rfl, ⟨b, rfl, _⟩, _, _, rfl, ⟨c, rfl, _⟩, rfl⟩ := h
  exact ⟨⟨a, b, c⟩, rfl⟩
theorem rd_edl : ∀ {xs : List D}, (∀ y ∈ xs, HasEl shE y) → ∃ l : List E, xs = eds l
  | [], _ => ⟨[], rfl⟩
  | x :: xs, h => by
    obtain ⟨l, rfl⟩ := rd_edl (xs := xs) fun y hy => h y (by simp [hy])
    obtain ⟨n, rfl⟩ := rd_edge (h x (by simp))
    exact ⟨n :: l, rfl⟩
theorem rd_graph {x : D} (h : HasEl shG x) : ∃ g : G, x = gD g := by
  simp only [shG, HasEl] at h
  obtain ⟨ds, rfl, h⟩ := h
  have h' : ∃ a b, ds = a :: b ∧ HasEl shIs a ∧ HasShs [.slc 3 24 shE] b := by simpa only [shIs, HasShs] using h
  obtain ⟨a, _, rfl, h1, h'⟩ := h'
  obtain ⟨l, rfl, _⟩ := rd_ints h1
  simp only [HasShs, HasEl] at h'
  obtain ⟨_, _, rfl, ⟨xs, rfl, _, h3⟩, rfl⟩ := h'
  obtain ⟨es, rfl⟩ := rd_edl h3
  exact ⟨⟨l, es⟩, rfl⟩
theorem hasShs_slc {z b : Nat} {e : Sh} {l : List Sh} {ds : List D} (h : HasShs (.slc z b e :: l) ds) : ∃ a b', ds = a :: b' ∧ HasEl (.slc z b e) a ∧ HasShs l b' := by simpa only [HasShs] using h
theorem hasShs_nil {ds : List D} (h : HasShs [] ds) : ds = [] := by simpa only [HasShs] using h
def moL (m : Mo) : List D := [.lst 1 (ints m.n), .lst 1 (ints m.e)]
def shM : Sh := .cat [shIs, shIs]
theorem rd_ml {ds : List D} (h : HasShs [shIs, shIs] ds) : ∃ m : Mo, ds = moL m ∧ m.sm := by
  obtain ⟨_, _, rfl, h1, h⟩ := hasShs_slc h
  obtain ⟨_, _, rfl, h2, h⟩ := hasShs_slc h
  obtain rfl := hasShs_nil h
  obtain ⟨n, rfl, l1⟩ := rd_ints h1
  obtain ⟨e, rfl, l2⟩ := rd_ints h2
  exact ⟨⟨n, e⟩, rfl, by simp only [maxL]; omega, by simp only [maxL]; omega⟩
theorem rd_morph {x : D} (h : HasEl shM x) : ∃ m : Mo, x = mD m ∧ m.sm := by
  simp only [shM, HasEl] at h
  obtain ⟨ds, rfl, h⟩ := h
  obtain ⟨m, rfl, h2⟩ := rd_ml h
  exact ⟨m, rfl, h2⟩
section
variable {P : Program} {F : String → Nat} {α : Type}
end
end Go.Am
namespace Go.Am
open Go
set_option linter.unusedVariables false
set_option linter.unusedSimpArgs false
attribute [local irreducible] W
/- r07.has -/
def c_r07_has_r0 (F : String → Nat) : List LI := [⟨some 4, .mov (.k (.bool false)), none⟩]
def c_r07_has_r1 (F : String → Nat) : List LI := [⟨some 5, .mov (.k (.int .i64 (0))), none⟩]
def c_r07_has_r2 (F : String → Nat) : List LI := [⟨some 6, .mov (.t 5), none⟩,
  ⟨some 7, .mov (.t 0), none⟩,
  ⟨some 8, .len (.t 7), none⟩,
  ⟨some 9, .bin .lss (.t 6) (.t 8), none⟩]
def c_r07_has_r3 (F : String → Nat) : List LI := [⟨some 12, .mov (.t 0), none⟩,
  ⟨some 13, .mov (.t 5), none⟩,
  ⟨some 14, .iad 1 (.t 12) (.t 13), none⟩,
  ⟨some 15, .load false 1 (.t 14), none⟩,
  ⟨some 16, .mov (.t 1), none⟩,
  ⟨some 17, .bin .eql (.t 15) (.t 16), none⟩]
def c_r07_has_r4 (F : String → Nat) : List LI := [⟨some 4, .mov (.k (.bool true)), none⟩]
def c_r07_has_r5 (F : String → Nat) : List LI := [⟨some 10, .mov (.t 5), none⟩,
  ⟨some 11, .bin .add (.t 10) (.k (.int .i64 (1))), none⟩,
  ⟨some 5, .mov (.t 11), none⟩]
def c_r07_has_b6 (F : String → Nat) : LC := (.seq (.seq (.reg (c_r07_has_r2 F) [0, 1, 5, 9]) (.cond (.t 9) .skip (.exit 0))) (.seq (.block 1 (.seq (.reg (c_r07_has_r3 F) [0, 1, 5, 17]) (.cond (.t 17) (.seq (.reg (c_r07_has_r4 F) [4]) .ret) .skip))) (.reg (c_r07_has_r5 F) [0, 1, 5])))
def c_r07_has_r7 (F : String → Nat) : List LI := [⟨some 4, .mov (.k (.bool false)), none⟩]
def c_r07_has (F : String → Nat) : LC := (.seq (.reg (c_r07_has_r0 F) [0, 1]) (.seq (.seq (.reg (c_r07_has_r1 F) [0, 1, 5]) (.block 0 (.loop [0, 1, 5] (c_r07_has_b6 F)))) (.seq (.reg (c_r07_has_r7 F) [4]) .ret)))
def h_r07_has : Hints := ⟨[], fun _ => [], tab [(0, [0, 1]), (1, [0, 1, 5]), (2, [0, 1, 5, 9]), (3, [0, 1, 5]), (4, [0, 1, 5, 17]), (5, [4]), (6, [4])], tab [(2, [0, 1, 5])]⟩

/- r07.ascending -/
def c_r07_ascending_r0 (F : String → Nat) : List LI := [⟨some 4, .mov (.k (.int .i64 (0))), none⟩]
def c_r07_ascending_r1 (F : String → Nat) : List LI := [⟨some 5, .mov (.k (.int .i64 (0))), none⟩]
def c_r07_ascending_r2 (F : String → Nat) : List LI := [⟨some 6, .mov (.t 5), none⟩,
  ⟨some 7, .mov (.t 0), none⟩,
  ⟨some 8, .len (.t 7), none⟩,
  ⟨some 9, .bin .lss (.t 6) (.t 8), none⟩]
def c_r07_ascending_r3 (F : String → Nat) : List LI := [⟨some 12, .mov (.t 0), none⟩,
  ⟨some 13, .mov (.t 5), none⟩,
  ⟨some 14, .iad 1 (.t 12) (.t 13), none⟩,
  ⟨some 15, .load false 1 (.t 14), none⟩,
  ⟨some 16, .bin .lss (.t 15) (.k (.int .i64 (0))), none⟩,
  ⟨some 17, .mov (.t 16), none⟩,
  ⟨some 18, .mov (.t 0), some (17, false)⟩,
  ⟨some 19, .mov (.t 5), some (17, false)⟩,
  ⟨some 20, .iad 1 (.t 18) (.t 19), some (17, false)⟩,
  ⟨some 21, .load false 1 (.t 20), some (17, false)⟩,
  ⟨some 22, .mov (.t 1), some (17, false)⟩,
  ⟨some 23, .bin .geq (.t 21) (.t 22), some (17, false)⟩,
  ⟨some 24, .pick (.t 17) (.k (.bool true)) (.t 23), none⟩]
def c_r07_ascending_r4 (F : String → Nat) : List LI := [⟨some 4, .mov (.k (.int .i64 (6))), none⟩]
def c_r07_ascending_r5 (F : String → Nat) : List LI := [⟨some 25, .mov (.t 5), none⟩,
  ⟨some 26, .bin .gtr (.t 25) (.k (.int .i64 (0))), none⟩,
  ⟨some 27, .mov (.t 26), none⟩,
  ⟨some 28, .mov (.t 0), some (27, true)⟩,
  ⟨some 29, .mov (.t 5), some (27, true)⟩,
  ⟨some 30, .iad 1 (.t 28) (.t 29), some (27, true)⟩,
  ⟨some 31, .load false 1 (.t 30), some (27, true)⟩,
  ⟨some 32, .mov (.t 0), some (27, true)⟩,
  ⟨some 33, .mov (.t 5), some (27, true)⟩,
  ⟨some 34, .bin .sub (.t 33) (.k (.int .i64 (1))), some (27, true)⟩,
  ⟨some 35, .iad 1 (.t 32) (.t 34), some (27, true)⟩,
  ⟨some 36, .load false 1 (.t 35), some (27, true)⟩,
  ⟨some 37, .bin .leq (.t 31) (.t 36), some (27, true)⟩,
  ⟨some 38, .pick (.t 27) (.t 37) (.k (.bool false)), none⟩]
def c_r07_ascending_r6 (F : String → Nat) : List LI := [⟨some 4, .mov (.k (.int .i64 (12))), none⟩]
def c_r07_ascending_r7 (F : String → Nat) : List LI := [⟨some 10, .mov (.t 5), none⟩,
  ⟨some 11, .bin .add (.t 10) (.k (.int .i64 (1))), none⟩,
  ⟨some 5, .mov (.t 11), none⟩]
def c_r07_ascending_b8 (F : String → Nat) : LC := (.seq (.seq (.reg (c_r07_ascending_r2 F) [0, 1, 5, 9]) (.cond (.t 9) .skip (.exit 0))) (.seq (.block 1 (.seq (.seq (.reg (c_r07_ascending_r3 F) [0, 1, 5, 24]) (.cond (.t 24) (.seq (.reg (c_r07_ascending_r4 F) [4]) .ret) .skip)) (.seq (.dreg [] (c_r07_ascending_r5 F) [0, 1, 5, 38]) (.cond (.t 38) (.seq (.reg (c_r07_ascending_r6 F) [4]) .ret) .skip)))) (.reg (c_r07_ascending_r7 F) [0, 1, 5])))
def c_r07_ascending_r9 (F : String → Nat) : List LI := [⟨some 4, .mov (.k (.int .i64 (0))), none⟩]
def c_r07_ascending (F : String → Nat) : LC := (.seq (.reg (c_r07_ascending_r0 F) [0, 1]) (.seq (.seq (.reg (c_r07_ascending_r1 F) [0, 1, 5]) (.block 0 (.loop [0, 1, 5] (c_r07_ascending_b8 F)))) (.seq (.reg (c_r07_ascending_r9 F) [4]) .ret)))
def h_r07_ascending : Hints := ⟨[], fun _ => [], tab [(0, [0, 1]), (1, [0, 1, 5]), (2, [0, 1, 5, 9]), (3, [0, 1, 5]), (4, [0, 1, 5, 24]), (5, [4]), (6, [0, 1, 5, 38]), (7, [4]), (8, [4])], tab [(2, [0, 1, 5])]⟩

/- r07.Right -/
def c_r07_Right_r0 (F : String → Nat) : List LI := [⟨some 2, .bx (.t 0), none⟩,
  ⟨some 3, .bx (.t 1), none⟩,
  ⟨some 4, .mov (.k (.int .i64 (0))), none⟩]
def c_r07_Right_r1 (F : String → Nat) : List LI := [⟨some 9, .fad 0 (.t 3), none⟩,
  ⟨some 10, .load false 1 (.t 9), none⟩,
  ⟨some 11, .fad 0 (.t 2), none⟩,
  ⟨some 12, .load false 1 (.t 11), none⟩,
  ⟨some 13, .len (.t 12), none⟩,
  ⟨some 14, .call (F "r07.ascending") [.t 10, .t 13] [], none⟩,
  ⟨some 5, .mov (.t 14), none⟩]
def c_r07_Right_r2 (F : String → Nat) : List LI := [⟨some 15, .mov (.t 5), none⟩,
  ⟨some 16, .bin .neq (.t 15) (.k (.int .i64 (0))), none⟩]
def c_r07_Right_r3 (F : String → Nat) : List LI := [⟨some 17, .mov (.t 5), none⟩,
  ⟨some 4, .mov (.t 17), none⟩]
def c_r07_Right_r4 (F : String → Nat) : List LI := [⟨some 18, .fad 1 (.t 3), none⟩,
  ⟨some 19, .load false 1 (.t 18), none⟩,
  ⟨some 20, .fad 1 (.t 2), none⟩,
  ⟨some 21, .load false 1 (.t 20), none⟩,
  ⟨some 22, .len (.t 21), none⟩,
  ⟨some 23, .call (F "r07.ascending") [.t 19, .t 22] [], none⟩,
  ⟨some 6, .mov (.t 23), none⟩]
def c_r07_Right_r5 (F : String → Nat) : List LI := [⟨some 24, .mov (.t 6), none⟩,
  ⟨some 25, .bin .neq (.t 24) (.k (.int .i64 (0))), none⟩]
def c_r07_Right_r6 (F : String → Nat) : List LI := [⟨some 26, .mov (.t 6), none⟩,
  ⟨some 4, .mov (.t 26), none⟩]
def c_r07_Right_r7 (F : String → Nat) : List LI := [⟨some 7, .mov (.k (.int .i64 (0))), none⟩]
def c_r07_Right_r8 (F : String → Nat) : List LI := [⟨some 27, .mov (.t 7), none⟩,
  ⟨some 28, .fad 1 (.t 3), none⟩,
  ⟨some 29, .load false 1 (.t 28), none⟩,
  ⟨some 30, .len (.t 29), none⟩,
  ⟨some 31, .bin .lss (.t 27) (.t 30), none⟩]
def c_r07_Right_r9 (F : String → Nat) : List LI := [⟨some 34, .fad 1 (.t 2), none⟩,
  ⟨some 35, .load false 1 (.t 34), none⟩,
  ⟨some 36, .fad 1 (.t 3), none⟩,
  ⟨some 37, .load false 1 (.t 36), none⟩,
  ⟨some 38, .mov (.t 7), none⟩,
  ⟨some 39, .iad 1 (.t 37) (.t 38), none⟩,
  ⟨some 40, .load false 1 (.t 39), none⟩,
  ⟨some 41, .iad 3 (.t 35) (.t 40), none⟩,
  ⟨some 42, .load true 3 (.t 41), none⟩,
  ⟨some 8, .alloc [.int .i64 (0), .int .i64 (0), .int .i64 (0)], none⟩,
  ⟨none, .store 3 (.t 8) (.t 42), none⟩]
def c_r07_Right_r10 (F : String → Nat) : List LI := [⟨some 43, .fad 0 (.t 3), none⟩,
  ⟨some 44, .load false 1 (.t 43), none⟩,
  ⟨some 45, .fad 1 (.t 8), none⟩,
  ⟨some 46, .load false 1 (.t 45), none⟩,
  ⟨some 47, .call (F "r07.has") [.t 44, .t 46] [], none⟩,
  ⟨some 48, .not (.t 47), none⟩,
  ⟨some 49, .mov (.t 48), none⟩,
  ⟨some 50, .fad 0 (.t 3), some (49, false)⟩,
  ⟨some 51, .load false 1 (.t 50), some (49, false)⟩,
  ⟨some 52, .fad 2 (.t 8), some (49, false)⟩,
  ⟨some 53, .load false 1 (.t 52), some (49, false)⟩,
  ⟨some 54, .call (F "r07.has") [.t 51, .t 53] [], some (49, false)⟩,
  ⟨some 55, .not (.t 54), some (49, false)⟩,
  ⟨some 56, .pick (.t 49) (.k (.bool true)) (.t 55), none⟩]
def c_r07_Right_r11 (F : String → Nat) : List LI := [⟨some 4, .mov (.k (.int .i64 (14))), none⟩]
def c_r07_Right_r12 (F : String → Nat) : List LI := [⟨some 32, .mov (.t 7), none⟩,
  ⟨some 33, .bin .add (.t 32) (.k (.int .i64 (1))), none⟩,
  ⟨some 7, .mov (.t 33), none⟩]
def c_r07_Right_b13 (F : String → Nat) : LC := (.seq (.seq (.reg (c_r07_Right_r8 F) [2, 3, 7, 31]) (.cond (.t 31) .skip (.exit 0))) (.seq (.block 1 (.seq (.dreg [] (c_r07_Right_r9 F) [2, 3, 7, 8]) (.seq (.reg (c_r07_Right_r10 F) [2, 3, 7, 56]) (.cond (.t 56) (.seq (.reg (c_r07_Right_r11 F) [4]) .ret) .skip)))) (.reg (c_r07_Right_r12 F) [2, 3, 7])))
def c_r07_Right_r14 (F : String → Nat) : List LI := [⟨some 4, .mov (.k (.int .i64 (0))), none⟩]
def c_r07_Right (F : String → Nat) : LC := (.seq (.reg (c_r07_Right_r0 F) [2, 3]) (.seq (.seq (.reg (c_r07_Right_r1 F) [2, 3, 5]) (.seq (.reg (c_r07_Right_r2 F) [2, 3, 5, 16]) (.cond (.t 16) (.seq (.reg (c_r07_Right_r3 F) [4]) .ret) .skip))) (.seq (.seq (.reg (c_r07_Right_r4 F) [2, 3, 6]) (.seq (.reg (c_r07_Right_r5 F) [2, 3, 6, 25]) (.cond (.t 25) (.seq (.reg (c_r07_Right_r6 F) [4]) .ret) .skip))) (.seq (.seq (.reg (c_r07_Right_r7 F) [2, 3, 7]) (.block 0 (.loop [2, 3, 7] (c_r07_Right_b13 F)))) (.seq (.reg (c_r07_Right_r14 F) [4]) .ret)))))
def h_r07_Right : Hints := ⟨[], fun _ => [], tab [(0, [2, 3]), (1, [2, 3, 5]), (2, [2, 3, 5, 16]), (3, [4]), (4, [2, 3, 6]), (5, [2, 3, 6, 25]), (6, [4]), (7, [2, 3, 7]), (8, [2, 3, 7, 31]), (9, [2, 3, 7]), (10, [2, 3, 7, 8]), (11, [2, 3, 7, 56]), (12, [4]), (13, [4])], tab [(8, [2, 3, 7])]⟩

/- r07.Valid -/
def c_r07_Valid_r0 (F : String → Nat) : List LI := [⟨some 2, .bx (.t 0), none⟩,
  ⟨some 3, .bx (.t 1), none⟩,
  ⟨some 4, .mov (.k (.int .i64 (0))), none⟩]
def c_r07_Valid_r1 (F : String → Nat) : List LI := [⟨some 6, .load true 2 (.t 2), none⟩,
  ⟨some 7, .call (F "r05.Valid") [.t 6] [], none⟩,
  ⟨some 5, .mov (.t 7), none⟩]
def c_r07_Valid_r2 (F : String → Nat) : List LI := [⟨some 8, .mov (.t 5), none⟩,
  ⟨some 9, .bin .neq (.t 8) (.k (.int .i64 (0))), none⟩]
def c_r07_Valid_r3 (F : String → Nat) : List LI := [⟨some 10, .mov (.t 5), none⟩,
  ⟨some 4, .mov (.t 10), none⟩]
def c_r07_Valid_r4 (F : String → Nat) : List LI := [⟨some 11, .load true 2 (.t 2), none⟩,
  ⟨some 12, .load true 2 (.t 3), none⟩,
  ⟨some 13, .call (F "r07.Right") [.t 11, .t 12] [], none⟩,
  ⟨some 4, .mov (.t 13), none⟩]
def c_r07_Valid (F : String → Nat) : LC := (.seq (.reg (c_r07_Valid_r0 F) [2, 3]) (.seq (.seq (.reg (c_r07_Valid_r1 F) [2, 3, 5]) (.seq (.reg (c_r07_Valid_r2 F) [2, 3, 5, 9]) (.cond (.t 9) (.seq (.reg (c_r07_Valid_r3 F) [4]) .ret) .skip))) (.seq (.reg (c_r07_Valid_r4 F) [4]) .ret)))
def h_r07_Valid : Hints := ⟨[], fun _ => [], tab [(0, [2, 3]), (1, [2, 3, 5]), (2, [2, 3, 5, 9]), (3, [4]), (4, [4])], tab []⟩

/- r07.Few -/
def c_r07_Few_r0 (F : String → Nat) : List LI := [⟨some 2, .bx (.t 0), none⟩,
  ⟨some 4, .mov (.k (.bool false)), none⟩]
def c_r07_Few_r1 (F : String → Nat) : List LI := [⟨some 5, .fad 0 (.t 2), none⟩,
  ⟨some 6, .load false 1 (.t 5), none⟩,
  ⟨some 7, .len (.t 6), none⟩,
  ⟨some 8, .fad 1 (.t 2), none⟩,
  ⟨some 9, .load false 1 (.t 8), none⟩,
  ⟨some 10, .len (.t 9), none⟩,
  ⟨some 11, .bin .add (.t 7) (.t 10), none⟩,
  ⟨some 12, .mov (.t 1), none⟩,
  ⟨some 13, .bin .leq (.t 11) (.t 12), none⟩,
  ⟨some 4, .mov (.t 13), none⟩]
def c_r07_Few (F : String → Nat) : LC := (.seq (.reg (c_r07_Few_r0 F) [1, 2]) (.seq (.reg (c_r07_Few_r1 F) [4]) .ret))
def h_r07_Few : Hints := ⟨[], fun _ => [], tab [(0, [1, 2]), (1, [4])], tab []⟩

attribute [go_sem] c_r07_has_r0 c_r07_has_r1 c_r07_has_r2 c_r07_has_r3 c_r07_has_r4 c_r07_has_r5 c_r07_has_r7 c_r07_has c_r07_ascending_r0 c_r07_ascending_r1 c_r07_ascending_r2 c_r07_ascending_r3 c_r07_ascending_r4 c_r07_ascending_r5 c_r07_ascending_r6 c_r07_ascending_r7 c_r07_ascending_r9 c_r07_ascending c_r07_Right_r0 c_r07_Right_r1 c_r07_Right_r2 c_r07_Right_r3 c_r07_Right_r4 c_r07_Right_r5 c_r07_Right_r6 c_r07_Right_r7 c_r07_Right_r8 c_r07_Right_r9 c_r07_Right_r10 c_r07_Right_r11 c_r07_Right_r12 c_r07_Right_r14 c_r07_Right c_r07_Valid_r0 c_r07_Valid_r1 c_r07_Valid_r2 c_r07_Valid_r3 c_r07_Valid_r4 c_r07_Valid c_r07_Few_r0 c_r07_Few_r1 c_r07_Few
section
variable (P : Program) (F : String → Nat)
def K_r07_has : Prop := ∀ (l : List Int) (n : Int), l.length ≤ maxL → FC P (F "r07.has") [.lst 1 (ints l), .int .i64 n] (.bool (decide (n ∈ l))) []
def K_r07_ascending : Prop := ∀ (l : List Int) (n : Int), l.length ≤ maxL → 0 ≤ n → n ≤ 1000000 → FC P (F "r07.ascending") [.lst 1 (ints l), .int .i64 n] (.int .i64 (ascG n none l)) []
def K_r07_Right : Prop := ∀ (g : G) (p : Mo), validG g = 0 → p.n.length ≤ maxL → p.e.length ≤ maxL → FC P (F "r07.Right") [gD g, mD p] (.int .i64 (rightP g p)) []
def K_r07_Valid : Prop := ∀ (g : G) (p : Mo), p.n.length ≤ maxL → p.e.length ≤ maxL → FC P (F "r07.Valid") [gD g, mD p] (.int .i64 (validP g p)) []
def K_r07_Few : Prop := ∀ (m : Mo) (n : Int), m.n.length ≤ maxL → m.e.length ≤ maxL → FC P (F "r07.Few") [mD m, .int .i64 n] (.bool (fewM m n)) []
end
section
variable {P : Program} {F : String → Nat} {α : Type}
theorem mem_take {l : List Int} {n : Int} {i : Nat} (h : i < l.length) : n ∈ l.take (i + 1) ↔ n ∈ l.take i ∨ gt l i = n := by
  rw [take_gt h]; simp [eq_comm]
theorem w_r07_has (l : List Int) (n : Int) (hl : l.length ≤ maxL) : W P (c_r07_has F) (Done [.t 4] [] (.bool (decide (n ∈ l))) []) (init [.lst 1 (ints l), .int .i64 n]) := by
  refine W_of ?_
  unfold maxL at hl
  simp (config := { maxSteps := 1000000 }) (disch := first | omega | (simp only [go_sem]; omega)) only [go_sem, ↓reduceIte]
  refine W_loop (fun i : Nat => ⟨[(0, .lst 1 (ints l)), (1, .int .i64 n), (5, .int .i64 i)], [], 0⟩) (fun i => i ≤ l.length ∧ n ∉ l.take i) (fun i => l.length - i) 0 ?_ ?_ ?_
  · simp (config := { maxSteps := 1000000 }) (disch := first | omega | (simp only [go_sem]; omega)) only [go_sem, ↓reduceIte]
    rfl
  · simp
  · rintro i ⟨hi, hn⟩
    simp (config := { maxSteps := 1000000 }) (disch := first | omega | (simp only [go_sem]; omega)) only [go_sem, ↓reduceIte, c_r07_has_b6]
    refine bran_dec (fun c => ?_) (fun c => ?_)
    · have hm := mem_take (n := n) (l := l) (i := i) (by omega)
      simp (config := { maxSteps := 1000000 }) (disch := first | omega | (simp only [go_sem]; omega)) only [go_sem, ↓reduceIte]
      refine bran_dec (fun d => ?_) (fun d => ?_)
      · have : n ∈ l := by rw [← d]; exact gt_mem (by omega) (by omega)
        simp (config := { maxSteps := 1000000 }) (disch := first | omega | (simp only [go_sem]; omega)) only [go_sem, ↓reduceIte]
        simp [this]
      · simp (config := { maxSteps := 1000000 }) (disch := first | omega | (simp only [go_sem]; omega)) only [go_sem, ↓reduceIte]
        exact ⟨i + 1, by simp, ⟨by omega, fun h => by rcases hm.1 h with h | h; exact hn h; exact d h⟩, by omega⟩
    · obtain rfl : i = l.length := by omega
      rw [List.take_length] at hn
      simp (config := { maxSteps := 1000000 }) (disch := first | omega | (simp only [go_sem]; omega)) only [go_sem, ↓reduceIte]
      simp [hn]
theorem w_r07_ascending (l : List Int) (n : Int) (hl : l.length ≤ maxL) (h0 : 0 ≤ n) (h1 : n ≤ 1000000) : W P (c_r07_ascending F) (Done [.t 4] [] (.int .i64 (ascG n none l)) []) (init [.lst 1 (ints l), .int .i64 n]) := by
  refine W_of ?_
  unfold maxL at hl
  simp (config := { maxSteps := 1000000 }) (disch := first | omega | (simp only [go_sem]; omega)) only [go_sem, ↓reduceIte]
  refine W_loop (fun i : Nat => ⟨[(0, .lst 1 (ints l)), (1, .int .i64 n), (5, .int .i64 i)], [], 0⟩) (fun i => i ≤ l.length ∧ ascG n none l = ascG n (prevO l i) (l.drop i)) (fun i => l.length - i) 0 ?_ ?_ ?_
  · simp (config := { maxSteps := 1000000 }) (disch := first | omega | (simp only [go_sem]; omega)) only [go_sem, ↓reduceIte]
    rfl
  · simp [prevO]
  · intro i hi
    simp (config := { maxSteps := 1000000 }) (disch := first | omega | (simp only [go_sem]; omega)) only [go_sem, ↓reduceIte, c_r07_ascending_b8]
    refine bran_dec (fun a => ?_) (fun a => ?_)
    · have hs := asc_step n l i (by omega)
      simp (config := { maxSteps := 1000000 }) (disch := first | omega | (simp only [go_sem]; omega)) only [go_sem, ↓reduceIte]
      refine bran_dec (fun b => ?_) (fun b => ?_)
      · simp (config := { maxSteps := 1000000 }) (disch := first | omega | (simp only [go_sem]; omega)) only [go_sem, ↓reduceIte, b]
        rw [hi.2, hs, if_neg (by omega)]
      · simp (config := { maxSteps := 1000000 }) (disch := first | omega | (simp only [go_sem]; omega)) only [go_sem, ↓reduceIte, b]
        refine bran_dec (fun b2 => ?_) (fun b2 => ?_)
        · simp (config := { maxSteps := 1000000 }) (disch := first | omega | (simp only [go_sem]; omega)) only [go_sem, ↓reduceIte]
          rw [hi.2, hs, if_neg (by omega)]
        · rw [if_pos (by omega)] at hs
          simp (config := { maxSteps := 1000000 }) (disch := first | omega | (simp only [go_sem]; omega)) only [go_sem, ↓reduceIte]
          refine bran_dec (fun c => ?_) (fun c => ?_)
          · simp (config := { maxSteps := 1000000 }) (disch := first | omega | (simp only [go_sem]; omega)) only [go_sem, ↓reduceIte, c]
            refine bran_dec (fun d => ?_) (fun d => ?_)
            · simp (config := { maxSteps := 1000000 }) (disch := first | omega | (simp only [go_sem]; omega)) only [go_sem, ↓reduceIte]
              rw [hi.2, hs, if_pos ⟨by omega, d⟩]
            · simp (config := { maxSteps := 1000000 }) (disch := first | omega | (simp only [go_sem]; omega)) only [go_sem, ↓reduceIte]
              exact ⟨i + 1, by simp, ⟨by omega, by rw [hi.2, hs, if_neg (fun e => d e.2)]⟩, by omega⟩
          · simp (config := { maxSteps := 1000000 }) (disch := first | omega | (simp only [go_sem]; omega)) only [go_sem, ↓reduceIte, c]
            exact ⟨i + 1, by simp, ⟨by omega, by rw [hi.2, hs, if_neg (fun e => by omega)]⟩, by omega⟩
    · simp (config := { maxSteps := 1000000 }) (disch := first | omega | (simp only [go_sem]; omega)) only [go_sem, ↓reduceIte]
      rw [hi.2, List.drop_of_length_le (by omega)]
      rfl
theorem w_r07_Right (hl : K_r07_ascending P F) (hh : K_r07_has P F) (g : G) (p : Mo) (hv : validG g = 0) (h1 : p.n.length ≤ maxL) (h2 : p.e.length ≤ maxL) : W P (c_r07_Right F) (Done [.t 4] [] (.int .i64 (rightP g p)) []) (init [gD g, mD p]) := by
  refine W_of ?_
  have vs := valid_spec hv
  have r1 := hl p.n g.n.length h1 (by omega) (by omega)
  have r2 := hl p.e g.e.length h2 (by omega) (by omega)
  have hR : rightP g p = if ascG g.n.length none p.n ≠ 0 then ascG g.n.length none p.n else if ascG g.e.length none p.e ≠ 0 then ascG g.e.length none p.e else if dangP g p = true then 14 else 0 := rfl
  rw [hR]
  by_cases c1 : ascG g.n.length none p.n = 0
  case neg =>
    rw [if_pos c1]
    generalize ascG g.n.length none p.n = v at *
    simp only [gD, mD] at *
    simp (config := { maxSteps := 1000000 }) (disch := first | omega | (simp only [go_sem]; omega)) only [go_sem, ↓reduceIte]
    refine call_by r1 ?_
    simp (config := { maxSteps := 1000000 }) (disch := first | omega | (simp only [go_sem]; omega)) only [go_sem, ↓reduceIte, c1]
  rw [if_neg (by simp [c1])]
  by_cases c2 : ascG g.e.length none p.e = 0
  case neg =>
    rw [if_pos c2]
    rw [c1] at r1
    generalize ascG g.e.length none p.e = v at *
    simp only [gD, mD] at *
    simp (config := { maxSteps := 1000000 }) (disch := first | omega | (simp only [go_sem]; omega)) only [go_sem, ↓reduceIte]
    refine call_by r1 ?_
    simp (config := { maxSteps := 1000000 }) (disch := first | omega | (simp only [go_sem]; omega)) only [go_sem, ↓reduceIte]
    refine call_by r2 ?_
    simp (config := { maxSteps := 1000000 }) (disch := first | omega | (simp only [go_sem]; omega)) only [go_sem, ↓reduceIte, c2]
  rw [if_neg (by simp [c2])]
  have a1 := ascG_iff.1 c1
  have a2 := ascG_iff.1 c2
  have q1 := asc_len a1
  have q2 := asc_len a2
  rw [c1] at r1
  rw [c2] at r2
  have hD : dangP g p = p.e.any fun x => !(decide ((gt g.e x).f ∈ p.n) && decide ((gt g.e x).o ∈ p.n)) := rfl
  have hx := fun x => hh p.n x (by unfold maxL; omega)
  clear hR c1 c2
  obtain ⟨gn, ge⟩ := g
  obtain ⟨pn, pe⟩ := p
  simp only [gD, mD] at *
  simp (config := { maxSteps := 1000000 }) (disch := first | omega | (simp only [go_sem]; omega)) only [go_sem, ↓reduceIte]
  refine call_by r1 ?_
  simp (config := { maxSteps := 1000000 }) (disch := first | omega | (simp only [go_sem]; omega)) only [go_sem, ↓reduceIte]
  refine call_by r2 ?_
  simp (config := { maxSteps := 1000000 }) (disch := first | omega | (simp only [go_sem]; omega)) only [go_sem, ↓reduceIte]
  refine W_loop (fun i : Nat => ⟨[(2, .pt 0 0), (3, .pt 1 0), (7, .int .i64 i)], [(0, .box [.lst 1 (ints gn), .lst 3 (eds ge)]), (1, .box [.lst 1 (ints pn), .lst 1 (ints pe)])], 2⟩) (fun i => i ≤ pe.length ∧ ∀ k : Nat, k < i → (gt ge (gt pe k)).f ∈ pn ∧ (gt ge (gt pe k)).o ∈ pn) (fun i => pe.length - i) 0 ?_ ?_ ?_
  · simp (config := { maxSteps := 1000000 }) (disch := first | omega | (simp only [go_sem]; omega)) only [go_sem, ↓reduceIte]
    rfl
  · exact ⟨by omega, fun k hk => by omega⟩
  · rintro i ⟨hi, hk⟩
    by_cases c : i < pe.length
    · have g1 : decide ((i : Int) < pe.length) = true := decide_eq_true (by omega)
      have hb := a2.b _ (gt_mem (l := pe) (j := i) (by omega) (by omega))
      have x1 := hx (gt ge (gt pe i)).f
      have x2 := hx (gt ge (gt pe i)).o
      by_cases d1 : (gt ge (gt pe i)).f ∈ pn
      · rw [decide_eq_true d1] at x1
        by_cases d2 : (gt ge (gt pe i)).o ∈ pn
        · rw [decide_eq_true d2] at x2
          simp (config := { maxSteps := 1000000 }) (disch := first | omega | (simp only [go_sem]; omega)) only [go_sem, ↓reduceIte, c_r07_Right_b13, g1]
          refine call_by x1 ?_
          simp (config := { maxSteps := 1000000 }) (disch := first | omega | (simp only [go_sem]; omega)) only [go_sem, ↓reduceIte]
          refine call_by x2 ?_
          simp (config := { maxSteps := 1000000 }) (disch := first | omega | (simp only [go_sem]; omega)) only [go_sem, ↓reduceIte]
          refine ⟨i + 1, by simp, ⟨by omega, fun k h => ?_⟩, by omega⟩
          by_cases e : k = i
          · subst e; exact ⟨d1, d2⟩
          · exact hk k (by omega)
        · rw [decide_eq_false d2] at x2
          have hdt : dangP ⟨gn, ge⟩ ⟨pn, pe⟩ = true := by
            rw [hD, List.any_eq_true]
            exact ⟨_, gt_mem (l := pe) (j := i) (by omega) (by omega), by simp [d2]⟩
          rw [hdt]
          simp (config := { maxSteps := 1000000 }) (disch := first | omega | (simp only [go_sem]; omega)) only [go_sem, ↓reduceIte, c_r07_Right_b13, g1]
          refine call_by x1 ?_
          simp (config := { maxSteps := 1000000 }) (disch := first | omega | (simp only [go_sem]; omega)) only [go_sem, ↓reduceIte]
          refine call_by x2 ?_
          simp (config := { maxSteps := 1000000 }) (disch := first | omega | (simp only [go_sem]; omega)) only [go_sem, ↓reduceIte]
          try rfl
      · rw [decide_eq_false d1] at x1
        have hdt : dangP ⟨gn, ge⟩ ⟨pn, pe⟩ = true := by
          rw [hD, List.any_eq_true]
          exact ⟨_, gt_mem (l := pe) (j := i) (by omega) (by omega), by simp [d1]⟩
        rw [hdt]
        simp (config := { maxSteps := 1000000 }) (disch := first | omega | (simp only [go_sem]; omega)) only [go_sem, ↓reduceIte, c_r07_Right_b13, g1]
        refine call_by x1 ?_
        simp (config := { maxSteps := 1000000 }) (disch := first | omega | (simp only [go_sem]; omega)) only [go_sem, ↓reduceIte]
        try rfl
    · have g1 : decide ((i : Int) < pe.length) = false := decide_eq_false (by omega)
      obtain rfl : i = pe.length := by omega
      have hdt : dangP ⟨gn, ge⟩ ⟨pn, pe⟩ = false := by
        rw [hD, List.any_eq_false]
        intro x hx
        obtain ⟨k, k1, k2⟩ := mem_gt hx
        have := hk k k1
        rw [k2] at this
        simp [this]
      rw [hdt]
      simp (config := { maxSteps := 1000000 }) (disch := first | omega | (simp only [go_sem]; omega)) only [go_sem, ↓reduceIte, c_r07_Right_b13, g1]
      try rfl
theorem w_r07_Valid (hv : K_r05_Valid P F) (hp : K_r07_Right P F) (g : G) (p : Mo) (h1 : p.n.length ≤ maxL) (h2 : p.e.length ≤ maxL) : W P (c_r07_Valid F) (Done [.t 4] [] (.int .i64 (validP g p)) []) (init [gD g, mD p]) := by
  refine W_of ?_
  have r1 := hv g
  have hR : validP g p = if validG g ≠ 0 then validG g else rightP g p := rfl
  rw [hR]
  by_cases c : validG g = 0
  · have r2 := hp g p c h1 h2
    rw [if_neg (by simp [c])]
    rw [c] at r1
    generalize rightP g p = v at *
    simp only [gD, mD] at *
    simp (config := { maxSteps := 1000000 }) (disch := first | omega | (simp only [go_sem]; omega)) only [go_sem, ↓reduceIte]
    refine call_by r1 ?_
    simp (config := { maxSteps := 1000000 }) (disch := first | omega | (simp only [go_sem]; omega)) only [go_sem, ↓reduceIte]
    refine call_by r2 ?_
    simp (config := { maxSteps := 1000000 }) (disch := first | omega | (simp only [go_sem]; omega)) only [go_sem, ↓reduceIte]
  · rw [if_pos c]
    generalize validG g = v at *
    simp only [gD, mD] at *
    simp (config := { maxSteps := 1000000 }) (disch := first | omega | (simp only [go_sem]; omega)) only [go_sem, ↓reduceIte]
    refine call_by r1 ?_
    simp (config := { maxSteps := 1000000 }) (disch := first | omega | (simp only [go_sem]; omega)) only [go_sem, ↓reduceIte, c]
theorem w_r07_Few (m : Mo) (n : Int) (h1 : m.n.length ≤ maxL) (h2 : m.e.length ≤ maxL) : W P (c_r07_Few F) (Done [.t 4] [] (.bool (fewM m n)) []) (init [mD m, .int .i64 n]) := by
  refine W_of ?_
  obtain ⟨mn, me⟩ := m
  simp only [maxL] at h1 h2
  simp (config := { maxSteps := 1000000 }) (disch := first | omega | (simp only [go_sem]; omega)) only [go_sem, ↓reduceIte, mD, fewM]
end
end Go.Am
namespace Go.Am
open Go
set_option linter.unusedVariables false
set_option linter.unusedSimpArgs false
/- slices.Grow.I -/
def c_slices_Grow_I_r0 (F : String → Nat) : List LI := [⟨some 4, .mov (.k (.nl 1)), none⟩]
def c_slices_Grow_I_r1 (F : String → Nat) : List LI := [⟨some 5, .mov (.t 1), none⟩,
  ⟨some 6, .bin .lss (.t 5) (.k (.int .i64 (0))), none⟩]
def c_slices_Grow_I_r2 (F : String → Nat) : List LI := [⟨some 7, .bad, none⟩,
  ⟨none, .bad, none⟩]
def c_slices_Grow_I_r3 (F : String → Nat) : List LI := [⟨some 8, .mov (.t 1), none⟩,
  ⟨some 9, .mov (.t 0), none⟩,
  ⟨some 10, .cap (.t 9), none⟩,
  ⟨some 11, .mov (.t 0), none⟩,
  ⟨some 12, .len (.t 11), none⟩,
  ⟨some 13, .bin .sub (.t 10) (.t 12), none⟩,
  ⟨some 14, .bin .sub (.t 8) (.t 13), none⟩,
  ⟨some 1, .mov (.t 14), none⟩]
def c_slices_Grow_I_r4 (F : String → Nat) : List LI := [⟨some 15, .mov (.t 1), none⟩,
  ⟨some 16, .bin .gtr (.t 15) (.k (.int .i64 (0))), none⟩]
def c_slices_Grow_I_r5 (F : String → Nat) : List LI := [⟨some 17, .mov (.t 0), none⟩,
  ⟨some 18, .mov (.t 0), none⟩,
  ⟨some 19, .cap (.t 18), none⟩,
  ⟨some 20, .slc 1 (.t 17) none (some (.t 19)), none⟩,
  ⟨some 21, .mov (.t 1), none⟩,
  ⟨some 22, .appz 1 8 (.int .i64 (0)) (.t 20) (.t 21), none⟩,
  ⟨some 23, .mov (.t 0), none⟩,
  ⟨some 24, .len (.t 23), none⟩,
  ⟨some 25, .slc 1 (.t 22) none (some (.t 24)), none⟩,
  ⟨some 0, .mov (.t 25), none⟩]
def c_slices_Grow_I_r6 (F : String → Nat) : List LI := [⟨some 26, .mov (.t 0), none⟩,
  ⟨some 4, .mov (.t 26), none⟩]
def c_slices_Grow_I (F : String → Nat) : LC := (.seq (.reg (c_slices_Grow_I_r0 F) [0, 1]) (.seq (.seq (.reg (c_slices_Grow_I_r1 F) [0, 1, 6]) (.cond (.t 6) (.reg (c_slices_Grow_I_r2 F) [0, 1]) .skip)) (.seq (.seq (.reg (c_slices_Grow_I_r3 F) [0, 1]) (.seq (.reg (c_slices_Grow_I_r4 F) [0, 1, 16]) (.cond (.t 16) (.reg (c_slices_Grow_I_r5 F) [0]) .skip))) (.seq (.reg (c_slices_Grow_I_r6 F) [4]) .ret))))
def h_slices_Grow_I : Hints := ⟨[], fun _ => [], tab [(0, [0, 1]), (1, [0, 1, 6]), (2, [0, 1]), (3, [0, 1]), (4, [0, 1, 16]), (5, [0]), (6, [4])], tab []⟩

/- slices.Concat.I -/
def c_slices_Concat_I_r0 (F : String → Nat) : List LI := [⟨some 2, .mov (.k (.nl 1)), none⟩]
def c_slices_Concat_I_r1 (F : String → Nat) : List LI := [⟨some 3, .mov (.k (.int .i64 (0))), none⟩]
def c_slices_Concat_I_r2 (F : String → Nat) : List LI := [⟨some 9, .mov (.t 0), none⟩,
  ⟨some 10, .len (.t 9), none⟩,
  ⟨some 11, .mov (.k (.int .i64 (0))), none⟩]
def c_slices_Concat_I_r3 (F : String → Nat) : List LI := [⟨some 12, .bin .lss (.t 11) (.t 10), none⟩]
def c_slices_Concat_I_r4 (F : String → Nat) : List LI := [⟨some 13, .iad 1 (.t 9) (.t 11), none⟩,
  ⟨some 14, .load false 1 (.t 13), none⟩,
  ⟨some 5, .mov (.t 14), none⟩]
def c_slices_Concat_I_r5 (F : String → Nat) : List LI := [⟨some 15, .mov (.t 3), none⟩,
  ⟨some 16, .mov (.t 5), none⟩,
  ⟨some 17, .len (.t 16), none⟩,
  ⟨some 18, .bin .add (.t 15) (.t 17), none⟩,
  ⟨some 3, .mov (.t 18), none⟩]
def c_slices_Concat_I_r6 (F : String → Nat) : List LI := [⟨some 19, .mov (.t 3), none⟩,
  ⟨some 20, .bin .lss (.t 19) (.k (.int .i64 (0))), none⟩]
def c_slices_Concat_I_r7 (F : String → Nat) : List LI := [⟨some 21, .bad, none⟩,
  ⟨none, .bad, none⟩]
def c_slices_Concat_I_r8 (F : String → Nat) : List LI := [⟨some 22, .bin .add (.t 11) (.k (.int .i64 (1))), none⟩,
  ⟨some 11, .mov (.t 22), none⟩]
def c_slices_Concat_I_b9 (F : String → Nat) : LC := (.seq (.reg (c_slices_Concat_I_r3 F) [0, 3, 9, 10, 11, 12]) (.seq (.cond (.t 12) .skip (.exit 0)) (.seq (.block 1 (.seq (.reg (c_slices_Concat_I_r4 F) [0, 3, 5, 9, 10, 11]) (.seq (.reg (c_slices_Concat_I_r5 F) [0, 3, 9, 10, 11]) (.seq (.reg (c_slices_Concat_I_r6 F) [0, 3, 9, 10, 11, 20]) (.cond (.t 20) (.reg (c_slices_Concat_I_r7 F) [0, 3, 9, 10, 11]) .skip))))) (.reg (c_slices_Concat_I_r8 F) [0, 3, 9, 10, 11]))))
def c_slices_Concat_I_r10 (F : String → Nat) : List LI := [⟨some 23, .mov (.t 3), none⟩,
  ⟨some 24, .call (F "slices.Grow.I") [.k (.nl 0), .t 23] [], none⟩,
  ⟨some 6, .mov (.t 24), none⟩]
def c_slices_Concat_I_r11 (F : String → Nat) : List LI := [⟨some 25, .mov (.t 0), none⟩,
  ⟨some 26, .len (.t 25), none⟩,
  ⟨some 27, .mov (.k (.int .i64 (0))), none⟩]
def c_slices_Concat_I_r12 (F : String → Nat) : List LI := [⟨some 28, .bin .lss (.t 27) (.t 26), none⟩]
def c_slices_Concat_I_r13 (F : String → Nat) : List LI := [⟨some 29, .iad 1 (.t 25) (.t 27), none⟩,
  ⟨some 30, .load false 1 (.t 29), none⟩,
  ⟨some 8, .mov (.t 30), none⟩]
def c_slices_Concat_I_r14 (F : String → Nat) : List LI := [⟨some 31, .mov (.t 6), none⟩,
  ⟨some 32, .mov (.t 8), none⟩,
  ⟨some 33, .app 1 8 (.t 31) (.t 32), none⟩,
  ⟨some 6, .mov (.t 33), none⟩]
def c_slices_Concat_I_r15 (F : String → Nat) : List LI := [⟨some 34, .bin .add (.t 27) (.k (.int .i64 (1))), none⟩,
  ⟨some 27, .mov (.t 34), none⟩]
def c_slices_Concat_I_b16 (F : String → Nat) : LC := (.seq (.reg (c_slices_Concat_I_r12 F) [6, 25, 26, 27, 28]) (.seq (.cond (.t 28) .skip (.exit 2)) (.seq (.block 3 (.seq (.reg (c_slices_Concat_I_r13 F) [6, 8, 25, 26, 27]) (.reg (c_slices_Concat_I_r14 F) [6, 25, 26, 27]))) (.reg (c_slices_Concat_I_r15 F) [6, 25, 26, 27]))))
def c_slices_Concat_I_r17 (F : String → Nat) : List LI := [⟨some 35, .mov (.t 6), none⟩,
  ⟨some 2, .mov (.t 35), none⟩]
def c_slices_Concat_I (F : String → Nat) : LC := (.seq (.reg (c_slices_Concat_I_r0 F) [0]) (.seq (.reg (c_slices_Concat_I_r1 F) [0, 3]) (.seq (.seq (.reg (c_slices_Concat_I_r2 F) [0, 3, 9, 10, 11]) (.block 0 (.loop [0, 3, 9, 10, 11] (c_slices_Concat_I_b9 F)))) (.seq (.reg (c_slices_Concat_I_r10 F) [0, 6]) (.seq (.seq (.reg (c_slices_Concat_I_r11 F) [6, 25, 26, 27]) (.block 2 (.loop [6, 25, 26, 27] (c_slices_Concat_I_b16 F)))) (.seq (.reg (c_slices_Concat_I_r17 F) [2]) .ret))))))
def h_slices_Concat_I : Hints := ⟨[], fun _ => [], tab [(0, [0]), (1, [0, 3]), (2, [0, 3, 9, 10, 11]), (3, [0, 3, 9, 10, 11, 12]), (4, [0, 3, 5, 9, 10, 11]), (5, [0, 3, 9, 10, 11]), (6, [0, 3, 9, 10, 11, 20]), (7, [0, 3, 9, 10, 11]), (8, [0, 3, 9, 10, 11]), (9, [0, 6]), (10, [6, 25, 26, 27]), (11, [6, 25, 26, 27, 28]), (12, [6, 8, 25, 26, 27]), (13, [6, 25, 26, 27]), (14, [6, 25, 26, 27]), (15, [2])], tab [(3, [0, 3, 9, 10, 11]), (11, [6, 25, 26, 27])]⟩

attribute [go_sem] c_slices_Grow_I_r0 c_slices_Grow_I_r1 c_slices_Grow_I_r2 c_slices_Grow_I_r3 c_slices_Grow_I_r4 c_slices_Grow_I_r5 c_slices_Grow_I_r6 c_slices_Grow_I c_slices_Concat_I_r0 c_slices_Concat_I_r1 c_slices_Concat_I_r2 c_slices_Concat_I_r3 c_slices_Concat_I_r4 c_slices_Concat_I_r5 c_slices_Concat_I_r6 c_slices_Concat_I_r7 c_slices_Concat_I_r8 c_slices_Concat_I_r10 c_slices_Concat_I_r11 c_slices_Concat_I_r12 c_slices_Concat_I_r13 c_slices_Concat_I_r14 c_slices_Concat_I_r15 c_slices_Concat_I_r17 c_slices_Concat_I
section
variable (P : Program) (F : String → Nat)
def K_slices_Grow_I : Prop := ∀ n : Nat, n ≤ 10000000000000 → FC P (F "slices.Grow.I") [.nl 1, .int .i64 n] (.arr 1 []) []
def K_slices_Concat_I : Prop := ∀ a b : List Int, a.length ≤ 1000000000000 → b.length ≤ 1000000000000 → FC P (F "slices.Concat.I") [.lst 1 [.lst 1 (ints a), .lst 1 (ints b)]] (.arr 1 (ints (a ++ b))) []
end
section
variable {P : Program} {F : String → Nat} {α : Type}
def catL (a b : List Int) : Nat → List Int
  | 0 => []
  | 1 => a
  | _ => a ++ b
theorem w_slices_Grow_I (n : Nat) (hn : n ≤ 10000000000000) : W P (c_slices_Grow_I F) (Done [.t 4] [] (.arr 1 []) []) (init [.nl 1, .int .i64 n]) := by
  refine W_of ?_
  simp (config := { maxSteps := 1000000 }) (disch := first | omega | (simp only [go_sem]; omega)) only [go_sem, ↓reduceIte]
  refine bran_dec (fun c => ?_) (fun c => ?_)
  · omega
  · simp (config := { maxSteps := 1000000 }) (disch := first | omega | (simp only [go_sem]; omega)) only [go_sem, ↓reduceIte]
    refine bran_dec (fun c => ?_) (fun c => ?_)
    · simp (config := { maxSteps := 1000000 }) (disch := first | omega | (simp only [go_sem]; omega)) only [go_sem, ↓reduceIte]
      rw [if_neg (by omega)]
      rfl
    · simp (config := { maxSteps := 1000000 }) (disch := first | omega | (simp only [go_sem]; omega)) only [go_sem, ↓reduceIte]
theorem w_slices_Concat_I (hg : K_slices_Grow_I P F) (a b : List Int) (ha : a.length ≤ 1000000000000) (hb : b.length ≤ 1000000000000) : W P (c_slices_Concat_I F) (Done [.t 2] [] (.arr 1 (ints (a ++ b))) []) (init [.lst 1 [.lst 1 (ints a), .lst 1 (ints b)]]) := by
  refine W_of ?_
  simp (config := { maxSteps := 1000000 }) (disch := first | omega | (simp only [go_sem]; omega)) only [go_sem, ↓reduceIte]
  refine W_loop (fun i : Nat => ⟨[(0, D.lst 1 [D.lst 1 (ints a), D.lst 1 (ints b)]), (3, D.int IntKind.i64 (catL a b i).length), (9, D.lst 1 [D.lst 1 (ints a), D.lst 1 (ints b)]), (10, D.int IntKind.i64 (2 : Nat)), (11, D.int IntKind.i64 i)], [], 0⟩) (fun i => i ≤ 2) (fun i => 2 - i) 0 ?_ ?_ ?_
  · simp (config := { maxSteps := 1000000 }) (disch := first | omega | (simp only [go_sem]; omega)) only [go_sem, ↓reduceIte]
    rfl
  · omega
  · intro i hi
    have h3 : i = 0 ∨ i = 1 ∨ i = 2 := by omega
    rcases h3 with rfl | rfl | rfl
    · simp (config := { maxSteps := 1000000 }) (disch := first | omega | (simp only [go_sem]; omega)) only [go_sem, ↓reduceIte, c_slices_Concat_I_b9, catL]
      refine bran_dec (fun c => ?_) (fun c => absurd c (by omega))
      simp (config := { maxSteps := 1000000 }) (disch := first | omega | (simp only [go_sem]; omega)) only [go_sem, ↓reduceIte, catL]
      refine bran_dec (fun c => by omega) (fun c => ?_)
      simp (config := { maxSteps := 1000000 }) (disch := first | omega | (simp only [go_sem]; omega)) only [go_sem, ↓reduceIte]
      exact ⟨1, by simp [catL], by omega, by omega⟩
    · simp (config := { maxSteps := 1000000 }) (disch := first | omega | (simp only [go_sem]; omega)) only [go_sem, ↓reduceIte, c_slices_Concat_I_b9, catL]
      refine bran_dec (fun c => ?_) (fun c => absurd c (by omega))
      simp (config := { maxSteps := 1000000 }) (disch := first | omega | (simp only [go_sem]; omega)) only [go_sem, ↓reduceIte, catL]
      refine bran_dec (fun c => by omega) (fun c => ?_)
      simp (config := { maxSteps := 1000000 }) (disch := first | omega | (simp only [go_sem]; omega)) only [go_sem, ↓reduceIte]
      exact ⟨2, by simp [catL], by omega, by omega⟩
    · simp (config := { maxSteps := 1000000 }) (disch := first | omega | (simp only [go_sem]; omega)) only [go_sem, ↓reduceIte, c_slices_Concat_I_b9]
      refine bran_dec (fun c => absurd c (by omega)) (fun c => ?_)
      simp (config := { maxSteps := 1000000 }) (disch := first | omega | (simp only [go_sem]; omega)) only [go_sem, ↓reduceIte]
      have r := FC.nl (b := 0) (hg (catL a b 2).length (by simp [catL]; omega))
      refine call_by r ?_
      simp (config := { maxSteps := 1000000 }) (disch := first | omega | (simp only [go_sem]; omega)) only [go_sem, ↓reduceIte]
      refine W_loop (fun i : Nat => ⟨[(6, D.sl 0 0 (catL a b i).length), (25, D.lst 1 [D.lst 1 (ints a), D.lst 1 (ints b)]), (26, D.int IntKind.i64 (2 : Nat)), (27, D.int IntKind.i64 i)], [(0, Ent.arr 1 (ints (catL a b i)))], 1⟩) (fun i => i ≤ 2) (fun i => 2 - i) 0 ?_ ?_ ?_
      · simp (config := { maxSteps := 1000000 }) (disch := first | omega | (simp only [go_sem]; omega)) only [go_sem, ↓reduceIte]
        rfl
      · omega
      · intro i hi
        have h3 : i = 0 ∨ i = 1 ∨ i = 2 := by omega
        rcases h3 with rfl | rfl | rfl
        · simp (config := { maxSteps := 1000000 }) (disch := first | omega | (simp only [go_sem]; omega)) only [go_sem, ↓reduceIte, c_slices_Concat_I_b16, catL]
          refine bran_dec (fun c => ?_) (fun c => absurd c (by omega))
          simp (config := { maxSteps := 1000000 }) (disch := first | omega | (simp only [go_sem]; omega)) only [go_sem, ↓reduceIte, catL]
          exact ⟨1, by simp, by omega, by omega⟩
        · simp (config := { maxSteps := 1000000 }) (disch := first | omega | (simp only [go_sem]; omega)) only [go_sem, ↓reduceIte, c_slices_Concat_I_b16, catL]
          refine bran_dec (fun c => ?_) (fun c => absurd c (by omega))
          simp (config := { maxSteps := 1000000 }) (disch := first | omega | (simp only [go_sem]; omega)) only [go_sem, ↓reduceIte, catL]
          exact ⟨2, by simp, by omega, by omega⟩
        · simp (config := { maxSteps := 1000000 }) (disch := first | omega | (simp only [go_sem]; omega)) only [go_sem, ↓reduceIte, c_slices_Concat_I_b16, catL]
          refine bran_dec (fun c => absurd c (by omega)) (fun c => ?_)
          simp (config := { maxSteps := 1000000 }) (disch := first | omega | (simp only [go_sem]; omega)) only [go_sem, ↓reduceIte, catL]
end
end Go.Am
namespace Go.Am
open Go
set_option linter.unusedVariables false
set_option linter.unusedSimpArgs false
attribute [local irreducible] W
/- subgraph.both -/
def c_subgraph_both_r0 (F : String → Nat) : List LI := [⟨some 3, .bx (.t 0), none⟩,
  ⟨some 4, .bx (.t 1), none⟩,
  ⟨some 5, .bx (.t 2), none⟩,
  ⟨some 6, .mov (.k (.int .i64 (0))), none⟩]
def c_subgraph_both_r1 (F : String → Nat) : List LI := [⟨some 8, .load true 2 (.t 3), none⟩,
  ⟨some 9, .load true 2 (.t 4), none⟩,
  ⟨some 10, .call (F "subgraph.Valid") [.t 8, .t 9] [], none⟩,
  ⟨some 7, .mov (.t 10), none⟩]
def c_subgraph_both_r2 (F : String → Nat) : List LI := [⟨some 11, .mov (.t 7), none⟩,
  ⟨some 12, .bin .neq (.t 11) (.k (.int .i64 (0))), none⟩]
def c_subgraph_both_r3 (F : String → Nat) : List LI := [⟨some 13, .mov (.t 7), none⟩,
  ⟨some 6, .mov (.t 13), none⟩]
def c_subgraph_both_r4 (F : String → Nat) : List LI := [⟨some 14, .load true 2 (.t 3), none⟩,
  ⟨some 15, .load true 2 (.t 5), none⟩,
  ⟨some 16, .call (F "subgraph.part") [.t 14, .t 15] [], none⟩,
  ⟨some 6, .mov (.t 16), none⟩]
def c_subgraph_both (F : String → Nat) : LC := (.seq (.reg (c_subgraph_both_r0 F) [3, 4, 5]) (.seq (.seq (.reg (c_subgraph_both_r1 F) [3, 5, 7]) (.seq (.reg (c_subgraph_both_r2 F) [3, 5, 7, 12]) (.cond (.t 12) (.seq (.reg (c_subgraph_both_r3 F) [6]) .ret) .skip))) (.seq (.reg (c_subgraph_both_r4 F) [6]) .ret)))
def h_subgraph_both : Hints := ⟨[], fun _ => [], tab [(0, [3, 4, 5]), (1, [3, 5, 7]), (2, [3, 5, 7, 12]), (3, [6]), (4, [6])], tab []⟩

/- subgraph.Join -/
def c_subgraph_Join_r0 (F : String → Nat) : List LI := [⟨some 3, .bx (.t 0), none⟩,
  ⟨some 4, .bx (.t 1), none⟩,
  ⟨some 5, .bx (.t 2), none⟩,
  ⟨some 6, .alloc [.nl 1, .nl 1], none⟩,
  ⟨some 7, .mov (.k (.int .i64 (0))), none⟩]
def c_subgraph_Join_r1 (F : String → Nat) : List LI := [⟨some 9, .load true 2 (.t 3), none⟩,
  ⟨some 10, .load true 2 (.t 4), none⟩,
  ⟨some 11, .load true 2 (.t 5), none⟩,
  ⟨some 12, .call (F "subgraph.both") [.t 9, .t 10, .t 11] [], none⟩,
  ⟨some 8, .mov (.t 12), none⟩]
def c_subgraph_Join_r2 (F : String → Nat) : List LI := [⟨some 13, .mov (.t 8), none⟩,
  ⟨some 14, .bin .neq (.t 13) (.k (.int .i64 (0))), none⟩]
def c_subgraph_Join_r3 (F : String → Nat) : List LI := [⟨some 15, .build [.nl 1, .nl 1] [], none⟩,
  ⟨some 16, .mov (.t 8), none⟩,
  ⟨none, .store 2 (.t 6) (.t 15), none⟩,
  ⟨some 7, .mov (.t 16), none⟩]
def c_subgraph_Join_r4 (F : String → Nat) : List LI := [⟨some 17, .fad 0 (.t 4), none⟩,
  ⟨some 18, .load false 1 (.t 17), none⟩,
  ⟨some 19, .fad 0 (.t 5), none⟩,
  ⟨some 20, .load false 1 (.t 19), none⟩,
  ⟨some 21, .buildSl 1 24 (.lst 1 []) 2 [(0, .t 18), (1, .t 20)], none⟩,
  ⟨some 22, .call (F "slices.Concat.I") [.t 21] [], none⟩,
  ⟨some 23, .call (F "subgraph.sorted") [.t 22] [.ow], none⟩,
  ⟨some 24, .fad 1 (.t 4), none⟩,
  ⟨some 25, .load false 1 (.t 24), none⟩,
  ⟨some 26, .fad 1 (.t 5), none⟩,
  ⟨some 27, .load false 1 (.t 26), none⟩,
  ⟨some 28, .buildSl 1 24 (.lst 1 []) 2 [(0, .t 25), (1, .t 27)], none⟩,
  ⟨some 29, .call (F "slices.Concat.I") [.t 28] [], none⟩,
  ⟨some 30, .call (F "subgraph.sorted") [.t 29] [.ow], none⟩,
  ⟨some 31, .build [.nl 1, .nl 1] [(0, 1, .t 23), (1, 1, .t 30)], none⟩,
  ⟨none, .store 2 (.t 6) (.t 31), none⟩,
  ⟨some 7, .mov (.k (.int .i64 (0))), none⟩]
def c_subgraph_Join (F : String → Nat) : LC := (.seq (.reg (c_subgraph_Join_r0 F) [3, 4, 5, 6]) (.seq (.seq (.reg (c_subgraph_Join_r1 F) [4, 5, 6, 8]) (.seq (.reg (c_subgraph_Join_r2 F) [4, 5, 6, 8, 14]) (.cond (.t 14) (.seq (.reg (c_subgraph_Join_r3 F) [6, 7]) .ret) .skip))) (.seq (.dreg [(1, none, [], true), (3, none, [], true), (4, none, [], true), (5, none, [], true), (6, none, [], true), (8, (some 128), [4, 5, 6], false), (10, (some 512), [4, 5, 6], false), (11, (some 1920), [1, 3, 4, 5, 6], false)] (c_subgraph_Join_r4 F) [6, 7]) .ret)))
def h_subgraph_Join : Hints := ⟨[], fun _ => [], tab [(0, [3, 4, 5, 6]), (1, [4, 5, 6, 8]), (2, [4, 5, 6, 8, 14]), (3, [6, 7]), (4, [6, 7])], tab []⟩

attribute [go_sem] c_subgraph_both_r0 c_subgraph_both_r1 c_subgraph_both_r2 c_subgraph_both_r3 c_subgraph_both_r4 c_subgraph_both c_subgraph_Join_r0 c_subgraph_Join_r1 c_subgraph_Join_r2 c_subgraph_Join_r3 c_subgraph_Join_r4 c_subgraph_Join
def joinE (g : G) (p q : Mo) : Int := if validP g p ≠ 0 then validP g p else rightP g q
def joinP (p q : Mo) : Mo := ⟨imgs (p.n ++ q.n), imgs (p.e ++ q.e)⟩
def joinR (g : G) (p q : Mo) : Mo × Int := if joinE g p q ≠ 0 then (m0, joinE g p q) else (joinP p q, 0)
section
variable (P : Program) (F : String → Nat)
def K_subgraph_both : Prop := ∀ (g : G) (p q : Mo), p.sm → q.sm → FC P (F "subgraph.both") [gD g, mD p, mD q] (.int .i64 (joinE g p q)) []
def K_subgraph_Join : Prop := ∀ (g : G) (p q : Mo), p.sm → q.sm → FC P (F "subgraph.Join") [gD g, mD p, mD q] (.tup [mA (joinR g p q).1, .int .i64 (joinR g p q).2]) []
end
section
variable {P : Program} {F : String → Nat} {α : Type}
theorem w_subgraph_both (hv : K_subgraph_Valid P F) (hp : K_subgraph_part P F) (g : G) (p q : Mo) (h1 : p.sm) (h2 : q.sm) : W P (c_subgraph_both F) (Done [.t 6] [] (.int .i64 (joinE g p q)) []) (init [gD g, mD p, mD q]) := by
  refine W_of ?_
  have r1 := hv g p h1.1 h1.2
  have r2 := fun h => hp g q h h2.1 h2.2
  have hv0 := @validP_ok g p
  unfold joinE
  generalize validP g p = v at *
  generalize rightP g q = u at *
  simp only [gD, mD] at *
  simp (config := { maxSteps := 1000000 }) (disch := first | omega | (simp only [go_sem]; omega)) only [go_sem, ↓reduceIte]
  refine call_by r1 ?_
  simp (config := { maxSteps := 1000000 }) (disch := first | omega | (simp only [go_sem]; omega)) only [go_sem, ↓reduceIte]
  refine bran_ndec (fun c => ?_) (fun c => ?_)
  · simp (config := { maxSteps := 1000000 }) (disch := first | omega | (simp only [go_sem]; omega)) only [go_sem, ↓reduceIte]
    try rw [if_pos c]
  · have r2 := r2 (hv0.1 c).v
    simp (config := { maxSteps := 1000000 }) (disch := first | omega | (simp only [go_sem]; omega)) only [go_sem, ↓reduceIte]
    refine call_by r2 ?_
    simp (config := { maxSteps := 1000000 }) (disch := first | omega | (simp only [go_sem]; omega)) only [go_sem, ↓reduceIte]
    rw [if_neg (by simp [c])]
theorem w_subgraph_Join (hb : K_subgraph_both P F) (hc : K_slices_Concat_I P F) (hs : K_subgraph_sorted P F) (g : G) (p q : Mo) (h1 : p.sm) (h2 : q.sm) : W P (c_subgraph_Join F) (Done [.c 6 true 2, .t 7] [] (.tup [mA (joinR g p q).1, .int .i64 (joinR g p q).2]) []) (init [gD g, mD p, mD q]) := by
  refine W_of ?_
  have r1 := hb g p q h1 h2
  have hR : joinR g p q = if joinE g p q ≠ 0 then (m0, joinE g p q) else (⟨imgs (p.n ++ q.n), imgs (p.e ++ q.e)⟩, 0) := rfl
  have h0 : joinE g p q = 0 → (p.n.length ≤ 1000 ∧ p.e.length ≤ 1000) ∧ q.n.length ≤ 1000 ∧ q.e.length ≤ 1000 := fun h => by
    unfold joinE at h
    split at h
    · rename_i c; exact absurd h c
    · rename_i c
      have k1 := validP_ok.1 (Decidable.not_not.1 c)
      have k2 : PK g q := validP_ok.1 (by unfold validP; rw [if_neg (by simp [k1.v]), h])
      have := k1.len
      have := k2.len
      omega
  generalize joinE g p q = v at *
  rw [hR]
  clear hR
  obtain ⟨pn, pe⟩ := p
  obtain ⟨qn, qe⟩ := q
  simp only [gD, mD, mA, m0, joinP] at *
  simp (config := { maxSteps := 1000000 }) (disch := first | omega | (simp only [go_sem]; omega)) only [go_sem, ↓reduceIte]
  refine call_by r1 ?_
  simp (config := { maxSteps := 1000000 }) (disch := first | omega | (simp only [go_sem]; omega)) only [go_sem, ↓reduceIte]
  refine bran_ndec (fun c => ?_) (fun c => ?_)
  · simp (config := { maxSteps := 1000000 }) (disch := first | omega | (simp only [go_sem]; omega)) only [go_sem, ↓reduceIte]
    simp [c, mA, m0, ints]
  · obtain ⟨⟨l1, l2⟩, l3, l4⟩ := h0 c
    have r2 := hc pn qn (by omega) (by omega)
    have r3 := hs (pn ++ qn) (by rw [List.length_append]; unfold maxL; omega)
    have r4 := hc pe qe (by omega) (by omega)
    have r5 := hs (pe ++ qe) (by rw [List.length_append]; unfold maxL; omega)
    rw [if_neg (by simp [c])]
    generalize imgs (pn ++ qn) = y1 at *
    generalize imgs (pe ++ qe) = y2 at *
    have e1 : (pn ++ qn).length = pn.length + qn.length := List.length_append
    have e2 : (pe ++ qe).length = pe.length + qe.length := List.length_append
    generalize pn ++ qn = z1 at *
    generalize pe ++ qe = z2 at *
    simp (config := { maxSteps := 1000000 }) (disch := first | omega | (simp only [go_sem]; omega)) only [go_sem, ↓reduceIte]
    refine call_by r2 ?_
    simp (config := { maxSteps := 1000000 }) (disch := first | omega | (simp only [go_sem]; omega)) only [go_sem, ↓reduceIte]
    refine call_by r3 ?_
    simp (config := { maxSteps := 1000000 }) (disch := first | omega | (simp only [go_sem]; omega)) only [go_sem, ↓reduceIte]
    refine call_by r4 ?_
    simp (config := { maxSteps := 1000000 }) (disch := first | omega | (simp only [go_sem]; omega)) only [go_sem, ↓reduceIte]
    refine call_by r5 ?_
    simp (config := { maxSteps := 1000000 }) (disch := first | omega | (simp only [go_sem]; omega)) only [go_sem, ↓reduceIte]
    rfl
theorem joinP_ok {g : G} {p q : Mo} (h1 : PK g p) (h2 : PK g q) : PK g (joinP p q) := by
  refine ⟨h1.v, ⟨imgs_lt _, fun x hx => ?_⟩, ⟨imgs_lt _, fun x hx => ?_⟩, fun x hx => ?_⟩
  · rcases List.mem_append.1 (imgs_mem.1 hx) with h | h
    · exact h1.n.b x h
    · exact h2.n.b x h
  · rcases List.mem_append.1 (imgs_mem.1 hx) with h | h
    · exact h1.e.b x h
    · exact h2.e.b x h
  · rcases List.mem_append.1 (imgs_mem.1 hx) with h | h
    · have := h1.d x h
      exact ⟨imgs_mem.2 (List.mem_append.2 (.inl this.1)), imgs_mem.2 (List.mem_append.2 (.inl this.2))⟩
    · have := h2.d x h
      exact ⟨imgs_mem.2 (List.mem_append.2 (.inr this.1)), imgs_mem.2 (List.mem_append.2 (.inr this.2))⟩
end
end Go.Am
namespace Go.Am
open Go
set_option linter.unusedVariables false
set_option linter.unusedSimpArgs false
def meetP (p q : Mo) : Mo := ⟨comL p.n q.n, comL p.e q.e⟩
def meetR (g : G) (p q : Mo) : Mo × Int := if joinE g p q ≠ 0 then (m0, joinE g p q) else (meetP p q, 0)
section
theorem com_mrg {a b : List Int} {n : Nat} (ha : AscL a n) : comL a b = mrgL n a b true :=
  asc_ext (com_asc ha.p) mrg_asc fun x => by
    rw [com_mem, mrg_mem]
    simp only [if_true]
    exact ⟨fun h => ⟨ha.b x h.1, h⟩, fun h => h.2⟩
theorem imgs_mrg {a b : List Int} {n : Nat} (ha : ∀ x ∈ a, 0 ≤ x ∧ x < n) (hb : ∀ x ∈ b, 0 ≤ x ∧ x < n) : imgs (a ++ b) = mrgL n a b false :=
  asc_ext (imgs_lt _) mrg_asc fun x => by
    rw [imgs_mem, List.mem_append, mrg_mem]
    simp only [Bool.false_eq_true, if_false]
    exact ⟨fun h => ⟨h.elim (ha x) (hb x), h⟩, fun h => h.2⟩
/-- Meet and Join absorb one another. -/
theorem meet_join {g : G} {p q : Mo} (hp : PK g p) (hq : PK g q) : meetP p (joinP p q) = p :=
  mo_extP (asc_ext (com_asc hp.n.p) hp.n.p fun x => by rw [meetP, com_mem]; exact ⟨fun h => h.1, fun h => ⟨h, imgs_mem.2 (List.mem_append.2 (.inl h))⟩⟩)
    (asc_ext (com_asc hp.e.p) hp.e.p fun x => by rw [meetP, com_mem]; exact ⟨fun h => h.1, fun h => ⟨h, imgs_mem.2 (List.mem_append.2 (.inl h))⟩⟩)
theorem join_meet {g : G} {p q : Mo} (hp : PK g p) (hq : PK g q) : joinP p (meetP p q) = p :=
  mo_extP (asc_ext (imgs_lt _) hp.n.p fun x => by
      rw [joinP, imgs_mem, List.mem_append]
      exact ⟨fun h => h.elim id fun h => (com_mem.1 h).1, .inl⟩)
    (asc_ext (imgs_lt _) hp.e.p fun x => by
      rw [joinP, imgs_mem, List.mem_append]
      exact ⟨fun h => h.elim id fun h => (com_mem.1 h).1, .inl⟩)
theorem meetP_ok {g : G} {p q : Mo} (hp : PK g p) (hq : PK g q) : PK g (meetP p q) :=
  ⟨hp.v, ⟨com_asc hp.n.p, fun x hx => hp.n.b x (com_mem.1 hx).1⟩, ⟨com_asc hp.e.p, fun x hx => hp.e.b x (com_mem.1 hx).1⟩, fun x hx => by
    have h1 := hp.d x (com_mem.1 hx).1
    have h2 := hq.d x (com_mem.1 hx).2
    exact ⟨com_mem.2 ⟨h1.1, h2.1⟩, com_mem.2 ⟨h1.2, h2.2⟩⟩⟩
end
end Go.Am
namespace Go.Am
open Go
set_option linter.unusedVariables false
set_option linter.unusedSimpArgs false
attribute [local irreducible] W
/- r07.merged -/
def c_r07_merged_r0 (F : String → Nat) : List LI := [⟨some 8, .mov (.k (.nl 1)), none⟩]
def c_r07_merged_r1 (F : String → Nat) : List LI := [⟨some 9, .mov (.k (.nl 1)), none⟩]
def c_r07_merged_r2 (F : String → Nat) : List LI := [⟨some 10, .mov (.k (.int .i64 (0))), none⟩]
def c_r07_merged_r3 (F : String → Nat) : List LI := [⟨some 13, .mov (.t 10), none⟩,
  ⟨some 14, .mov (.t 0), none⟩,
  ⟨some 15, .bin .lss (.t 13) (.t 14), none⟩]
def c_r07_merged_r4 (F : String → Nat) : List LI := [⟨some 18, .mov (.t 1), none⟩,
  ⟨some 19, .mov (.t 10), none⟩,
  ⟨some 20, .call (F "r07.has") [.t 18, .t 19] [], none⟩,
  ⟨some 21, .mov (.t 2), none⟩,
  ⟨some 22, .mov (.t 10), none⟩,
  ⟨some 23, .call (F "r07.has") [.t 21, .t 22] [], none⟩,
  ⟨some 11, .mov (.t 20), none⟩,
  ⟨some 12, .mov (.t 23), none⟩]
def c_r07_merged_r5 (F : String → Nat) : List LI := [⟨some 24, .mov (.t 11), none⟩,
  ⟨some 25, .mov (.t 24), none⟩,
  ⟨some 26, .mov (.t 12), some (25, true)⟩,
  ⟨some 27, .pick (.t 25) (.t 26) (.k (.bool false)), none⟩,
  ⟨some 28, .mov (.t 27), none⟩,
  ⟨some 29, .mov (.t 3), some (28, false)⟩,
  ⟨some 30, .not (.t 29), some (28, false)⟩,
  ⟨some 31, .mov (.t 30), some (28, false)⟩,
  ⟨some 32, .mov (.t 11), some (31, true)⟩,
  ⟨some 33, .mov (.t 32), some (31, true)⟩,
  ⟨some 34, .mov (.t 12), some (33, false)⟩,
  ⟨some 35, .pick (.t 33) (.k (.bool true)) (.t 34), some (31, true)⟩,
  ⟨some 36, .pick (.t 31) (.t 35) (.k (.bool false)), some (28, false)⟩,
  ⟨some 37, .pick (.t 28) (.k (.bool true)) (.t 36), none⟩]
def c_r07_merged_r6 (F : String → Nat) : List LI := [⟨some 38, .mov (.t 9), none⟩,
  ⟨some 39, .mov (.t 10), none⟩,
  ⟨some 40, .buildSl 1 8 (.int .i64 (0)) 1 [(0, .t 39)], none⟩,
  ⟨some 41, .app 1 8 (.t 38) (.t 40), none⟩,
  ⟨some 9, .mov (.t 41), none⟩]
def c_r07_merged_r7 (F : String → Nat) : List LI := [⟨some 16, .mov (.t 10), none⟩,
  ⟨some 17, .bin .add (.t 16) (.k (.int .i64 (1))), none⟩,
  ⟨some 10, .mov (.t 17), none⟩]
def c_r07_merged_b8 (F : String → Nat) : LC := (.seq (.seq (.reg (c_r07_merged_r3 F) [0, 1, 2, 3, 9, 10, 15]) (.cond (.t 15) .skip (.exit 0))) (.seq (.block 1 (.seq (.reg (c_r07_merged_r4 F) [0, 1, 2, 3, 9, 10, 11, 12]) (.seq (.reg (c_r07_merged_r5 F) [0, 1, 2, 3, 9, 10, 37]) (.cond (.t 37) (.reg (c_r07_merged_r6 F) [0, 1, 2, 3, 9, 10]) .skip)))) (.reg (c_r07_merged_r7 F) [0, 1, 2, 3, 9, 10])))
def c_r07_merged_r9 (F : String → Nat) : List LI := [⟨some 42, .mov (.t 9), none⟩,
  ⟨some 8, .mov (.t 42), none⟩]
def c_r07_merged (F : String → Nat) : LC := (.seq (.reg (c_r07_merged_r0 F) [0, 1, 2, 3]) (.seq (.reg (c_r07_merged_r1 F) [0, 1, 2, 3, 9]) (.seq (.seq (.reg (c_r07_merged_r2 F) [0, 1, 2, 3, 9, 10]) (.block 0 (.loop [0, 1, 2, 3, 9, 10] (c_r07_merged_b8 F)))) (.seq (.reg (c_r07_merged_r9 F) [8]) .ret))))
def h_r07_merged : Hints := ⟨[], fun _ => [], tab [(0, [0, 1, 2, 3]), (1, [0, 1, 2, 3, 9]), (2, [0, 1, 2, 3, 9, 10]), (3, [0, 1, 2, 3, 9, 10, 15]), (4, [0, 1, 2, 3, 9, 10]), (5, [0, 1, 2, 3, 9, 10, 11, 12]), (6, [0, 1, 2, 3, 9, 10, 37]), (7, [0, 1, 2, 3, 9, 10]), (8, [8])], tab [(3, [0, 1, 2, 3, 9, 10])]⟩

/- r07.both -/
def c_r07_both_r0 (F : String → Nat) : List LI := [⟨some 3, .bx (.t 0), none⟩,
  ⟨some 4, .bx (.t 1), none⟩,
  ⟨some 5, .bx (.t 2), none⟩,
  ⟨some 6, .mov (.k (.int .i64 (0))), none⟩]
def c_r07_both_r1 (F : String → Nat) : List LI := [⟨some 8, .load true 2 (.t 3), none⟩,
  ⟨some 9, .load true 2 (.t 4), none⟩,
  ⟨some 10, .call (F "r07.Valid") [.t 8, .t 9] [], none⟩,
  ⟨some 7, .mov (.t 10), none⟩]
def c_r07_both_r2 (F : String → Nat) : List LI := [⟨some 11, .mov (.t 7), none⟩,
  ⟨some 12, .bin .neq (.t 11) (.k (.int .i64 (0))), none⟩]
def c_r07_both_r3 (F : String → Nat) : List LI := [⟨some 13, .mov (.t 7), none⟩,
  ⟨some 6, .mov (.t 13), none⟩]
def c_r07_both_r4 (F : String → Nat) : List LI := [⟨some 14, .load true 2 (.t 3), none⟩,
  ⟨some 15, .load true 2 (.t 5), none⟩,
  ⟨some 16, .call (F "r07.Right") [.t 14, .t 15] [], none⟩,
  ⟨some 6, .mov (.t 16), none⟩]
def c_r07_both (F : String → Nat) : LC := (.seq (.reg (c_r07_both_r0 F) [3, 4, 5]) (.seq (.seq (.reg (c_r07_both_r1 F) [3, 5, 7]) (.seq (.reg (c_r07_both_r2 F) [3, 5, 7, 12]) (.cond (.t 12) (.seq (.reg (c_r07_both_r3 F) [6]) .ret) .skip))) (.seq (.reg (c_r07_both_r4 F) [6]) .ret)))
def h_r07_both : Hints := ⟨[], fun _ => [], tab [(0, [3, 4, 5]), (1, [3, 5, 7]), (2, [3, 5, 7, 12]), (3, [6]), (4, [6])], tab []⟩

attribute [go_sem] c_r07_merged_r0 c_r07_merged_r1 c_r07_merged_r2 c_r07_merged_r3 c_r07_merged_r4 c_r07_merged_r5 c_r07_merged_r6 c_r07_merged_r7 c_r07_merged_r9 c_r07_merged c_r07_both_r0 c_r07_both_r1 c_r07_both_r2 c_r07_both_r3 c_r07_both_r4 c_r07_both
def combR (g : G) (p q : Mo) (all : Bool) : Mo × Int := if joinE g p q ≠ 0 then (m0, joinE g p q) else (⟨mrgL g.n.length p.n q.n all, mrgL g.e.length p.e q.e all⟩, 0)
section
variable (P : Program) (F : String → Nat)
def K_r07_merged : Prop := ∀ (n : Nat) (a b : List Int) (all : Bool), n ≤ 1000 → a.length ≤ maxL → b.length ≤ maxL → FC P (F "r07.merged") [.int .i64 n, .lst 1 (ints a), .lst 1 (ints b), .bool all] (.arr 1 (ints (mrgL n a b all))) []
def K_r07_both : Prop := ∀ (g : G) (p q : Mo), p.sm → q.sm → FC P (F "r07.both") [gD g, mD p, mD q] (.int .i64 (joinE g p q)) []
end
section
variable {P : Program} {F : String → Nat} {α : Type}
theorem w_r07_merged (hh : K_r07_has P F) (n : Nat) (a b : List Int) (all : Bool) (hn : n ≤ 1000) (h1 : a.length ≤ maxL) (h2 : b.length ≤ maxL) : W P (c_r07_merged F) (Done [.t 8] [] (.arr 1 (ints (mrgL n a b all))) []) (init [.int .i64 n, .lst 1 (ints a), .lst 1 (ints b), .bool all]) := by
  refine W_of ?_
  have hM : mrgL n a b all = sel (fun i : Nat => (inL a i && inL b i) || (!all && (inL a i || inL b i))) n := rfl
  have ss := sel_succ (fun i : Nat => (inL a i && inL b i) || (!all && (inL a i || inL b i)))
  have s0 := sel_zero (fun i : Nat => (inL a i && inL b i) || (!all && (inL a i || inL b i)))
  have sl := sel_len (fun i : Nat => (inL a i && inL b i) || (!all && (inL a i || inL b i)))
  have ra := fun i : Nat => hh a (i : Int) h1
  have rb := fun i : Nat => hh b (i : Int) h2
  have ea : ∀ i : Nat, decide ((i : Int) ∈ a) = inL a i := fun i => rfl
  have eb : ∀ i : Nat, decide ((i : Int) ∈ b) = inL b i := fun i => rfl
  rw [hM]
  clear hM
  generalize sel (fun i : Nat => (inL a i && inL b i) || (!all && (inL a i || inL b i))) = S at *
  simp (config := { maxSteps := 1000000 }) (disch := first | omega | (simp only [go_sem]; omega)) only [go_sem, ↓reduceIte]
  refine W_loop (fun i : Nat => ⟨[(0, .int .i64 n), (1, .lst 1 (ints a)), (2, .lst 1 (ints b)), (3, .bool all), (9, .sl 0 0 (S i).length), (10, .int .i64 i)], [(0, .arr 1 (ints (S i)))], 1⟩) (fun i => i ≤ n) (fun i => n - i) 0 ?_ ?_ ?_
  · simp (config := { maxSteps := 1000000 }) (disch := first | omega | (simp only [go_sem]; omega)) only [go_sem, ↓reduceIte, s0]
    rfl
  · simp
  · intro i hi
    have hl := sl i
    by_cases c : i < n
    · have d1 : decide ((i : Int) < n) = true := decide_eq_true (by omega)
      have r1 := ra i
      have r2 := rb i
      have st := ss i
      rw [ea i] at r1
      rw [eb i] at r2
      generalize inL a i = u at *
      generalize inL b i = v at *
      simp (config := { maxSteps := 1000000 }) (disch := first | omega | (simp only [go_sem]; omega)) only [go_sem, ↓reduceIte, c_r07_merged_b8, d1]
      refine call_by r1 ?_
      simp (config := { maxSteps := 1000000 }) (disch := first | omega | (simp only [go_sem]; omega)) only [go_sem, ↓reduceIte]
      refine call_by r2 ?_
      cases all <;> cases u <;> cases v
      all_goals
        simp only [Bool.and_self, Bool.and_false, Bool.false_and, Bool.or_self, Bool.or_false, Bool.or_true, Bool.true_or, Bool.not_true, Bool.not_false, Bool.true_and, Bool.and_true, Bool.false_or, if_true, if_false, Bool.false_eq_true] at st
        simp (config := { maxSteps := 1000000 }) (disch := first | omega | (simp only [go_sem]; omega)) only [go_sem, ↓reduceIte]
        exact ⟨i + 1, by simp [st], by omega, by omega⟩
    · have d1 : decide ((i : Int) < n) = false := decide_eq_false (by omega)
      obtain rfl : i = n := by omega
      simp (config := { maxSteps := 1000000 }) (disch := first | omega | (simp only [go_sem]; omega)) only [go_sem, ↓reduceIte, c_r07_merged_b8, d1]
theorem w_r07_both (hv : K_r07_Valid P F) (hp : K_r07_Right P F) (g : G) (p q : Mo) (h1 : p.sm) (h2 : q.sm) : W P (c_r07_both F) (Done [.t 6] [] (.int .i64 (joinE g p q)) []) (init [gD g, mD p, mD q]) := by
  refine W_of ?_
  have r1 := hv g p h1.1 h1.2
  have r2 := fun h => hp g q h h2.1 h2.2
  have hv0 := @validP_ok g p
  unfold joinE
  generalize validP g p = v at *
  generalize rightP g q = u at *
  simp only [gD, mD] at *
  simp (config := { maxSteps := 1000000 }) (disch := first | omega | (simp only [go_sem]; omega)) only [go_sem, ↓reduceIte]
  refine call_by r1 ?_
  simp (config := { maxSteps := 1000000 }) (disch := first | omega | (simp only [go_sem]; omega)) only [go_sem, ↓reduceIte]
  refine bran_ndec (fun c => ?_) (fun c => ?_)
  · simp (config := { maxSteps := 1000000 }) (disch := first | omega | (simp only [go_sem]; omega)) only [go_sem, ↓reduceIte]
    try rw [if_pos c]
  · have r2 := r2 (hv0.1 c).v
    simp (config := { maxSteps := 1000000 }) (disch := first | omega | (simp only [go_sem]; omega)) only [go_sem, ↓reduceIte]
    refine call_by r2 ?_
    simp (config := { maxSteps := 1000000 }) (disch := first | omega | (simp only [go_sem]; omega)) only [go_sem, ↓reduceIte]
    rw [if_neg (by simp [c])]
end
end Go.Am
namespace Go.Am
open Go
set_option linter.unusedVariables false
set_option linter.unusedSimpArgs false
attribute [local irreducible] W
/- r07.combined -/
def c_r07_combined_r0 (F : String → Nat) : List LI := [⟨some 4, .bx (.t 0), none⟩,
  ⟨some 5, .bx (.t 1), none⟩,
  ⟨some 6, .bx (.t 2), none⟩,
  ⟨some 8, .alloc [.nl 1, .nl 1], none⟩,
  ⟨some 9, .mov (.k (.int .i64 (0))), none⟩]
def c_r07_combined_r1 (F : String → Nat) : List LI := [⟨some 11, .load true 2 (.t 4), none⟩,
  ⟨some 12, .load true 2 (.t 5), none⟩,
  ⟨some 13, .load true 2 (.t 6), none⟩,
  ⟨some 14, .call (F "r07.both") [.t 11, .t 12, .t 13] [], none⟩,
  ⟨some 10, .mov (.t 14), none⟩]
def c_r07_combined_r2 (F : String → Nat) : List LI := [⟨some 15, .mov (.t 10), none⟩,
  ⟨some 16, .bin .neq (.t 15) (.k (.int .i64 (0))), none⟩]
def c_r07_combined_r3 (F : String → Nat) : List LI := [⟨some 17, .build [.nl 1, .nl 1] [], none⟩,
  ⟨some 18, .mov (.t 10), none⟩,
  ⟨none, .store 2 (.t 8) (.t 17), none⟩,
  ⟨some 9, .mov (.t 18), none⟩]
def c_r07_combined_r4 (F : String → Nat) : List LI := [⟨some 19, .fad 0 (.t 4), none⟩,
  ⟨some 20, .load false 1 (.t 19), none⟩,
  ⟨some 21, .len (.t 20), none⟩,
  ⟨some 22, .fad 0 (.t 5), none⟩,
  ⟨some 23, .load false 1 (.t 22), none⟩,
  ⟨some 24, .fad 0 (.t 6), none⟩,
  ⟨some 25, .load false 1 (.t 24), none⟩,
  ⟨some 26, .mov (.t 3), none⟩,
  ⟨some 27, .call (F "r07.merged") [.t 21, .t 23, .t 25, .t 26] [], none⟩,
  ⟨some 28, .fad 1 (.t 4), none⟩,
  ⟨some 29, .load false 1 (.t 28), none⟩,
  ⟨some 30, .len (.t 29), none⟩,
  ⟨some 31, .fad 1 (.t 5), none⟩,
  ⟨some 32, .load false 1 (.t 31), none⟩,
  ⟨some 33, .fad 1 (.t 6), none⟩,
  ⟨some 34, .load false 1 (.t 33), none⟩,
  ⟨some 35, .mov (.t 3), none⟩,
  ⟨some 36, .call (F "r07.merged") [.t 30, .t 32, .t 34, .t 35] [], none⟩,
  ⟨some 37, .build [.nl 1, .nl 1] [(0, 1, .t 27), (1, 1, .t 36)], none⟩,
  ⟨none, .store 2 (.t 8) (.t 37), none⟩,
  ⟨some 9, .mov (.k (.int .i64 (0))), none⟩]
def c_r07_combined (F : String → Nat) : LC := (.seq (.reg (c_r07_combined_r0 F) [3, 4, 5, 6, 8]) (.seq (.seq (.reg (c_r07_combined_r1 F) [3, 4, 5, 6, 8, 10]) (.seq (.reg (c_r07_combined_r2 F) [3, 4, 5, 6, 8, 10, 16]) (.cond (.t 16) (.seq (.reg (c_r07_combined_r3 F) [8, 9]) .ret) .skip))) (.seq (.dreg [(8, none, [], true), (10, (some 512), [8], false), (13, (some 4096), [8], false), (15, (some 16384), [8], false)] (c_r07_combined_r4 F) [8, 9]) .ret)))
def h_r07_combined : Hints := ⟨[], fun _ => [], tab [(0, [3, 4, 5, 6, 8]), (1, [3, 4, 5, 6, 8, 10]), (2, [3, 4, 5, 6, 8, 10, 16]), (3, [8, 9]), (4, [8, 9])], tab []⟩

attribute [go_sem] c_r07_combined_r0 c_r07_combined_r1 c_r07_combined_r2 c_r07_combined_r3 c_r07_combined_r4 c_r07_combined
section
variable (P : Program) (F : String → Nat)
def K_r07_combined : Prop := ∀ (g : G) (p q : Mo) (all : Bool), p.sm → q.sm → FC P (F "r07.combined") [gD g, mD p, mD q, .bool all] (.tup [mA (combR g p q all).1, .int .i64 (combR g p q all).2]) []
end
section
variable {P : Program} {F : String → Nat} {α : Type}
theorem joinE_ok {g : G} {p q : Mo} : joinE g p q = 0 ↔ PK g p ∧ PK g q := by
  unfold joinE
  split
  · rename_i h; exact ⟨fun e => absurd e h, fun e => absurd (validP_ok.2 e.1) h⟩
  · rename_i h
    have hp := validP_ok.1 (Decidable.not_not.1 h)
    constructor
    · intro e; exact ⟨hp, validP_ok.1 (by unfold validP; rw [if_neg (by simp [hp.v]), e])⟩
    · rintro ⟨_, hq⟩
      have := validP_ok.2 hq
      unfold validP at this
      rw [if_neg (by simp [hp.v])] at this
      exact this
theorem w_r07_combined (hb : K_r07_both P F) (hm : K_r07_merged P F) (g : G) (p q : Mo) (all : Bool) (h1 : p.sm) (h2 : q.sm) : W P (c_r07_combined F) (Done [.c 8 true 2, .t 9] [] (.tup [mA (combR g p q all).1, .int .i64 (combR g p q all).2]) []) (init [gD g, mD p, mD q, .bool all]) := by
  refine W_of ?_
  have r1 := hb g p q h1 h2
  have hR : combR g p q all = if joinE g p q ≠ 0 then (m0, joinE g p q) else (⟨mrgL g.n.length p.n q.n all, mrgL g.e.length p.e q.e all⟩, 0) := rfl
  have h0 : joinE g p q = 0 → g.n.length ≤ 40 ∧ g.e.length ≤ 80 := fun h => by
    have := valid_spec (joinE_ok.1 h).1.v
    omega
  generalize joinE g p q = v at *
  rw [hR]
  clear hR
  have h3 := h1.1
  have h4 := h1.2
  have h5 := h2.1
  have h6 := h2.2
  obtain ⟨gn, ge⟩ := g
  obtain ⟨pn, pe⟩ := p
  obtain ⟨qn, qe⟩ := q
  simp only [gD, mD, mA, m0] at *
  simp (config := { maxSteps := 1000000 }) (disch := first | omega | (simp only [go_sem]; omega)) only [go_sem, ↓reduceIte]
  refine call_by r1 ?_
  simp (config := { maxSteps := 1000000 }) (disch := first | omega | (simp only [go_sem]; omega)) only [go_sem, ↓reduceIte]
  refine bran_ndec (fun c => ?_) (fun c => ?_)
  · simp (config := { maxSteps := 1000000 }) (disch := first | omega | (simp only [go_sem]; omega)) only [go_sem, ↓reduceIte]
    simp [c, mA, m0, ints]
  · obtain ⟨l1, l2⟩ := h0 c
    have r2 := hm gn.length pn qn all (by omega) h3 h5
    have r3 := hm ge.length pe qe all (by omega) h4 h6
    rw [if_neg (by simp [c])]
    generalize mrgL gn.length pn qn all = y1 at *
    generalize mrgL ge.length pe qe all = y2 at *
    simp (config := { maxSteps := 1000000 }) (disch := first | omega | (simp only [go_sem]; omega)) only [go_sem, ↓reduceIte]
    refine call_by r2 ?_
    simp (config := { maxSteps := 1000000 }) (disch := first | omega | (simp only [go_sem]; omega)) only [go_sem, ↓reduceIte]
    refine call_by r3 ?_
    simp (config := { maxSteps := 1000000 }) (disch := first | omega | (simp only [go_sem]; omega)) only [go_sem, ↓reduceIte]
    try rfl
end
end Go.Am
namespace Go.Am
open Go
set_option linter.unusedVariables false
set_option linter.unusedSimpArgs false
attribute [local irreducible] W
/- subgraph.Meet -/
def c_subgraph_Meet_r0 (F : String → Nat) : List LI := [⟨some 3, .bx (.t 0), none⟩,
  ⟨some 4, .bx (.t 1), none⟩,
  ⟨some 5, .bx (.t 2), none⟩,
  ⟨some 6, .alloc [.nl 1, .nl 1], none⟩,
  ⟨some 7, .mov (.k (.int .i64 (0))), none⟩]
def c_subgraph_Meet_r1 (F : String → Nat) : List LI := [⟨some 9, .load true 2 (.t 3), none⟩,
  ⟨some 10, .load true 2 (.t 4), none⟩,
  ⟨some 11, .load true 2 (.t 5), none⟩,
  ⟨some 12, .call (F "subgraph.both") [.t 9, .t 10, .t 11] [], none⟩,
  ⟨some 8, .mov (.t 12), none⟩]
def c_subgraph_Meet_r2 (F : String → Nat) : List LI := [⟨some 13, .mov (.t 8), none⟩,
  ⟨some 14, .bin .neq (.t 13) (.k (.int .i64 (0))), none⟩]
def c_subgraph_Meet_r3 (F : String → Nat) : List LI := [⟨some 15, .build [.nl 1, .nl 1] [], none⟩,
  ⟨some 16, .mov (.t 8), none⟩,
  ⟨none, .store 2 (.t 6) (.t 15), none⟩,
  ⟨some 7, .mov (.t 16), none⟩]
def c_subgraph_Meet_r4 (F : String → Nat) : List LI := [⟨some 17, .fad 0 (.t 4), none⟩,
  ⟨some 18, .load false 1 (.t 17), none⟩,
  ⟨some 19, .fad 0 (.t 5), none⟩,
  ⟨some 20, .load false 1 (.t 19), none⟩,
  ⟨some 21, .call (F "subgraph.common") [.t 18, .t 20] [], none⟩,
  ⟨some 22, .fad 1 (.t 4), none⟩,
  ⟨some 23, .load false 1 (.t 22), none⟩,
  ⟨some 24, .fad 1 (.t 5), none⟩,
  ⟨some 25, .load false 1 (.t 24), none⟩,
  ⟨some 26, .call (F "subgraph.common") [.t 23, .t 25] [], none⟩,
  ⟨some 27, .build [.nl 1, .nl 1] [(0, 1, .t 21), (1, 1, .t 26)], none⟩,
  ⟨none, .store 2 (.t 6) (.t 27), none⟩,
  ⟨some 7, .mov (.k (.int .i64 (0))), none⟩]
def c_subgraph_Meet (F : String → Nat) : LC := (.seq (.reg (c_subgraph_Meet_r0 F) [3, 4, 5, 6]) (.seq (.seq (.reg (c_subgraph_Meet_r1 F) [4, 5, 6, 8]) (.seq (.reg (c_subgraph_Meet_r2 F) [4, 5, 6, 8, 14]) (.cond (.t 14) (.seq (.reg (c_subgraph_Meet_r3 F) [6, 7]) .ret) .skip))) (.seq (.dreg [(4, none, [], true), (6, (some 32), [4], false), (8, (some 128), [4], false)] (c_subgraph_Meet_r4 F) [6, 7]) .ret)))
def h_subgraph_Meet : Hints := ⟨[], fun _ => [], tab [(0, [3, 4, 5, 6]), (1, [4, 5, 6, 8]), (2, [4, 5, 6, 8, 14]), (3, [6, 7]), (4, [6, 7])], tab []⟩

/- r07.Join -/
def c_r07_Join_r0 (F : String → Nat) : List LI := [⟨some 3, .bx (.t 0), none⟩,
  ⟨some 4, .bx (.t 1), none⟩,
  ⟨some 5, .bx (.t 2), none⟩,
  ⟨some 6, .alloc [.nl 1, .nl 1], none⟩,
  ⟨some 7, .mov (.k (.int .i64 (0))), none⟩]
def c_r07_Join_r1 (F : String → Nat) : List LI := [⟨some 8, .load true 2 (.t 3), none⟩,
  ⟨some 9, .load true 2 (.t 4), none⟩,
  ⟨some 10, .load true 2 (.t 5), none⟩,
  ⟨some 11, .call (F "r07.combined") [.t 8, .t 9, .t 10, .k (.bool false)] [], none⟩,
  ⟨some 12, .ext (.t 11) 0, none⟩,
  ⟨some 13, .ext (.t 11) 1, none⟩,
  ⟨none, .store 2 (.t 6) (.t 12), none⟩,
  ⟨some 7, .mov (.t 13), none⟩]
def c_r07_Join (F : String → Nat) : LC := (.seq (.reg (c_r07_Join_r0 F) [3, 4, 5, 6]) (.seq (.reg (c_r07_Join_r1 F) [6, 7]) .ret))
def h_r07_Join : Hints := ⟨[], fun _ => [], tab [(0, [3, 4, 5, 6]), (1, [6, 7])], tab []⟩

/- r07.Meet -/
def c_r07_Meet_r0 (F : String → Nat) : List LI := [⟨some 3, .bx (.t 0), none⟩,
  ⟨some 4, .bx (.t 1), none⟩,
  ⟨some 5, .bx (.t 2), none⟩,
  ⟨some 6, .alloc [.nl 1, .nl 1], none⟩,
  ⟨some 7, .mov (.k (.int .i64 (0))), none⟩]
def c_r07_Meet_r1 (F : String → Nat) : List LI := [⟨some 8, .load true 2 (.t 3), none⟩,
  ⟨some 9, .load true 2 (.t 4), none⟩,
  ⟨some 10, .load true 2 (.t 5), none⟩,
  ⟨some 11, .call (F "r07.combined") [.t 8, .t 9, .t 10, .k (.bool true)] [], none⟩,
  ⟨some 12, .ext (.t 11) 0, none⟩,
  ⟨some 13, .ext (.t 11) 1, none⟩,
  ⟨none, .store 2 (.t 6) (.t 12), none⟩,
  ⟨some 7, .mov (.t 13), none⟩]
def c_r07_Meet (F : String → Nat) : LC := (.seq (.reg (c_r07_Meet_r0 F) [3, 4, 5, 6]) (.seq (.reg (c_r07_Meet_r1 F) [6, 7]) .ret))
def h_r07_Meet : Hints := ⟨[], fun _ => [], tab [(0, [3, 4, 5, 6]), (1, [6, 7])], tab []⟩

attribute [go_sem] c_subgraph_Meet_r0 c_subgraph_Meet_r1 c_subgraph_Meet_r2 c_subgraph_Meet_r3 c_subgraph_Meet_r4 c_subgraph_Meet c_r07_Join_r0 c_r07_Join_r1 c_r07_Join c_r07_Meet_r0 c_r07_Meet_r1 c_r07_Meet
section
variable (P : Program) (F : String → Nat)
def K_subgraph_Meet : Prop := ∀ (g : G) (p q : Mo), p.sm → q.sm → FC P (F "subgraph.Meet") [gD g, mD p, mD q] (.tup [mA (meetR g p q).1, .int .i64 (meetR g p q).2]) []
def K_r07_Join : Prop := ∀ (g : G) (p q : Mo), p.sm → q.sm → FC P (F "r07.Join") [gD g, mD p, mD q] (.tup [mA (joinR g p q).1, .int .i64 (joinR g p q).2]) []
def K_r07_Meet : Prop := ∀ (g : G) (p q : Mo), p.sm → q.sm → FC P (F "r07.Meet") [gD g, mD p, mD q] (.tup [mA (meetR g p q).1, .int .i64 (meetR g p q).2]) []
end
section
variable {P : Program} {F : String → Nat} {α : Type}
theorem w_subgraph_Meet (hb : K_subgraph_both P F) (hc : K_subgraph_common P F) (g : G) (p q : Mo) (h1 : p.sm) (h2 : q.sm) : W P (c_subgraph_Meet F) (Done [.c 6 true 2, .t 7] [] (.tup [mA (meetR g p q).1, .int .i64 (meetR g p q).2]) []) (init [gD g, mD p, mD q]) := by
  refine W_of ?_
  have r1 := hb g p q h1 h2
  have hR : meetR g p q = if joinE g p q ≠ 0 then (m0, joinE g p q) else (⟨comL p.n q.n, comL p.e q.e⟩, 0) := rfl
  have h0 : joinE g p q = 0 → PK g p ∧ PK g q := joinE_ok.1
  generalize joinE g p q = v at *
  rw [hR]
  clear hR
  obtain ⟨pn, pe⟩ := p
  obtain ⟨qn, qe⟩ := q
  simp only [gD, mD, mA, m0] at *
  simp (config := { maxSteps := 1000000 }) (disch := first | omega | (simp only [go_sem]; omega)) only [go_sem, ↓reduceIte]
  refine call_by r1 ?_
  simp (config := { maxSteps := 1000000 }) (disch := first | omega | (simp only [go_sem]; omega)) only [go_sem, ↓reduceIte]
  refine bran_ndec (fun c => ?_) (fun c => ?_)
  · simp (config := { maxSteps := 1000000 }) (disch := first | omega | (simp only [go_sem]; omega)) only [go_sem, ↓reduceIte]
    simp [c, mA, m0, ints]
  · obtain ⟨k1, k2⟩ := h0 c
    have l1 := k1.len
    have l2 := k2.len
    have r2 := hc pn qn (by simp only at l1; omega) k2.n.p (by simp only at l2; omega)
    have r3 := hc pe qe (by simp only at l1; omega) k2.e.p (by simp only at l2; omega)
    rw [if_neg (by simp [c])]
    generalize comL pn qn = y1 at *
    generalize comL pe qe = y2 at *
    simp (config := { maxSteps := 1000000 }) (disch := first | omega | (simp only [go_sem]; omega)) only [go_sem, ↓reduceIte]
    refine call_by r2 ?_
    simp (config := { maxSteps := 1000000 }) (disch := first | omega | (simp only [go_sem]; omega)) only [go_sem, ↓reduceIte]
    refine call_by r3 ?_
    simp (config := { maxSteps := 1000000 }) (disch := first | omega | (simp only [go_sem]; omega)) only [go_sem, ↓reduceIte]
    try rfl
theorem comb_join {g : G} {p q : Mo} : combR g p q false = joinR g p q := by
  unfold combR joinR
  split
  · rfl
  · rename_i h
    obtain ⟨k1, k2⟩ := joinE_ok.1 (Decidable.not_not.1 h)
    rw [joinP, imgs_mrg k1.n.b k2.n.b, imgs_mrg k1.e.b k2.e.b]
theorem comb_meet {g : G} {p q : Mo} : combR g p q true = meetR g p q := by
  unfold combR meetR
  split
  · rfl
  · rename_i h
    obtain ⟨k1, k2⟩ := joinE_ok.1 (Decidable.not_not.1 h)
    rw [meetP, com_mrg k1.n, com_mrg k1.e]
theorem w_r07_Join (hc : K_r07_combined P F) (g : G) (p q : Mo) (h1 : p.sm) (h2 : q.sm) : W P (c_r07_Join F) (Done [.c 6 true 2, .t 7] [] (.tup [mA (joinR g p q).1, .int .i64 (joinR g p q).2]) []) (init [gD g, mD p, mD q]) := by
  refine W_of ?_
  have r1 := hc g p q false h1 h2
  rw [comb_join] at r1
  generalize joinR g p q = R at *
  obtain ⟨⟨rn, re⟩, v⟩ := R
  simp only [gD, mD, mA] at *
  simp (config := { maxSteps := 1000000 }) (disch := first | omega | (simp only [go_sem]; omega)) only [go_sem, ↓reduceIte]
  refine call_by r1 ?_
  simp (config := { maxSteps := 1000000 }) (disch := first | omega | (simp only [go_sem]; omega)) only [go_sem, ↓reduceIte]
  try rfl
theorem w_r07_Meet (hc : K_r07_combined P F) (g : G) (p q : Mo) (h1 : p.sm) (h2 : q.sm) : W P (c_r07_Meet F) (Done [.c 6 true 2, .t 7] [] (.tup [mA (meetR g p q).1, .int .i64 (meetR g p q).2]) []) (init [gD g, mD p, mD q]) := by
  refine W_of ?_
  have r1 := hc g p q true h1 h2
  rw [comb_meet] at r1
  generalize meetR g p q = R at *
  obtain ⟨⟨rn, re⟩, v⟩ := R
  simp only [gD, mD, mA] at *
  simp (config := { maxSteps := 1000000 }) (disch := first | omega | (simp only [go_sem]; omega)) only [go_sem, ↓reduceIte]
  refine call_by r1 ?_
  simp (config := { maxSteps := 1000000 }) (disch := first | omega | (simp only [go_sem]; omega)) only [go_sem, ↓reduceIte]
  try rfl
end
end Go.Am
