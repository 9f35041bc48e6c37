/- Drafts of graphs; what laws take. -/
/- Morphisms: validity, comparison, composition. -/
/- Pairs of numbers; injective morphisms. -/
/- Parts of graphs: whether they are right; membership. -/
/- Unions, intersections, images and boundaries of parts, plain. -/
/- Unions, intersections, images and preimages of parts: the walks. -/
/- The reference's Join and Meet; Preimage and Image. -/
import Derived.Test.YtbpjoianghehmaaSpPa
import Derived.Test.YtbpjoianghehmaaSpPb
import Derived.Test.YtbpjoianghehmaaSpPc
namespace Go.Am
open Go
set_option linter.unusedVariables false
set_option linter.unusedSimpArgs false
section
variable (P : Program) (F : String → Nat)
end
def shI : Sh := .int .i64
def shIs : Sh := .slc 1 8 shI
def shE : Sh := .cat [shI, shI, shI]
def shG : Sh := .cat [shIs, .slc 3 24 shE]
theorem rd_int {x : D} (h : HasEl shI x) : ∃ n : Int, x = .int .i64 n ∧ IntKind.i64.min ≤ n ∧ n ≤ IntKind.i64.max := by
  simpa only [shI, HasEl] using h
theorem rd_intl : ∀ {xs : List D}, (∀ y ∈ xs, HasEl shI y) → ∃ l : List Int, xs = ints l
  | [], _ => ⟨[], rfl⟩
  | x :: xs, h => by
    obtain ⟨l, rfl⟩ := rd_intl (xs := xs) fun y hy => h y (by simp [hy])
    obtain ⟨n, rfl, _⟩ := rd_int (h x (by simp))
    exact ⟨n :: l, rfl⟩
theorem rd_ints {x : D} (h : HasEl shIs x) : ∃ l : List Int, x = .lst 1 (ints l) ∧ l.length ≤ 20000000000000 := by
  simp only [shIs, HasEl] at h
  obtain ⟨xs, rfl, h1, h2⟩ := h
  obtain ⟨l, rfl⟩ := rd_intl h2
  refine ⟨l, rfl, ?_⟩
  rw [ints_length] at h1
  unfold reachBytes at h1
  omega
theorem rd_edge {x : D} (h : HasEl shE x) : ∃ e : E, x = edD e := by
  simp only [shE, HasEl] at h
  obtain ⟨ds, rfl, h⟩ := h
  simp only [shI, HasShs, HasEl] at h
  obtain ⟨_, _, rfl, ⟨a, rfl, _⟩, _, _, rfl, ⟨b, rfl, _⟩, _, _, rfl, ⟨c, rfl, _⟩, rfl⟩ := h
  exact ⟨⟨a, b, c⟩, rfl⟩
theorem rd_edl : ∀ {xs : List D}, (∀ y ∈ xs, HasEl shE y) → ∃ l : List E, xs = eds l
  | [], _ => ⟨[], rfl⟩
  | x :: xs, h => by
    obtain ⟨l, rfl⟩ := rd_edl (xs := xs) fun y hy => h y (by simp [hy])
    obtain ⟨n, rfl⟩ := rd_edge (h x (by simp))
    exact ⟨n :: l, rfl⟩
def shEs : Sh := .slc 3 24 shE
theorem rd_edges {x : D} (h : HasEl shEs x) : ∃ l : List E, x = .lst 3 (eds l) := by
  simp only [shEs, HasEl] at h
  obtain ⟨xs, rfl, _, h3⟩ := h
  obtain ⟨es, rfl⟩ := rd_edl h3
  exact ⟨es, rfl⟩
theorem hasShs_slc {z b : Nat} {e : Sh} {l : List Sh} {ds : List D} (h : HasShs (.slc z b e :: l) ds) : ∃ a b', ds = a :: b' ∧ HasEl (.slc z b e) a ∧ HasShs l b' := by simpa only [HasShs] using h
theorem hasShs_cat {l' : List Sh} {l : List Sh} {ds : List D} (h : HasShs (.cat l' :: l) ds) : ∃ a b, ds = a ++ b ∧ HasShs l' a ∧ HasShs l b := by simpa only [HasShs] using h
theorem hasShs_nil {ds : List D} (h : HasShs [] ds) : ds = [] := by simpa only [HasShs] using h
def gL (g : G) : List D := [.lst 1 (ints g.n), .lst 3 (eds g.e)]
def moL (m : Mo) : List D := [.lst 1 (ints m.n), .lst 1 (ints m.e)]
def shM : Sh := .cat [shIs, shIs]
theorem rd_gl {ds : List D} (h : HasShs [shIs, .slc 3 24 shE] ds) : ∃ g : G, ds = gL g := by
  obtain ⟨_, _, rfl, h1, h⟩ := hasShs_slc h
  obtain ⟨_, _, rfl, h2, h⟩ := hasShs_slc h
  obtain rfl := hasShs_nil h
  obtain ⟨n, rfl, _⟩ := rd_ints h1
  obtain ⟨e, rfl⟩ := rd_edges h2
  exact ⟨⟨n, e⟩, rfl⟩
theorem rd_ml {ds : List D} (h : HasShs [shIs, shIs] ds) : ∃ m : Mo, ds = moL m ∧ m.sm := by
  obtain ⟨_, _, rfl, h1, h⟩ := hasShs_slc h
  obtain ⟨_, _, rfl, h2, h⟩ := hasShs_slc h
  obtain rfl := hasShs_nil h
  obtain ⟨n, rfl, l1⟩ := rd_ints h1
  obtain ⟨e, rfl, l2⟩ := rd_ints h2
  exact ⟨⟨n, e⟩, rfl, by simp only [maxL]; omega, by simp only [maxL]; omega⟩
theorem rd_morph {x : D} (h : HasEl shM x) : ∃ m : Mo, x = mD m ∧ m.sm := by
  simp only [shM, HasEl] at h
  obtain ⟨ds, rfl, h⟩ := h
  obtain ⟨m, rfl, h2⟩ := rd_ml h
  exact ⟨m, rfl, h2⟩
section
variable {P : Program} {F : String → Nat} {α : Type}
end
end Go.Am
namespace Go.Am
open Go
set_option linter.unusedVariables false
set_option linter.unusedSimpArgs false
/- morphism.Valid -/
def c_morphism_Valid_r0 (F : String → Nat) : List LI := [⟨some 3, .bx (.t 0), none⟩,
  ⟨some 4, .bx (.t 1), none⟩,
  ⟨some 5, .bx (.t 2), none⟩,
  ⟨some 6, .mov (.k (.int .i64 (0))), none⟩]
def c_morphism_Valid_r1 (F : String → Nat) : List LI := [⟨some 15, .load true 2 (.t 3), none⟩,
  ⟨some 16, .call (F "graph.Valid") [.t 15] [], none⟩,
  ⟨some 7, .mov (.t 16), none⟩]
def c_morphism_Valid_r2 (F : String → Nat) : List LI := [⟨some 17, .mov (.t 7), none⟩,
  ⟨some 18, .bin .neq (.t 17) (.k (.int .i64 (0))), none⟩]
def c_morphism_Valid_r3 (F : String → Nat) : List LI := [⟨some 19, .mov (.t 7), none⟩,
  ⟨some 6, .mov (.t 19), none⟩]
def c_morphism_Valid_r4 (F : String → Nat) : List LI := [⟨some 20, .load true 2 (.t 4), none⟩,
  ⟨some 21, .call (F "graph.Valid") [.t 20] [], none⟩,
  ⟨some 8, .mov (.t 21), none⟩]
def c_morphism_Valid_r5 (F : String → Nat) : List LI := [⟨some 22, .mov (.t 8), none⟩,
  ⟨some 23, .bin .neq (.t 22) (.k (.int .i64 (0))), none⟩]
def c_morphism_Valid_r6 (F : String → Nat) : List LI := [⟨some 24, .mov (.t 8), none⟩,
  ⟨some 6, .mov (.t 24), none⟩]
def c_morphism_Valid_r7 (F : String → Nat) : List LI := [⟨some 25, .fad 0 (.t 5), none⟩,
  ⟨some 26, .load false 1 (.t 25), none⟩,
  ⟨some 27, .len (.t 26), none⟩,
  ⟨some 28, .fad 0 (.t 3), none⟩,
  ⟨some 29, .load false 1 (.t 28), none⟩,
  ⟨some 30, .len (.t 29), none⟩,
  ⟨some 31, .bin .neq (.t 27) (.t 30), none⟩,
  ⟨some 32, .mov (.t 31), none⟩,
  ⟨some 33, .fad 1 (.t 5), some (32, false)⟩,
  ⟨some 34, .load false 1 (.t 33), some (32, false)⟩,
  ⟨some 35, .len (.t 34), some (32, false)⟩,
  ⟨some 36, .fad 1 (.t 3), some (32, false)⟩,
  ⟨some 37, .load false 1 (.t 36), some (32, false)⟩,
  ⟨some 38, .len (.t 37), some (32, false)⟩,
  ⟨some 39, .bin .neq (.t 35) (.t 38), some (32, false)⟩,
  ⟨some 40, .pick (.t 32) (.k (.bool true)) (.t 39), none⟩]
def c_morphism_Valid_r8 (F : String → Nat) : List LI := [⟨some 6, .mov (.k (.int .i64 (20))), none⟩]
def c_morphism_Valid_r9 (F : String → Nat) : List LI := [⟨some 41, .fad 0 (.t 5), none⟩,
  ⟨some 42, .load false 1 (.t 41), none⟩,
  ⟨some 43, .len (.t 42), none⟩,
  ⟨some 44, .mov (.k (.int .i64 (0))), none⟩]
def c_morphism_Valid_r10 (F : String → Nat) : List LI := [⟨some 45, .bin .lss (.t 44) (.t 43), none⟩]
def c_morphism_Valid_r11 (F : String → Nat) : List LI := [⟨some 46, .mov (.t 44), none⟩,
  ⟨some 47, .iad 1 (.t 42) (.t 44), none⟩,
  ⟨some 48, .load false 1 (.t 47), none⟩,
  ⟨some 9, .mov (.t 46), none⟩,
  ⟨some 10, .mov (.t 48), none⟩]
def c_morphism_Valid_r12 (F : String → Nat) : List LI := [⟨some 49, .mov (.t 10), none⟩,
  ⟨some 50, .bin .lss (.t 49) (.k (.int .i64 (0))), none⟩,
  ⟨some 51, .mov (.t 50), none⟩,
  ⟨some 52, .mov (.t 10), some (51, false)⟩,
  ⟨some 53, .fad 0 (.t 4), some (51, false)⟩,
  ⟨some 54, .load false 1 (.t 53), some (51, false)⟩,
  ⟨some 55, .len (.t 54), some (51, false)⟩,
  ⟨some 56, .bin .geq (.t 52) (.t 55), some (51, false)⟩,
  ⟨some 57, .pick (.t 51) (.k (.bool true)) (.t 56), none⟩]
def c_morphism_Valid_r13 (F : String → Nat) : List LI := [⟨some 6, .mov (.k (.int .i64 (6))), none⟩]
def c_morphism_Valid_r14 (F : String → Nat) : List LI := [⟨some 58, .fad 0 (.t 4), none⟩,
  ⟨some 59, .load false 1 (.t 58), none⟩,
  ⟨some 60, .mov (.t 10), none⟩,
  ⟨some 61, .iad 1 (.t 59) (.t 60), none⟩,
  ⟨some 62, .load false 1 (.t 61), none⟩,
  ⟨some 63, .fad 0 (.t 3), none⟩,
  ⟨some 64, .load false 1 (.t 63), none⟩,
  ⟨some 65, .mov (.t 9), none⟩,
  ⟨some 66, .iad 1 (.t 64) (.t 65), none⟩,
  ⟨some 67, .load false 1 (.t 66), none⟩,
  ⟨some 68, .bin .neq (.t 62) (.t 67), none⟩]
def c_morphism_Valid_r15 (F : String → Nat) : List LI := [⟨some 6, .mov (.k (.int .i64 (13))), none⟩]
def c_morphism_Valid_r16 (F : String → Nat) : List LI := [⟨some 69, .bin .add (.t 44) (.k (.int .i64 (1))), none⟩,
  ⟨some 44, .mov (.t 69), none⟩]
def c_morphism_Valid_b17 (F : String → Nat) : LC := (.seq (.reg (c_morphism_Valid_r10 F) [3, 4, 5, 42, 43, 44, 45]) (.seq (.cond (.t 45) .skip (.exit 0)) (.seq (.block 1 (.seq (.reg (c_morphism_Valid_r11 F) [3, 4, 5, 9, 10, 42, 43, 44]) (.seq (.seq (.reg (c_morphism_Valid_r12 F) [3, 4, 5, 9, 10, 42, 43, 44, 57]) (.cond (.t 57) (.seq (.reg (c_morphism_Valid_r13 F) [6]) .ret) .skip)) (.seq (.dreg [] (c_morphism_Valid_r14 F) [3, 4, 5, 42, 43, 44, 68]) (.cond (.t 68) (.seq (.reg (c_morphism_Valid_r15 F) [6]) .ret) .skip))))) (.reg (c_morphism_Valid_r16 F) [3, 4, 5, 42, 43, 44]))))
def c_morphism_Valid_r18 (F : String → Nat) : List LI := [⟨some 70, .fad 1 (.t 5), none⟩,
  ⟨some 71, .load false 1 (.t 70), none⟩,
  ⟨some 72, .len (.t 71), none⟩,
  ⟨some 73, .mov (.k (.int .i64 (0))), none⟩]
def c_morphism_Valid_r19 (F : String → Nat) : List LI := [⟨some 74, .bin .lss (.t 73) (.t 72), none⟩]
def c_morphism_Valid_r20 (F : String → Nat) : List LI := [⟨some 75, .mov (.t 73), none⟩,
  ⟨some 76, .iad 1 (.t 71) (.t 73), none⟩,
  ⟨some 77, .load false 1 (.t 76), none⟩,
  ⟨some 11, .mov (.t 75), none⟩,
  ⟨some 12, .mov (.t 77), none⟩]
def c_morphism_Valid_r21 (F : String → Nat) : List LI := [⟨some 78, .mov (.t 12), none⟩,
  ⟨some 79, .bin .lss (.t 78) (.k (.int .i64 (0))), none⟩,
  ⟨some 80, .mov (.t 79), none⟩,
  ⟨some 81, .mov (.t 12), some (80, false)⟩,
  ⟨some 82, .fad 1 (.t 4), some (80, false)⟩,
  ⟨some 83, .load false 1 (.t 82), some (80, false)⟩,
  ⟨some 84, .len (.t 83), some (80, false)⟩,
  ⟨some 85, .bin .geq (.t 81) (.t 84), some (80, false)⟩,
  ⟨some 86, .pick (.t 80) (.k (.bool true)) (.t 85), none⟩]
def c_morphism_Valid_r22 (F : String → Nat) : List LI := [⟨some 6, .mov (.k (.int .i64 (6))), none⟩]
def c_morphism_Valid_r23 (F : String → Nat) : List LI := [⟨some 87, .fad 1 (.t 3), none⟩,
  ⟨some 88, .load false 1 (.t 87), none⟩,
  ⟨some 89, .mov (.t 11), none⟩,
  ⟨some 90, .iad 3 (.t 88) (.t 89), none⟩,
  ⟨some 91, .load true 3 (.t 90), none⟩,
  ⟨some 92, .fad 1 (.t 4), none⟩,
  ⟨some 93, .load false 1 (.t 92), none⟩,
  ⟨some 94, .mov (.t 12), none⟩,
  ⟨some 95, .iad 3 (.t 93) (.t 94), none⟩,
  ⟨some 96, .load true 3 (.t 95), none⟩,
  ⟨some 13, .alloc [.int .i64 (0), .int .i64 (0), .int .i64 (0)], none⟩,
  ⟨some 14, .alloc [.int .i64 (0), .int .i64 (0), .int .i64 (0)], none⟩,
  ⟨none, .store 3 (.t 13) (.t 91), none⟩,
  ⟨none, .store 3 (.t 14) (.t 96), none⟩]
def c_morphism_Valid_r24 (F : String → Nat) : List LI := [⟨some 97, .fad 0 (.t 13), none⟩,
  ⟨some 98, .load false 1 (.t 97), none⟩,
  ⟨some 99, .fad 0 (.t 14), none⟩,
  ⟨some 100, .load false 1 (.t 99), none⟩,
  ⟨some 101, .bin .neq (.t 98) (.t 100), none⟩]
def c_morphism_Valid_r25 (F : String → Nat) : List LI := [⟨some 6, .mov (.k (.int .i64 (13))), none⟩]
def c_morphism_Valid_r26 (F : String → Nat) : List LI := [⟨some 102, .fad 0 (.t 5), none⟩,
  ⟨some 103, .load false 1 (.t 102), none⟩,
  ⟨some 104, .fad 1 (.t 13), none⟩,
  ⟨some 105, .load false 1 (.t 104), none⟩,
  ⟨some 106, .iad 1 (.t 103) (.t 105), none⟩,
  ⟨some 107, .load false 1 (.t 106), none⟩,
  ⟨some 108, .fad 1 (.t 14), none⟩,
  ⟨some 109, .load false 1 (.t 108), none⟩,
  ⟨some 110, .bin .neq (.t 107) (.t 109), none⟩,
  ⟨some 111, .mov (.t 110), none⟩,
  ⟨some 112, .fad 0 (.t 5), some (111, false)⟩,
  ⟨some 113, .load false 1 (.t 112), some (111, false)⟩,
  ⟨some 114, .fad 2 (.t 13), some (111, false)⟩,
  ⟨some 115, .load false 1 (.t 114), some (111, false)⟩,
  ⟨some 116, .iad 1 (.t 113) (.t 115), some (111, false)⟩,
  ⟨some 117, .load false 1 (.t 116), some (111, false)⟩,
  ⟨some 118, .fad 2 (.t 14), some (111, false)⟩,
  ⟨some 119, .load false 1 (.t 118), some (111, false)⟩,
  ⟨some 120, .bin .neq (.t 117) (.t 119), some (111, false)⟩,
  ⟨some 121, .pick (.t 111) (.k (.bool true)) (.t 120), none⟩]
def c_morphism_Valid_r27 (F : String → Nat) : List LI := [⟨some 6, .mov (.k (.int .i64 (11))), none⟩]
def c_morphism_Valid_r28 (F : String → Nat) : List LI := [⟨some 122, .bin .add (.t 73) (.k (.int .i64 (1))), none⟩,
  ⟨some 73, .mov (.t 122), none⟩]
def c_morphism_Valid_b29 (F : String → Nat) : LC := (.seq (.reg (c_morphism_Valid_r19 F) [3, 4, 5, 71, 72, 73, 74]) (.seq (.cond (.t 74) .skip (.exit 2)) (.seq (.block 3 (.seq (.reg (c_morphism_Valid_r20 F) [3, 4, 5, 11, 12, 71, 72, 73]) (.seq (.seq (.reg (c_morphism_Valid_r21 F) [3, 4, 5, 11, 12, 71, 72, 73, 86]) (.cond (.t 86) (.seq (.reg (c_morphism_Valid_r22 F) [6]) .ret) .skip)) (.seq (.dreg [(6, none, [], true), (8, none, [], true), (9, none, [], true), (12, none, [6, 8, 9], false)] (c_morphism_Valid_r23 F) [3, 4, 5, 13, 14, 71, 72, 73]) (.seq (.seq (.reg (c_morphism_Valid_r24 F) [3, 4, 5, 13, 14, 71, 72, 73, 101]) (.cond (.t 101) (.seq (.reg (c_morphism_Valid_r25 F) [6]) .ret) .skip)) (.seq (.dreg [] (c_morphism_Valid_r26 F) [3, 4, 5, 71, 72, 73, 121]) (.cond (.t 121) (.seq (.reg (c_morphism_Valid_r27 F) [6]) .ret) .skip))))))) (.reg (c_morphism_Valid_r28 F) [3, 4, 5, 71, 72, 73]))))
def c_morphism_Valid_r30 (F : String → Nat) : List LI := [⟨some 6, .mov (.k (.int .i64 (0))), none⟩]
def c_morphism_Valid (F : String → Nat) : LC := (.seq (.reg (c_morphism_Valid_r0 F) [3, 4, 5]) (.seq (.seq (.reg (c_morphism_Valid_r1 F) [3, 4, 5, 7]) (.seq (.reg (c_morphism_Valid_r2 F) [3, 4, 5, 7, 18]) (.cond (.t 18) (.seq (.reg (c_morphism_Valid_r3 F) [6]) .ret) .skip))) (.seq (.seq (.reg (c_morphism_Valid_r4 F) [3, 4, 5, 8]) (.seq (.reg (c_morphism_Valid_r5 F) [3, 4, 5, 8, 23]) (.cond (.t 23) (.seq (.reg (c_morphism_Valid_r6 F) [6]) .ret) .skip))) (.seq (.seq (.reg (c_morphism_Valid_r7 F) [3, 4, 5, 40]) (.cond (.t 40) (.seq (.reg (c_morphism_Valid_r8 F) [6]) .ret) .skip)) (.seq (.seq (.reg (c_morphism_Valid_r9 F) [3, 4, 5, 42, 43, 44]) (.block 0 (.loop [3, 4, 5, 42, 43, 44] (c_morphism_Valid_b17 F)))) (.seq (.seq (.reg (c_morphism_Valid_r18 F) [3, 4, 5, 71, 72, 73]) (.block 2 (.loop [3, 4, 5, 71, 72, 73] (c_morphism_Valid_b29 F)))) (.seq (.reg (c_morphism_Valid_r30 F) [6]) .ret)))))))
def h_morphism_Valid : Hints := ⟨[], fun _ => [], tab [(0, [3, 4, 5]), (1, [3, 4, 5, 7]), (2, [3, 4, 5, 7, 18]), (3, [6]), (4, [3, 4, 5, 8]), (5, [3, 4, 5, 8, 23]), (6, [6]), (7, [3, 4, 5, 40]), (8, [6]), (9, [3, 4, 5, 42, 43, 44]), (10, [3, 4, 5, 42, 43, 44, 45]), (11, [3, 4, 5, 9, 10, 42, 43, 44]), (12, [3, 4, 5, 9, 10, 42, 43, 44, 57]), (13, [6]), (14, [3, 4, 5, 42, 43, 44, 68]), (15, [6]), (16, [3, 4, 5, 42, 43, 44]), (17, [3, 4, 5, 71, 72, 73]), (18, [3, 4, 5, 71, 72, 73, 74]), (19, [3, 4, 5, 11, 12, 71, 72, 73]), (20, [3, 4, 5, 11, 12, 71, 72, 73, 86]), (21, [6]), (22, [3, 4, 5, 13, 14, 71, 72, 73]), (23, [3, 4, 5, 13, 14, 71, 72, 73, 101]), (24, [6]), (25, [3, 4, 5, 71, 72, 73, 121]), (26, [6]), (27, [3, 4, 5, 71, 72, 73]), (28, [6])], tab [(10, [3, 4, 5, 42, 43, 44]), (18, [3, 4, 5, 71, 72, 73])]⟩

/- r06.Valid -/
def c_r06_Valid_r0 (F : String → Nat) : List LI := [⟨some 3, .bx (.t 0), none⟩,
  ⟨some 4, .bx (.t 1), none⟩,
  ⟨some 5, .bx (.t 2), none⟩,
  ⟨some 6, .mov (.k (.int .i64 (0))), none⟩]
def c_r06_Valid_r1 (F : String → Nat) : List LI := [⟨some 13, .load true 2 (.t 3), none⟩,
  ⟨some 14, .call (F "r05.Valid") [.t 13] [], none⟩,
  ⟨some 7, .mov (.t 14), none⟩]
def c_r06_Valid_r2 (F : String → Nat) : List LI := [⟨some 15, .mov (.t 7), none⟩,
  ⟨some 16, .bin .neq (.t 15) (.k (.int .i64 (0))), none⟩]
def c_r06_Valid_r3 (F : String → Nat) : List LI := [⟨some 17, .mov (.t 7), none⟩,
  ⟨some 6, .mov (.t 17), none⟩]
def c_r06_Valid_r4 (F : String → Nat) : List LI := [⟨some 18, .load true 2 (.t 4), none⟩,
  ⟨some 19, .call (F "r05.Valid") [.t 18] [], none⟩,
  ⟨some 8, .mov (.t 19), none⟩]
def c_r06_Valid_r5 (F : String → Nat) : List LI := [⟨some 20, .mov (.t 8), none⟩,
  ⟨some 21, .bin .neq (.t 20) (.k (.int .i64 (0))), none⟩]
def c_r06_Valid_r6 (F : String → Nat) : List LI := [⟨some 22, .mov (.t 8), none⟩,
  ⟨some 6, .mov (.t 22), none⟩]
def c_r06_Valid_r7 (F : String → Nat) : List LI := [⟨some 23, .fad 0 (.t 5), none⟩,
  ⟨some 24, .load false 1 (.t 23), none⟩,
  ⟨some 25, .len (.t 24), none⟩,
  ⟨some 26, .fad 0 (.t 3), none⟩,
  ⟨some 27, .load false 1 (.t 26), none⟩,
  ⟨some 28, .len (.t 27), none⟩,
  ⟨some 29, .bin .neq (.t 25) (.t 28), none⟩,
  ⟨some 30, .mov (.t 29), none⟩,
  ⟨some 31, .fad 1 (.t 5), some (30, false)⟩,
  ⟨some 32, .load false 1 (.t 31), some (30, false)⟩,
  ⟨some 33, .len (.t 32), some (30, false)⟩,
  ⟨some 34, .fad 1 (.t 3), some (30, false)⟩,
  ⟨some 35, .load false 1 (.t 34), some (30, false)⟩,
  ⟨some 36, .len (.t 35), some (30, false)⟩,
  ⟨some 37, .bin .neq (.t 33) (.t 36), some (30, false)⟩,
  ⟨some 38, .pick (.t 30) (.k (.bool true)) (.t 37), none⟩]
def c_r06_Valid_r8 (F : String → Nat) : List LI := [⟨some 6, .mov (.k (.int .i64 (20))), none⟩]
def c_r06_Valid_r9 (F : String → Nat) : List LI := [⟨some 9, .mov (.k (.int .i64 (0))), none⟩]
def c_r06_Valid_r10 (F : String → Nat) : List LI := [⟨some 39, .mov (.t 9), none⟩,
  ⟨some 40, .fad 0 (.t 3), none⟩,
  ⟨some 41, .load false 1 (.t 40), none⟩,
  ⟨some 42, .len (.t 41), none⟩,
  ⟨some 43, .bin .lss (.t 39) (.t 42), none⟩]
def c_r06_Valid_r11 (F : String → Nat) : List LI := [⟨some 46, .fad 0 (.t 5), none⟩,
  ⟨some 47, .load false 1 (.t 46), none⟩,
  ⟨some 48, .mov (.t 9), none⟩,
  ⟨some 49, .iad 1 (.t 47) (.t 48), none⟩,
  ⟨some 50, .load false 1 (.t 49), none⟩,
  ⟨some 51, .bin .lss (.t 50) (.k (.int .i64 (0))), none⟩,
  ⟨some 52, .mov (.t 51), none⟩,
  ⟨some 53, .fad 0 (.t 5), some (52, false)⟩,
  ⟨some 54, .load false 1 (.t 53), some (52, false)⟩,
  ⟨some 55, .mov (.t 9), some (52, false)⟩,
  ⟨some 56, .iad 1 (.t 54) (.t 55), some (52, false)⟩,
  ⟨some 57, .load false 1 (.t 56), some (52, false)⟩,
  ⟨some 58, .fad 0 (.t 4), some (52, false)⟩,
  ⟨some 59, .load false 1 (.t 58), some (52, false)⟩,
  ⟨some 60, .len (.t 59), some (52, false)⟩,
  ⟨some 61, .bin .geq (.t 57) (.t 60), some (52, false)⟩,
  ⟨some 62, .pick (.t 52) (.k (.bool true)) (.t 61), none⟩]
def c_r06_Valid_r12 (F : String → Nat) : List LI := [⟨some 6, .mov (.k (.int .i64 (6))), none⟩]
def c_r06_Valid_r13 (F : String → Nat) : List LI := [⟨some 63, .fad 0 (.t 4), none⟩,
  ⟨some 64, .load false 1 (.t 63), none⟩,
  ⟨some 65, .fad 0 (.t 5), none⟩,
  ⟨some 66, .load false 1 (.t 65), none⟩,
  ⟨some 67, .mov (.t 9), none⟩,
  ⟨some 68, .iad 1 (.t 66) (.t 67), none⟩,
  ⟨some 69, .load false 1 (.t 68), none⟩,
  ⟨some 70, .iad 1 (.t 64) (.t 69), none⟩,
  ⟨some 71, .load false 1 (.t 70), none⟩,
  ⟨some 72, .fad 0 (.t 3), none⟩,
  ⟨some 73, .load false 1 (.t 72), none⟩,
  ⟨some 74, .mov (.t 9), none⟩,
  ⟨some 75, .iad 1 (.t 73) (.t 74), none⟩,
  ⟨some 76, .load false 1 (.t 75), none⟩,
  ⟨some 77, .bin .neq (.t 71) (.t 76), none⟩]
def c_r06_Valid_r14 (F : String → Nat) : List LI := [⟨some 6, .mov (.k (.int .i64 (13))), none⟩]
def c_r06_Valid_r15 (F : String → Nat) : List LI := [⟨some 44, .mov (.t 9), none⟩,
  ⟨some 45, .bin .add (.t 44) (.k (.int .i64 (1))), none⟩,
  ⟨some 9, .mov (.t 45), none⟩]
def c_r06_Valid_b16 (F : String → Nat) : LC := (.seq (.seq (.reg (c_r06_Valid_r10 F) [3, 4, 5, 9, 43]) (.cond (.t 43) .skip (.exit 0))) (.seq (.block 1 (.seq (.seq (.dreg [] (c_r06_Valid_r11 F) [3, 4, 5, 9, 62]) (.cond (.t 62) (.seq (.reg (c_r06_Valid_r12 F) [6]) .ret) .skip)) (.seq (.dreg [] (c_r06_Valid_r13 F) [3, 4, 5, 9, 77]) (.cond (.t 77) (.seq (.reg (c_r06_Valid_r14 F) [6]) .ret) .skip)))) (.reg (c_r06_Valid_r15 F) [3, 4, 5, 9])))
def c_r06_Valid_r17 (F : String → Nat) : List LI := [⟨some 10, .mov (.k (.int .i64 (0))), none⟩]
def c_r06_Valid_r18 (F : String → Nat) : List LI := [⟨some 78, .mov (.t 10), none⟩,
  ⟨some 79, .fad 1 (.t 3), none⟩,
  ⟨some 80, .load false 1 (.t 79), none⟩,
  ⟨some 81, .len (.t 80), none⟩,
  ⟨some 82, .bin .lss (.t 78) (.t 81), none⟩]
def c_r06_Valid_r19 (F : String → Nat) : List LI := [⟨some 85, .fad 1 (.t 5), none⟩,
  ⟨some 86, .load false 1 (.t 85), none⟩,
  ⟨some 87, .mov (.t 10), none⟩,
  ⟨some 88, .iad 1 (.t 86) (.t 87), none⟩,
  ⟨some 89, .load false 1 (.t 88), none⟩,
  ⟨some 90, .bin .lss (.t 89) (.k (.int .i64 (0))), none⟩,
  ⟨some 91, .mov (.t 90), none⟩,
  ⟨some 92, .fad 1 (.t 5), some (91, false)⟩,
  ⟨some 93, .load false 1 (.t 92), some (91, false)⟩,
  ⟨some 94, .mov (.t 10), some (91, false)⟩,
  ⟨some 95, .iad 1 (.t 93) (.t 94), some (91, false)⟩,
  ⟨some 96, .load false 1 (.t 95), some (91, false)⟩,
  ⟨some 97, .fad 1 (.t 4), some (91, false)⟩,
  ⟨some 98, .load false 1 (.t 97), some (91, false)⟩,
  ⟨some 99, .len (.t 98), some (91, false)⟩,
  ⟨some 100, .bin .geq (.t 96) (.t 99), some (91, false)⟩,
  ⟨some 101, .pick (.t 91) (.k (.bool true)) (.t 100), none⟩]
def c_r06_Valid_r20 (F : String → Nat) : List LI := [⟨some 6, .mov (.k (.int .i64 (6))), none⟩]
def c_r06_Valid_r21 (F : String → Nat) : List LI := [⟨some 102, .fad 1 (.t 3), none⟩,
  ⟨some 103, .load false 1 (.t 102), none⟩,
  ⟨some 104, .mov (.t 10), none⟩,
  ⟨some 105, .iad 3 (.t 103) (.t 104), none⟩,
  ⟨some 106, .load true 3 (.t 105), none⟩,
  ⟨some 107, .fad 1 (.t 4), none⟩,
  ⟨some 108, .load false 1 (.t 107), none⟩,
  ⟨some 109, .fad 1 (.t 5), none⟩,
  ⟨some 110, .load false 1 (.t 109), none⟩,
  ⟨some 111, .mov (.t 10), none⟩,
  ⟨some 112, .iad 1 (.t 110) (.t 111), none⟩,
  ⟨some 113, .load false 1 (.t 112), none⟩,
  ⟨some 114, .iad 3 (.t 108) (.t 113), none⟩,
  ⟨some 115, .load true 3 (.t 114), none⟩,
  ⟨some 11, .alloc [.int .i64 (0), .int .i64 (0), .int .i64 (0)], none⟩,
  ⟨some 12, .alloc [.int .i64 (0), .int .i64 (0), .int .i64 (0)], none⟩,
  ⟨none, .store 3 (.t 11) (.t 106), none⟩,
  ⟨none, .store 3 (.t 12) (.t 115), none⟩]
def c_r06_Valid_r22 (F : String → Nat) : List LI := [⟨some 116, .fad 0 (.t 11), none⟩,
  ⟨some 117, .load false 1 (.t 116), none⟩,
  ⟨some 118, .fad 0 (.t 12), none⟩,
  ⟨some 119, .load false 1 (.t 118), none⟩,
  ⟨some 120, .bin .neq (.t 117) (.t 119), none⟩]
def c_r06_Valid_r23 (F : String → Nat) : List LI := [⟨some 6, .mov (.k (.int .i64 (13))), none⟩]
def c_r06_Valid_r24 (F : String → Nat) : List LI := [⟨some 121, .fad 0 (.t 5), none⟩,
  ⟨some 122, .load false 1 (.t 121), none⟩,
  ⟨some 123, .fad 1 (.t 11), none⟩,
  ⟨some 124, .load false 1 (.t 123), none⟩,
  ⟨some 125, .iad 1 (.t 122) (.t 124), none⟩,
  ⟨some 126, .load false 1 (.t 125), none⟩,
  ⟨some 127, .fad 1 (.t 12), none⟩,
  ⟨some 128, .load false 1 (.t 127), none⟩,
  ⟨some 129, .bin .neq (.t 126) (.t 128), none⟩,
  ⟨some 130, .mov (.t 129), none⟩,
  ⟨some 131, .fad 0 (.t 5), some (130, false)⟩,
  ⟨some 132, .load false 1 (.t 131), some (130, false)⟩,
  ⟨some 133, .fad 2 (.t 11), some (130, false)⟩,
  ⟨some 134, .load false 1 (.t 133), some (130, false)⟩,
  ⟨some 135, .iad 1 (.t 132) (.t 134), some (130, false)⟩,
  ⟨some 136, .load false 1 (.t 135), some (130, false)⟩,
  ⟨some 137, .fad 2 (.t 12), some (130, false)⟩,
  ⟨some 138, .load false 1 (.t 137), some (130, false)⟩,
  ⟨some 139, .bin .neq (.t 136) (.t 138), some (130, false)⟩,
  ⟨some 140, .pick (.t 130) (.k (.bool true)) (.t 139), none⟩]
def c_r06_Valid_r25 (F : String → Nat) : List LI := [⟨some 6, .mov (.k (.int .i64 (11))), none⟩]
def c_r06_Valid_r26 (F : String → Nat) : List LI := [⟨some 83, .mov (.t 10), none⟩,
  ⟨some 84, .bin .add (.t 83) (.k (.int .i64 (1))), none⟩,
  ⟨some 10, .mov (.t 84), none⟩]
def c_r06_Valid_b27 (F : String → Nat) : LC := (.seq (.seq (.reg (c_r06_Valid_r18 F) [3, 4, 5, 10, 82]) (.cond (.t 82) .skip (.exit 2))) (.seq (.block 3 (.seq (.seq (.dreg [] (c_r06_Valid_r19 F) [3, 4, 5, 10, 101]) (.cond (.t 101) (.seq (.reg (c_r06_Valid_r20 F) [6]) .ret) .skip)) (.seq (.dreg [(6, none, [], true), (8, none, [], true), (10, none, [], true), (11, none, [], true), (12, none, [], true), (13, none, [], true), (16, none, [6, 8, 10, 11, 12, 13], false)] (c_r06_Valid_r21 F) [3, 4, 5, 10, 11, 12]) (.seq (.seq (.reg (c_r06_Valid_r22 F) [3, 4, 5, 10, 11, 12, 120]) (.cond (.t 120) (.seq (.reg (c_r06_Valid_r23 F) [6]) .ret) .skip)) (.seq (.dreg [] (c_r06_Valid_r24 F) [3, 4, 5, 10, 140]) (.cond (.t 140) (.seq (.reg (c_r06_Valid_r25 F) [6]) .ret) .skip)))))) (.reg (c_r06_Valid_r26 F) [3, 4, 5, 10])))
def c_r06_Valid_r28 (F : String → Nat) : List LI := [⟨some 6, .mov (.k (.int .i64 (0))), none⟩]
def c_r06_Valid (F : String → Nat) : LC := (.seq (.reg (c_r06_Valid_r0 F) [3, 4, 5]) (.seq (.seq (.reg (c_r06_Valid_r1 F) [3, 4, 5, 7]) (.seq (.reg (c_r06_Valid_r2 F) [3, 4, 5, 7, 16]) (.cond (.t 16) (.seq (.reg (c_r06_Valid_r3 F) [6]) .ret) .skip))) (.seq (.seq (.reg (c_r06_Valid_r4 F) [3, 4, 5, 8]) (.seq (.reg (c_r06_Valid_r5 F) [3, 4, 5, 8, 21]) (.cond (.t 21) (.seq (.reg (c_r06_Valid_r6 F) [6]) .ret) .skip))) (.seq (.seq (.reg (c_r06_Valid_r7 F) [3, 4, 5, 38]) (.cond (.t 38) (.seq (.reg (c_r06_Valid_r8 F) [6]) .ret) .skip)) (.seq (.seq (.reg (c_r06_Valid_r9 F) [3, 4, 5, 9]) (.block 0 (.loop [3, 4, 5, 9] (c_r06_Valid_b16 F)))) (.seq (.seq (.reg (c_r06_Valid_r17 F) [3, 4, 5, 10]) (.block 2 (.loop [3, 4, 5, 10] (c_r06_Valid_b27 F)))) (.seq (.reg (c_r06_Valid_r28 F) [6]) .ret)))))))
def h_r06_Valid : Hints := ⟨[], fun _ => [], tab [(0, [3, 4, 5]), (1, [3, 4, 5, 7]), (2, [3, 4, 5, 7, 16]), (3, [6]), (4, [3, 4, 5, 8]), (5, [3, 4, 5, 8, 21]), (6, [6]), (7, [3, 4, 5, 38]), (8, [6]), (9, [3, 4, 5, 9]), (10, [3, 4, 5, 9, 43]), (11, [3, 4, 5, 9]), (12, [3, 4, 5, 9, 62]), (13, [6]), (14, [3, 4, 5, 9, 77]), (15, [6]), (16, [3, 4, 5, 10]), (17, [3, 4, 5, 10, 82]), (18, [3, 4, 5, 10]), (19, [3, 4, 5, 10, 101]), (20, [6]), (21, [3, 4, 5, 10, 11, 12]), (22, [3, 4, 5, 10, 11, 12, 120]), (23, [6]), (24, [3, 4, 5, 10, 140]), (25, [6]), (26, [6])], tab [(10, [3, 4, 5, 9]), (17, [3, 4, 5, 10])]⟩

/- r06.Few -/
def c_r06_Few_r0 (F : String → Nat) : List LI := [⟨some 2, .bx (.t 0), none⟩,
  ⟨some 4, .mov (.k (.bool false)), none⟩]
def c_r06_Few_r1 (F : String → Nat) : List LI := [⟨some 5, .fad 0 (.t 2), none⟩,
  ⟨some 6, .load false 1 (.t 5), none⟩,
  ⟨some 7, .len (.t 6), none⟩,
  ⟨some 8, .fad 1 (.t 2), none⟩,
  ⟨some 9, .load false 1 (.t 8), none⟩,
  ⟨some 10, .len (.t 9), none⟩,
  ⟨some 11, .bin .add (.t 7) (.t 10), none⟩,
  ⟨some 12, .mov (.t 1), none⟩,
  ⟨some 13, .bin .leq (.t 11) (.t 12), none⟩,
  ⟨some 4, .mov (.t 13), none⟩]
def c_r06_Few (F : String → Nat) : LC := (.seq (.reg (c_r06_Few_r0 F) [1, 2]) (.seq (.reg (c_r06_Few_r1 F) [4]) .ret))
def h_r06_Few : Hints := ⟨[], fun _ => [], tab [(0, [1, 2]), (1, [4])], tab []⟩

attribute [go_sem] c_morphism_Valid_r0 c_morphism_Valid_r1 c_morphism_Valid_r2 c_morphism_Valid_r3 c_morphism_Valid_r4 c_morphism_Valid_r5 c_morphism_Valid_r6 c_morphism_Valid_r7 c_morphism_Valid_r8 c_morphism_Valid_r9 c_morphism_Valid_r10 c_morphism_Valid_r11 c_morphism_Valid_r12 c_morphism_Valid_r13 c_morphism_Valid_r14 c_morphism_Valid_r15 c_morphism_Valid_r16 c_morphism_Valid_r18 c_morphism_Valid_r19 c_morphism_Valid_r20 c_morphism_Valid_r21 c_morphism_Valid_r22 c_morphism_Valid_r23 c_morphism_Valid_r24 c_morphism_Valid_r25 c_morphism_Valid_r26 c_morphism_Valid_r27 c_morphism_Valid_r28 c_morphism_Valid_r30 c_morphism_Valid c_r06_Valid_r0 c_r06_Valid_r1 c_r06_Valid_r2 c_r06_Valid_r3 c_r06_Valid_r4 c_r06_Valid_r5 c_r06_Valid_r6 c_r06_Valid_r7 c_r06_Valid_r8 c_r06_Valid_r9 c_r06_Valid_r10 c_r06_Valid_r11 c_r06_Valid_r12 c_r06_Valid_r13 c_r06_Valid_r14 c_r06_Valid_r15 c_r06_Valid_r17 c_r06_Valid_r18 c_r06_Valid_r19 c_r06_Valid_r20 c_r06_Valid_r21 c_r06_Valid_r22 c_r06_Valid_r23 c_r06_Valid_r24 c_r06_Valid_r25 c_r06_Valid_r26 c_r06_Valid_r28 c_r06_Valid c_r06_Few_r0 c_r06_Few_r1 c_r06_Few
section
variable (P : Program) (F : String → Nat)
def K_morphism_Valid : Prop := ∀ (a b : G) (m : Mo), FC P (F "morphism.Valid") [gD a, gD b, mD m] (.int .i64 (validM a b m)) []
def K_r06_Valid : Prop := ∀ (a b : G) (m : Mo), FC P (F "r06.Valid") [gD a, gD b, mD m] (.int .i64 (validM a b m)) []
def K_r06_Few : Prop := ∀ (m : Mo) (n : Int), m.n.length ≤ maxL → m.e.length ≤ maxL → FC P (F "r06.Few") [mD m, .int .i64 n] (.bool (fewM m n)) []
end
section
variable {P : Program} {F : String → Nat} {α : Type}
theorem nodeE_step {bn ms as : List Int} {i : Nat} (h1 : i < ms.length) (h2 : i < as.length) : nodeE bn (ms.drop i) (as.drop i) =
    if 0 ≤ gt ms i ∧ gt ms i < bn.length then (if gt bn (gt ms i) = gt as i then nodeE bn (ms.drop (i + 1)) (as.drop (i + 1)) else 13) else 6 := by
  rw [drop_gt h1, drop_gt h2, nodeE]
theorem edgeE_step {be : List E} {mn ms : List Int} {as : List E} {i : Nat} (h1 : i < ms.length) (h2 : i < as.length) : edgeE be mn (ms.drop i) (as.drop i) =
    if 0 ≤ gt ms i ∧ gt ms i < be.length then (if (gt as i).t = (gt be (gt ms i)).t then (if gt mn (gt as i).f = (gt be (gt ms i)).f ∧ gt mn (gt as i).o = (gt be (gt ms i)).o then edgeE be mn (ms.drop (i + 1)) (as.drop (i + 1)) else 11) else 13) else 6 := by
  rw [drop_gt h1, drop_gt h2, edgeE]
theorem nodeE_end {bn ms as : List Int} {i : Nat} (h1 : ms.length ≤ i) : nodeE bn (ms.drop i) (as.drop i) = 0 := by
  rw [List.drop_of_length_le h1]; rfl
theorem edgeE_end {be : List E} {mn ms : List Int} {as : List E} {i : Nat} (h1 : ms.length ≤ i) : edgeE be mn (ms.drop i) (as.drop i) = 0 := by
  rw [List.drop_of_length_le h1]; cases as.drop i <;> rfl
theorem w_morphism_Valid (hv : K_graph_Valid P F) (a b : G) (m : Mo) : W P (c_morphism_Valid F) (Done [.t 6] [] (.int .i64 (validM a b m)) []) (init [gD a, gD b, mD m]) := by
  refine W_of ?_
  have rva := hv a
  have rvb := hv b
  have sva := @valid_spec a
  have svb := @valid_spec b
  have hvm : validM a b m = if validG a ≠ 0 then validG a else if validG b ≠ 0 then validG b else if m.n.length ≠ a.n.length ∨ m.e.length ≠ a.e.length then 20
    else if nodeE b.n m.n a.n ≠ 0 then nodeE b.n m.n a.n else edgeE b.e m.n m.e a.e := rfl
  rw [hvm]
  generalize validG a = va at *
  generalize validG b = vb at *
  clear hvm
  obtain ⟨an, ae⟩ := a
  obtain ⟨bn, be⟩ := b
  obtain ⟨mn, me⟩ := m
  simp only [gD] at rva rvb
  simp only at sva svb
  simp (config := { maxSteps := 1000000 }) (disch := first | omega | (simp only [go_sem]; omega)) only [go_sem, ↓reduceIte, gD, mD]
  refine call_by rva ?_
  simp (config := { maxSteps := 1000000 }) (disch := first | omega | (simp only [go_sem]; omega)) only [go_sem, ↓reduceIte]
  refine bran_ndec (fun c1 => ?_) (fun c1 => ?_)
  · simp (config := { maxSteps := 1000000 }) (disch := first | omega | (simp only [go_sem]; omega)) only [go_sem, ↓reduceIte]
  · subst c1
    obtain ⟨a1, a2, _, a4⟩ := sva rfl
    simp (config := { maxSteps := 1000000 }) (disch := first | omega | (simp only [go_sem]; omega)) only [go_sem, ↓reduceIte]
    refine call_by rvb ?_
    simp (config := { maxSteps := 1000000 }) (disch := first | omega | (simp only [go_sem]; omega)) only [go_sem, ↓reduceIte]
    refine bran_ndec (fun c2 => ?_) (fun c2 => ?_)
    · simp (config := { maxSteps := 1000000 }) (disch := first | omega | (simp only [go_sem]; omega)) only [go_sem, ↓reduceIte]
      simp [c2]
    · subst c2
      obtain ⟨b1, b2, _, b4⟩ := svb rfl
      simp (config := { maxSteps := 1000000 }) (disch := first | omega | (simp only [go_sem]; omega)) only [go_sem, ↓reduceIte]
      refine bran_ndec (fun c3 => ?_) (fun c3 => ?_)
      · simp (config := { maxSteps := 1000000 }) (disch := first | omega | (simp only [go_sem]; omega)) only [go_sem, ↓reduceIte, c3]
        rw [if_neg (by simp), if_neg (by simp)]
      · simp (config := { maxSteps := 1000000 }) (disch := first | omega | (simp only [go_sem]; omega)) only [go_sem, ↓reduceIte, c3]
        refine bran_ndec (fun c4 => ?_) (fun c4 => ?_)
        · simp (config := { maxSteps := 1000000 }) (disch := first | omega | (simp only [go_sem]; omega)) only [go_sem, ↓reduceIte, c3, c4]
          rw [if_neg (by simp), if_neg (by simp)]
        · have d3 : mn.length = an.length := by omega
          have d4 : me.length = ae.length := by omega
          rw [if_neg (by simp), if_neg (by simp), if_neg (by simp only; omega)]
          clear c3 c4
          simp (config := { maxSteps := 1000000 }) (disch := first | omega | (simp only [go_sem]; omega)) only [go_sem, ↓reduceIte, d3, d4]
          refine W_loop (fun i : Nat => ⟨[(3, .pt 0 0), (4, .pt 1 0), (5, .pt 2 0), (42, .lst 1 (ints mn)), (43, .int .i64 an.length), (44, .int .i64 i)],
            [(0, .box [.lst 1 (ints an), .lst 3 (eds ae)]), (1, .box [.lst 1 (ints bn), .lst 3 (eds be)]), (2, .box [.lst 1 (ints mn), .lst 1 (ints me)])], 3⟩)
            (fun i => i ≤ mn.length ∧ nodeE bn mn an = nodeE bn (mn.drop i) (an.drop i)) (fun i => mn.length - i) 0 ?_ ?_ ?_
          · simp (config := { maxSteps := 1000000 }) (disch := first | omega | (simp only [go_sem]; omega)) only [go_sem, ↓reduceIte, d3]
            rfl
          · simp
          · rintro i ⟨hi, hn⟩
            simp (config := { maxSteps := 1000000 }) (disch := first | omega | (simp only [go_sem]; omega)) only [go_sem, ↓reduceIte, c_morphism_Valid_b17]
            refine bran_dec (fun c5 => ?_) (fun c5 => ?_)
            · have hs := nodeE_step (bn := bn) (ms := mn) (as := an) (i := i) (by omega) (by omega)
              simp (config := { maxSteps := 1000000 }) (disch := first | omega | (simp only [go_sem]; omega)) only [go_sem, ↓reduceIte]
              refine bran_dec (fun c6 => ?_) (fun c6 => ?_)
              · simp (config := { maxSteps := 1000000 }) (disch := first | omega | (simp only [go_sem]; omega)) only [go_sem, ↓reduceIte, c6]
                rw [if_neg (show ¬ (0 ≤ gt mn i ∧ gt mn i < bn.length) by omega)] at hs
                rw [hn, hs]
                try simp
              · simp (config := { maxSteps := 1000000 }) (disch := first | omega | (simp only [go_sem]; omega)) only [go_sem, ↓reduceIte, c6]
                refine bran_dec (fun c7 => ?_) (fun c7 => ?_)
                · simp (config := { maxSteps := 1000000 }) (disch := first | omega | (simp only [go_sem]; omega)) only [go_sem, ↓reduceIte]
                  rw [if_neg (show ¬ (0 ≤ gt mn i ∧ gt mn i < bn.length) by omega)] at hs
                  rw [hn, hs]
                  try simp
                · rw [if_pos (show (0 ≤ gt mn i ∧ gt mn i < bn.length) by omega)] at hs
                  simp (config := { maxSteps := 1000000 }) (disch := first | omega | (simp only [go_sem]; omega)) only [go_sem, ↓reduceIte]
                  refine bran_ndec (fun c8 => ?_) (fun c8 => ?_)
                  · rw [if_neg c8] at hs
                    simp (config := { maxSteps := 1000000 }) (disch := first | omega | (simp only [go_sem]; omega)) only [go_sem, ↓reduceIte]
                    rw [hn, hs]
                    try simp
                  · rw [if_pos c8] at hs
                    simp (config := { maxSteps := 1000000 }) (disch := first | omega | (simp only [go_sem]; omega)) only [go_sem, ↓reduceIte]
                    exact ⟨i + 1, by simp, ⟨by omega, by rw [hn, hs]⟩, by omega⟩
            · rw [nodeE_end (by omega)] at hn
              simp (config := { maxSteps := 1000000 }) (disch := first | omega | (simp only [go_sem]; omega)) only [go_sem, ↓reduceIte]
              refine W_loop (fun i : Nat => ⟨[(3, .pt 0 0), (4, .pt 1 0), (5, .pt 2 0), (71, .lst 1 (ints me)), (72, .int .i64 ae.length), (73, .int .i64 i)],
                [(0, .box [.lst 1 (ints an), .lst 3 (eds ae)]), (1, .box [.lst 1 (ints bn), .lst 3 (eds be)]), (2, .box [.lst 1 (ints mn), .lst 1 (ints me)])], 3⟩)
                (fun i => i ≤ me.length ∧ edgeE be mn me ae = edgeE be mn (me.drop i) (ae.drop i)) (fun i => me.length - i) 0 ?_ ?_ ?_
              · simp (config := { maxSteps := 1000000 }) (disch := first | omega | (simp only [go_sem]; omega)) only [go_sem, ↓reduceIte, d4]
                rfl
              · simp
              · rintro i ⟨hi, he⟩
                simp (config := { maxSteps := 1000000 }) (disch := first | omega | (simp only [go_sem]; omega)) only [go_sem, ↓reduceIte, c_morphism_Valid_b29]
                refine bran_dec (fun c5 => ?_) (fun c5 => ?_)
                · have hs := edgeE_step (be := be) (mn := mn) (ms := me) (as := ae) (i := i) (by omega) (by omega)
                  have hae := fits_spec (a4 _ (gt_mem (l := ae) (j := i) (by omega) (by omega)))
                  simp (config := { maxSteps := 1000000 }) (disch := first | omega | (simp only [go_sem]; omega)) only [go_sem, ↓reduceIte]
                  refine bran_dec (fun c6 => ?_) (fun c6 => ?_)
                  · simp (config := { maxSteps := 1000000 }) (disch := first | omega | (simp only [go_sem]; omega)) only [go_sem, ↓reduceIte, c6]
                    rw [if_neg (show ¬ (0 ≤ gt me i ∧ gt me i < be.length) by omega)] at hs
                    rw [hn, he, hs]
                    simp
                  · simp (config := { maxSteps := 1000000 }) (disch := first | omega | (simp only [go_sem]; omega)) only [go_sem, ↓reduceIte, c6]
                    refine bran_dec (fun c7 => ?_) (fun c7 => ?_)
                    · simp (config := { maxSteps := 1000000 }) (disch := first | omega | (simp only [go_sem]; omega)) only [go_sem, ↓reduceIte]
                      rw [if_neg (show ¬ (0 ≤ gt me i ∧ gt me i < be.length) by omega)] at hs
                      rw [hn, he, hs]
                      simp
                    · rw [if_pos (show (0 ≤ gt me i ∧ gt me i < be.length) by omega)] at hs
                      simp (config := { maxSteps := 1000000 }) (disch := first | omega | (simp only [go_sem]; omega)) only [go_sem, ↓reduceIte]
                      refine bran_ndec (fun c8 => ?_) (fun c8 => ?_)
                      · rw [if_neg c8] at hs
                        simp (config := { maxSteps := 1000000 }) (disch := first | omega | (simp only [go_sem]; omega)) only [go_sem, ↓reduceIte]
                        rw [hn, he, hs]
                        simp
                      · rw [if_pos c8] at hs
                        simp (config := { maxSteps := 1000000 }) (disch := first | omega | (simp only [go_sem]; omega)) only [go_sem, ↓reduceIte]
                        refine bran_ndec (fun c9 => ?_) (fun c9 => ?_)
                        · rw [if_neg (fun h => c9 h.1)] at hs
                          simp (config := { maxSteps := 1000000 }) (disch := first | omega | (simp only [go_sem]; omega)) only [go_sem, ↓reduceIte, c9]
                          rw [hn, he, hs]
                          simp
                        · simp (config := { maxSteps := 1000000 }) (disch := first | omega | (simp only [go_sem]; omega)) only [go_sem, ↓reduceIte, c9]
                          refine bran_ndec (fun d1 => ?_) (fun d1 => ?_)
                          · rw [if_neg (fun h => d1 h.2)] at hs
                            simp (config := { maxSteps := 1000000 }) (disch := first | omega | (simp only [go_sem]; omega)) only [go_sem, ↓reduceIte]
                            rw [hn, he, hs]
                            simp
                          · rw [if_pos ⟨c9, d1⟩] at hs
                            simp (config := { maxSteps := 1000000 }) (disch := first | omega | (simp only [go_sem]; omega)) only [go_sem, ↓reduceIte]
                            exact ⟨i + 1, by simp, ⟨by omega, by rw [he, hs]⟩, by omega⟩
                · rw [edgeE_end (by omega)] at he
                  simp (config := { maxSteps := 1000000 }) (disch := first | omega | (simp only [go_sem]; omega)) only [go_sem, ↓reduceIte]
                  rw [hn, he]
                  simp
theorem w_r06_Valid (hv : K_r05_Valid P F) (a b : G) (m : Mo) : W P (c_r06_Valid F) (Done [.t 6] [] (.int .i64 (validM a b m)) []) (init [gD a, gD b, mD m]) := by
  refine W_of ?_
  have rva := hv a
  have rvb := hv b
  have sva := @valid_spec a
  have svb := @valid_spec b
  have hvm : validM a b m = if validG a ≠ 0 then validG a else if validG b ≠ 0 then validG b else if m.n.length ≠ a.n.length ∨ m.e.length ≠ a.e.length then 20
    else if nodeE b.n m.n a.n ≠ 0 then nodeE b.n m.n a.n else edgeE b.e m.n m.e a.e := rfl
  rw [hvm]
  generalize validG a = va at *
  generalize validG b = vb at *
  clear hvm
  obtain ⟨an, ae⟩ := a
  obtain ⟨bn, be⟩ := b
  obtain ⟨mn, me⟩ := m
  simp only [gD] at rva rvb
  simp only at sva svb
  simp (config := { maxSteps := 1000000 }) (disch := first | omega | (simp only [go_sem]; omega)) only [go_sem, ↓reduceIte, gD, mD]
  refine call_by rva ?_
  simp (config := { maxSteps := 1000000 }) (disch := first | omega | (simp only [go_sem]; omega)) only [go_sem, ↓reduceIte]
  refine bran_ndec (fun c1 => ?_) (fun c1 => ?_)
  · simp (config := { maxSteps := 1000000 }) (disch := first | omega | (simp only [go_sem]; omega)) only [go_sem, ↓reduceIte]
  · subst c1
    obtain ⟨a1, a2, _, a4⟩ := sva rfl
    simp (config := { maxSteps := 1000000 }) (disch := first | omega | (simp only [go_sem]; omega)) only [go_sem, ↓reduceIte]
    refine call_by rvb ?_
    simp (config := { maxSteps := 1000000 }) (disch := first | omega | (simp only [go_sem]; omega)) only [go_sem, ↓reduceIte]
    refine bran_ndec (fun c2 => ?_) (fun c2 => ?_)
    · simp (config := { maxSteps := 1000000 }) (disch := first | omega | (simp only [go_sem]; omega)) only [go_sem, ↓reduceIte]
      simp [c2]
    · subst c2
      obtain ⟨b1, b2, _, b4⟩ := svb rfl
      simp (config := { maxSteps := 1000000 }) (disch := first | omega | (simp only [go_sem]; omega)) only [go_sem, ↓reduceIte]
      refine bran_ndec (fun c3 => ?_) (fun c3 => ?_)
      · simp (config := { maxSteps := 1000000 }) (disch := first | omega | (simp only [go_sem]; omega)) only [go_sem, ↓reduceIte, c3]
        rw [if_neg (by simp), if_neg (by simp)]
      · simp (config := { maxSteps := 1000000 }) (disch := first | omega | (simp only [go_sem]; omega)) only [go_sem, ↓reduceIte, c3]
        refine bran_ndec (fun c4 => ?_) (fun c4 => ?_)
        · simp (config := { maxSteps := 1000000 }) (disch := first | omega | (simp only [go_sem]; omega)) only [go_sem, ↓reduceIte, c3, c4]
          rw [if_neg (by simp), if_neg (by simp)]
        · have d3 : mn.length = an.length := by omega
          have d4 : me.length = ae.length := by omega
          rw [if_neg (by simp), if_neg (by simp), if_neg (by simp only; omega)]
          clear c3 c4
          simp (config := { maxSteps := 1000000 }) (disch := first | omega | (simp only [go_sem]; omega)) only [go_sem, ↓reduceIte, d3, d4]
          refine W_loop (fun i : Nat => ⟨[(3, .pt 0 0), (4, .pt 1 0), (5, .pt 2 0), (9, .int .i64 i)],
            [(0, .box [.lst 1 (ints an), .lst 3 (eds ae)]), (1, .box [.lst 1 (ints bn), .lst 3 (eds be)]), (2, .box [.lst 1 (ints mn), .lst 1 (ints me)])], 3⟩)
            (fun i => i ≤ mn.length ∧ nodeE bn mn an = nodeE bn (mn.drop i) (an.drop i)) (fun i => mn.length - i) 0 ?_ ?_ ?_
          · simp (config := { maxSteps := 1000000 }) (disch := first | omega | (simp only [go_sem]; omega)) only [go_sem, ↓reduceIte, d3]
            rfl
          · simp
          · rintro i ⟨hi, hn⟩
            simp (config := { maxSteps := 1000000 }) (disch := first | omega | (simp only [go_sem]; omega)) only [go_sem, ↓reduceIte, c_r06_Valid_b16]
            refine bran_dec (fun c5 => ?_) (fun c5 => ?_)
            · have hs := nodeE_step (bn := bn) (ms := mn) (as := an) (i := i) (by omega) (by omega)
              simp (config := { maxSteps := 1000000 }) (disch := first | omega | (simp only [go_sem]; omega)) only [go_sem, ↓reduceIte]
              refine bran_dec (fun c6 => ?_) (fun c6 => ?_)
              · simp (config := { maxSteps := 1000000 }) (disch := first | omega | (simp only [go_sem]; omega)) only [go_sem, ↓reduceIte, c6]
                rw [if_neg (show ¬ (0 ≤ gt mn i ∧ gt mn i < bn.length) by omega)] at hs
                rw [hn, hs]
                try simp
              · simp (config := { maxSteps := 1000000 }) (disch := first | omega | (simp only [go_sem]; omega)) only [go_sem, ↓reduceIte, c6]
                refine bran_dec (fun c7 => ?_) (fun c7 => ?_)
                · simp (config := { maxSteps := 1000000 }) (disch := first | omega | (simp only [go_sem]; omega)) only [go_sem, ↓reduceIte]
                  rw [if_neg (show ¬ (0 ≤ gt mn i ∧ gt mn i < bn.length) by omega)] at hs
                  rw [hn, hs]
                  try simp
                · rw [if_pos (show (0 ≤ gt mn i ∧ gt mn i < bn.length) by omega)] at hs
                  simp (config := { maxSteps := 1000000 }) (disch := first | omega | (simp only [go_sem]; omega)) only [go_sem, ↓reduceIte]
                  refine bran_ndec (fun c8 => ?_) (fun c8 => ?_)
                  · rw [if_neg c8] at hs
                    simp (config := { maxSteps := 1000000 }) (disch := first | omega | (simp only [go_sem]; omega)) only [go_sem, ↓reduceIte]
                    rw [hn, hs]
                    try simp
                  · rw [if_pos c8] at hs
                    simp (config := { maxSteps := 1000000 }) (disch := first | omega | (simp only [go_sem]; omega)) only [go_sem, ↓reduceIte]
                    exact ⟨i + 1, by simp, ⟨by omega, by rw [hn, hs]⟩, by omega⟩
            · rw [nodeE_end (by omega)] at hn
              simp (config := { maxSteps := 1000000 }) (disch := first | omega | (simp only [go_sem]; omega)) only [go_sem, ↓reduceIte]
              refine W_loop (fun i : Nat => ⟨[(3, .pt 0 0), (4, .pt 1 0), (5, .pt 2 0), (10, .int .i64 i)],
                [(0, .box [.lst 1 (ints an), .lst 3 (eds ae)]), (1, .box [.lst 1 (ints bn), .lst 3 (eds be)]), (2, .box [.lst 1 (ints mn), .lst 1 (ints me)])], 3⟩)
                (fun i => i ≤ me.length ∧ edgeE be mn me ae = edgeE be mn (me.drop i) (ae.drop i)) (fun i => me.length - i) 0 ?_ ?_ ?_
              · simp (config := { maxSteps := 1000000 }) (disch := first | omega | (simp only [go_sem]; omega)) only [go_sem, ↓reduceIte, d4]
                rfl
              · simp
              · rintro i ⟨hi, he⟩
                simp (config := { maxSteps := 1000000 }) (disch := first | omega | (simp only [go_sem]; omega)) only [go_sem, ↓reduceIte, c_r06_Valid_b27]
                refine bran_dec (fun c5 => ?_) (fun c5 => ?_)
                · have hs := edgeE_step (be := be) (mn := mn) (ms := me) (as := ae) (i := i) (by omega) (by omega)
                  have hae := fits_spec (a4 _ (gt_mem (l := ae) (j := i) (by omega) (by omega)))
                  simp (config := { maxSteps := 1000000 }) (disch := first | omega | (simp only [go_sem]; omega)) only [go_sem, ↓reduceIte]
                  refine bran_dec (fun c6 => ?_) (fun c6 => ?_)
                  · simp (config := { maxSteps := 1000000 }) (disch := first | omega | (simp only [go_sem]; omega)) only [go_sem, ↓reduceIte, c6]
                    rw [if_neg (show ¬ (0 ≤ gt me i ∧ gt me i < be.length) by omega)] at hs
                    rw [hn, he, hs]
                    simp
                  · simp (config := { maxSteps := 1000000 }) (disch := first | omega | (simp only [go_sem]; omega)) only [go_sem, ↓reduceIte, c6]
                    refine bran_dec (fun c7 => ?_) (fun c7 => ?_)
                    · simp (config := { maxSteps := 1000000 }) (disch := first | omega | (simp only [go_sem]; omega)) only [go_sem, ↓reduceIte]
                      rw [if_neg (show ¬ (0 ≤ gt me i ∧ gt me i < be.length) by omega)] at hs
                      rw [hn, he, hs]
                      simp
                    · rw [if_pos (show (0 ≤ gt me i ∧ gt me i < be.length) by omega)] at hs
                      simp (config := { maxSteps := 1000000 }) (disch := first | omega | (simp only [go_sem]; omega)) only [go_sem, ↓reduceIte]
                      refine bran_ndec (fun c8 => ?_) (fun c8 => ?_)
                      · rw [if_neg c8] at hs
                        simp (config := { maxSteps := 1000000 }) (disch := first | omega | (simp only [go_sem]; omega)) only [go_sem, ↓reduceIte]
                        rw [hn, he, hs]
                        simp
                      · rw [if_pos c8] at hs
                        simp (config := { maxSteps := 1000000 }) (disch := first | omega | (simp only [go_sem]; omega)) only [go_sem, ↓reduceIte]
                        refine bran_ndec (fun c9 => ?_) (fun c9 => ?_)
                        · rw [if_neg (fun h => c9 h.1)] at hs
                          simp (config := { maxSteps := 1000000 }) (disch := first | omega | (simp only [go_sem]; omega)) only [go_sem, ↓reduceIte, c9]
                          rw [hn, he, hs]
                          simp
                        · simp (config := { maxSteps := 1000000 }) (disch := first | omega | (simp only [go_sem]; omega)) only [go_sem, ↓reduceIte, c9]
                          refine bran_ndec (fun d1 => ?_) (fun d1 => ?_)
                          · rw [if_neg (fun h => d1 h.2)] at hs
                            simp (config := { maxSteps := 1000000 }) (disch := first | omega | (simp only [go_sem]; omega)) only [go_sem, ↓reduceIte]
                            rw [hn, he, hs]
                            simp
                          · rw [if_pos ⟨c9, d1⟩] at hs
                            simp (config := { maxSteps := 1000000 }) (disch := first | omega | (simp only [go_sem]; omega)) only [go_sem, ↓reduceIte]
                            exact ⟨i + 1, by simp, ⟨by omega, by rw [he, hs]⟩, by omega⟩
                · rw [edgeE_end (by omega)] at he
                  simp (config := { maxSteps := 1000000 }) (disch := first | omega | (simp only [go_sem]; omega)) only [go_sem, ↓reduceIte]
                  rw [hn, he]
                  simp
theorem w_r06_Few (m : Mo) (n : Int) (h1 : m.n.length ≤ maxL) (h2 : m.e.length ≤ maxL) : W P (c_r06_Few F) (Done [.t 4] [] (.bool (fewM m n)) []) (init [mD m, .int .i64 n]) := by
  refine W_of ?_
  obtain ⟨mn, me⟩ := m
  simp only [maxL] at h1 h2
  simp (config := { maxSteps := 1000000 }) (disch := first | omega | (simp only [go_sem]; omega)) only [go_sem, ↓reduceIte, mD, fewM]
end
end Go.Am
namespace Go.Am
open Go
set_option linter.unusedVariables false
set_option linter.unusedSimpArgs false
section
variable (P : Program) (F : String → Nat)
end
section
variable {P : Program} {F : String → Nat} {α : Type}
theorem validM_len {a b : G} {m : Mo} (h : validM a b m = 0) : m.n.length ≤ 40 ∧ m.e.length ≤ 80 ∧ a.n.length ≤ 40 ∧ a.e.length ≤ 80 ∧ b.n.length ≤ 40 ∧ b.e.length ≤ 80 := by
  obtain ⟨h1, h2, h3, h4, _⟩ := validM_spec h
  obtain ⟨a1, a2, _⟩ := valid_spec h1
  obtain ⟨b1, b2, _⟩ := valid_spec h2
  omega
end
end Go.Am
namespace Go.Am
open Go
set_option linter.unusedVariables false
set_option linter.unusedSimpArgs false
attribute [local irreducible] W
/- r07.has -/
def c_r07_has_r0 (F : String → Nat) : List LI := [⟨some 4, .mov (.k (.bool false)), none⟩]
def c_r07_has_r1 (F : String → Nat) : List LI := [⟨some 5, .mov (.k (.int .i64 (0))), none⟩]
def c_r07_has_r2 (F : String → Nat) : List LI := [⟨some 6, .mov (.t 5), none⟩,
  ⟨some 7, .mov (.t 0), none⟩,
  ⟨some 8, .len (.t 7), none⟩,
  ⟨some 9, .bin .lss (.t 6) (.t 8), none⟩]
def c_r07_has_r3 (F : String → Nat) : List LI := [⟨some 12, .mov (.t 0), none⟩,
  ⟨some 13, .mov (.t 5), none⟩,
  ⟨some 14, .iad 1 (.t 12) (.t 13), none⟩,
  ⟨some 15, .load false 1 (.t 14), none⟩,
  ⟨some 16, .mov (.t 1), none⟩,
  ⟨some 17, .bin .eql (.t 15) (.t 16), none⟩]
def c_r07_has_r4 (F : String → Nat) : List LI := [⟨some 4, .mov (.k (.bool true)), none⟩]
def c_r07_has_r5 (F : String → Nat) : List LI := [⟨some 10, .mov (.t 5), none⟩,
  ⟨some 11, .bin .add (.t 10) (.k (.int .i64 (1))), none⟩,
  ⟨some 5, .mov (.t 11), none⟩]
def c_r07_has_b6 (F : String → Nat) : LC := (.seq (.seq (.reg (c_r07_has_r2 F) [0, 1, 5, 9]) (.cond (.t 9) .skip (.exit 0))) (.seq (.block 1 (.seq (.reg (c_r07_has_r3 F) [0, 1, 5, 17]) (.cond (.t 17) (.seq (.reg (c_r07_has_r4 F) [4]) .ret) .skip))) (.reg (c_r07_has_r5 F) [0, 1, 5])))
def c_r07_has_r7 (F : String → Nat) : List LI := [⟨some 4, .mov (.k (.bool false)), none⟩]
def c_r07_has (F : String → Nat) : LC := (.seq (.reg (c_r07_has_r0 F) [0, 1]) (.seq (.seq (.reg (c_r07_has_r1 F) [0, 1, 5]) (.block 0 (.loop [0, 1, 5] (c_r07_has_b6 F)))) (.seq (.reg (c_r07_has_r7 F) [4]) .ret)))
def h_r07_has : Hints := ⟨[], fun _ => [], tab [(0, [0, 1]), (1, [0, 1, 5]), (2, [0, 1, 5, 9]), (3, [0, 1, 5]), (4, [0, 1, 5, 17]), (5, [4]), (6, [4])], tab [(2, [0, 1, 5])]⟩

/- r07.into -/
def c_r07_into_r0 (F : String → Nat) : List LI := [⟨some 4, .mov (.k (.nl 1)), none⟩]
def c_r07_into_r1 (F : String → Nat) : List LI := [⟨some 5, .mov (.k (.nl 1)), none⟩]
def c_r07_into_r2 (F : String → Nat) : List LI := [⟨some 6, .mov (.k (.int .i64 (0))), none⟩]
def c_r07_into_r3 (F : String → Nat) : List LI := [⟨some 7, .mov (.t 6), none⟩,
  ⟨some 8, .mov (.t 0), none⟩,
  ⟨some 9, .len (.t 8), none⟩,
  ⟨some 10, .bin .lss (.t 7) (.t 9), none⟩]
def c_r07_into_r4 (F : String → Nat) : List LI := [⟨some 13, .mov (.t 1), none⟩,
  ⟨some 14, .mov (.t 0), none⟩,
  ⟨some 15, .mov (.t 6), none⟩,
  ⟨some 16, .iad 1 (.t 14) (.t 15), none⟩,
  ⟨some 17, .load false 1 (.t 16), none⟩,
  ⟨some 18, .call (F "r07.has") [.t 13, .t 17] [], none⟩]
def c_r07_into_r5 (F : String → Nat) : List LI := [⟨some 19, .mov (.t 5), none⟩,
  ⟨some 20, .mov (.t 6), none⟩,
  ⟨some 21, .buildSl 1 8 (.int .i64 (0)) 1 [(0, .t 20)], none⟩,
  ⟨some 22, .app 1 8 (.t 19) (.t 21), none⟩,
  ⟨some 5, .mov (.t 22), none⟩]
def c_r07_into_r6 (F : String → Nat) : List LI := [⟨some 11, .mov (.t 6), none⟩,
  ⟨some 12, .bin .add (.t 11) (.k (.int .i64 (1))), none⟩,
  ⟨some 6, .mov (.t 12), none⟩]
def c_r07_into_b7 (F : String → Nat) : LC := (.seq (.seq (.reg (c_r07_into_r3 F) [0, 1, 5, 6, 10]) (.cond (.t 10) .skip (.exit 0))) (.seq (.block 1 (.seq (.reg (c_r07_into_r4 F) [0, 1, 5, 6, 18]) (.cond (.t 18) (.reg (c_r07_into_r5 F) [0, 1, 5, 6]) .skip))) (.reg (c_r07_into_r6 F) [0, 1, 5, 6])))
def c_r07_into_r8 (F : String → Nat) : List LI := [⟨some 23, .mov (.t 5), none⟩,
  ⟨some 4, .mov (.t 23), none⟩]
def c_r07_into (F : String → Nat) : LC := (.seq (.reg (c_r07_into_r0 F) [0, 1]) (.seq (.reg (c_r07_into_r1 F) [0, 1, 5]) (.seq (.seq (.reg (c_r07_into_r2 F) [0, 1, 5, 6]) (.block 0 (.loop [0, 1, 5, 6] (c_r07_into_b7 F)))) (.seq (.reg (c_r07_into_r8 F) [4]) .ret))))
def h_r07_into : Hints := ⟨[], fun _ => [], tab [(0, [0, 1]), (1, [0, 1, 5]), (2, [0, 1, 5, 6]), (3, [0, 1, 5, 6, 10]), (4, [0, 1, 5, 6]), (5, [0, 1, 5, 6, 18]), (6, [0, 1, 5, 6]), (7, [4])], tab [(3, [0, 1, 5, 6])]⟩

/- r07.ascending -/
def c_r07_ascending_r0 (F : String → Nat) : List LI := [⟨some 4, .mov (.k (.int .i64 (0))), none⟩]
def c_r07_ascending_r1 (F : String → Nat) : List LI := [⟨some 5, .mov (.k (.int .i64 (0))), none⟩]
def c_r07_ascending_r2 (F : String → Nat) : List LI := [⟨some 6, .mov (.t 5), none⟩,
  ⟨some 7, .mov (.t 0), none⟩,
  ⟨some 8, .len (.t 7), none⟩,
  ⟨some 9, .bin .lss (.t 6) (.t 8), none⟩]
def c_r07_ascending_r3 (F : String → Nat) : List LI := [⟨some 12, .mov (.t 0), none⟩,
  ⟨some 13, .mov (.t 5), none⟩,
  ⟨some 14, .iad 1 (.t 12) (.t 13), none⟩,
  ⟨some 15, .load false 1 (.t 14), none⟩,
  ⟨some 16, .bin .lss (.t 15) (.k (.int .i64 (0))), none⟩,
  ⟨some 17, .mov (.t 16), none⟩,
  ⟨some 18, .mov (.t 0), some (17, false)⟩,
  ⟨some 19, .mov (.t 5), some (17, false)⟩,
  ⟨some 20, .iad 1 (.t 18) (.t 19), some (17, false)⟩,
  ⟨some 21, .load false 1 (.t 20), some (17, false)⟩,
  ⟨some 22, .mov (.t 1), some (17, false)⟩,
  ⟨some 23, .bin .geq (.t 21) (.t 22), some (17, false)⟩,
  ⟨some 24, .pick (.t 17) (.k (.bool true)) (.t 23), none⟩]
def c_r07_ascending_r4 (F : String → Nat) : List LI := [⟨some 4, .mov (.k (.int .i64 (6))), none⟩]
def c_r07_ascending_r5 (F : String → Nat) : List LI := [⟨some 25, .mov (.t 5), none⟩,
  ⟨some 26, .bin .gtr (.t 25) (.k (.int .i64 (0))), none⟩,
  ⟨some 27, .mov (.t 26), none⟩,
  ⟨some 28, .mov (.t 0), some (27, true)⟩,
  ⟨some 29, .mov (.t 5), some (27, true)⟩,
  ⟨some 30, .iad 1 (.t 28) (.t 29), some (27, true)⟩,
  ⟨some 31, .load false 1 (.t 30), some (27, true)⟩,
  ⟨some 32, .mov (.t 0), some (27, true)⟩,
  ⟨some 33, .mov (.t 5), some (27, true)⟩,
  ⟨some 34, .bin .sub (.t 33) (.k (.int .i64 (1))), some (27, true)⟩,
  ⟨some 35, .iad 1 (.t 32) (.t 34), some (27, true)⟩,
  ⟨some 36, .load false 1 (.t 35), some (27, true)⟩,
  ⟨some 37, .bin .leq (.t 31) (.t 36), some (27, true)⟩,
  ⟨some 38, .pick (.t 27) (.t 37) (.k (.bool false)), none⟩]
def c_r07_ascending_r6 (F : String → Nat) : List LI := [⟨some 4, .mov (.k (.int .i64 (12))), none⟩]
def c_r07_ascending_r7 (F : String → Nat) : List LI := [⟨some 10, .mov (.t 5), none⟩,
  ⟨some 11, .bin .add (.t 10) (.k (.int .i64 (1))), none⟩,
  ⟨some 5, .mov (.t 11), none⟩]
def c_r07_ascending_b8 (F : String → Nat) : LC := (.seq (.seq (.reg (c_r07_ascending_r2 F) [0, 1, 5, 9]) (.cond (.t 9) .skip (.exit 0))) (.seq (.block 1 (.seq (.seq (.reg (c_r07_ascending_r3 F) [0, 1, 5, 24]) (.cond (.t 24) (.seq (.reg (c_r07_ascending_r4 F) [4]) .ret) .skip)) (.seq (.dreg [] (c_r07_ascending_r5 F) [0, 1, 5, 38]) (.cond (.t 38) (.seq (.reg (c_r07_ascending_r6 F) [4]) .ret) .skip)))) (.reg (c_r07_ascending_r7 F) [0, 1, 5])))
def c_r07_ascending_r9 (F : String → Nat) : List LI := [⟨some 4, .mov (.k (.int .i64 (0))), none⟩]
def c_r07_ascending (F : String → Nat) : LC := (.seq (.reg (c_r07_ascending_r0 F) [0, 1]) (.seq (.seq (.reg (c_r07_ascending_r1 F) [0, 1, 5]) (.block 0 (.loop [0, 1, 5] (c_r07_ascending_b8 F)))) (.seq (.reg (c_r07_ascending_r9 F) [4]) .ret)))
def h_r07_ascending : Hints := ⟨[], fun _ => [], tab [(0, [0, 1]), (1, [0, 1, 5]), (2, [0, 1, 5, 9]), (3, [0, 1, 5]), (4, [0, 1, 5, 24]), (5, [4]), (6, [0, 1, 5, 38]), (7, [4]), (8, [4])], tab [(2, [0, 1, 5])]⟩

/- r07.Right -/
def c_r07_Right_r0 (F : String → Nat) : List LI := [⟨some 2, .bx (.t 0), none⟩,
  ⟨some 3, .bx (.t 1), none⟩,
  ⟨some 4, .mov (.k (.int .i64 (0))), none⟩]
def c_r07_Right_r1 (F : String → Nat) : List LI := [⟨some 9, .fad 0 (.t 3), none⟩,
  ⟨some 10, .load false 1 (.t 9), none⟩,
  ⟨some 11, .fad 0 (.t 2), none⟩,
  ⟨some 12, .load false 1 (.t 11), none⟩,
  ⟨some 13, .len (.t 12), none⟩,
  ⟨some 14, .call (F "r07.ascending") [.t 10, .t 13] [], none⟩,
  ⟨some 5, .mov (.t 14), none⟩]
def c_r07_Right_r2 (F : String → Nat) : List LI := [⟨some 15, .mov (.t 5), none⟩,
  ⟨some 16, .bin .neq (.t 15) (.k (.int .i64 (0))), none⟩]
def c_r07_Right_r3 (F : String → Nat) : List LI := [⟨some 17, .mov (.t 5), none⟩,
  ⟨some 4, .mov (.t 17), none⟩]
def c_r07_Right_r4 (F : String → Nat) : List LI := [⟨some 18, .fad 1 (.t 3), none⟩,
  ⟨some 19, .load false 1 (.t 18), none⟩,
  ⟨some 20, .fad 1 (.t 2), none⟩,
  ⟨some 21, .load false 1 (.t 20), none⟩,
  ⟨some 22, .len (.t 21), none⟩,
  ⟨some 23, .call (F "r07.ascending") [.t 19, .t 22] [], none⟩,
  ⟨some 6, .mov (.t 23), none⟩]
def c_r07_Right_r5 (F : String → Nat) : List LI := [⟨some 24, .mov (.t 6), none⟩,
  ⟨some 25, .bin .neq (.t 24) (.k (.int .i64 (0))), none⟩]
def c_r07_Right_r6 (F : String → Nat) : List LI := [⟨some 26, .mov (.t 6), none⟩,
  ⟨some 4, .mov (.t 26), none⟩]
def c_r07_Right_r7 (F : String → Nat) : List LI := [⟨some 7, .mov (.k (.int .i64 (0))), none⟩]
def c_r07_Right_r8 (F : String → Nat) : List LI := [⟨some 27, .mov (.t 7), none⟩,
  ⟨some 28, .fad 1 (.t 3), none⟩,
  ⟨some 29, .load false 1 (.t 28), none⟩,
  ⟨some 30, .len (.t 29), none⟩,
  ⟨some 31, .bin .lss (.t 27) (.t 30), none⟩]
def c_r07_Right_r9 (F : String → Nat) : List LI := [⟨some 34, .fad 1 (.t 2), none⟩,
  ⟨some 35, .load false 1 (.t 34), none⟩,
  ⟨some 36, .fad 1 (.t 3), none⟩,
  ⟨some 37, .load false 1 (.t 36), none⟩,
  ⟨some 38, .mov (.t 7), none⟩,
  ⟨some 39, .iad 1 (.t 37) (.t 38), none⟩,
  ⟨some 40, .load false 1 (.t 39), none⟩,
  ⟨some 41, .iad 3 (.t 35) (.t 40), none⟩,
  ⟨some 42, .load true 3 (.t 41), none⟩,
  ⟨some 8, .alloc [.int .i64 (0), .int .i64 (0), .int .i64 (0)], none⟩,
  ⟨none, .store 3 (.t 8) (.t 42), none⟩]
def c_r07_Right_r10 (F : String → Nat) : List LI := [⟨some 43, .fad 0 (.t 3), none⟩,
  ⟨some 44, .load false 1 (.t 43), none⟩,
  ⟨some 45, .fad 1 (.t 8), none⟩,
  ⟨some 46, .load false 1 (.t 45), none⟩,
  ⟨some 47, .call (F "r07.has") [.t 44, .t 46] [], none⟩,
  ⟨some 48, .not (.t 47), none⟩,
  ⟨some 49, .mov (.t 48), none⟩,
  ⟨some 50, .fad 0 (.t 3), some (49, false)⟩,
  ⟨some 51, .load false 1 (.t 50), some (49, false)⟩,
  ⟨some 52, .fad 2 (.t 8), some (49, false)⟩,
  ⟨some 53, .load false 1 (.t 52), some (49, false)⟩,
  ⟨some 54, .call (F "r07.has") [.t 51, .t 53] [], some (49, false)⟩,
  ⟨some 55, .not (.t 54), some (49, false)⟩,
  ⟨some 56, .pick (.t 49) (.k (.bool true)) (.t 55), none⟩]
def c_r07_Right_r11 (F : String → Nat) : List LI := [⟨some 4, .mov (.k (.int .i64 (14))), none⟩]
def c_r07_Right_r12 (F : String → Nat) : List LI := [⟨some 32, .mov (.t 7), none⟩,
  ⟨some 33, .bin .add (.t 32) (.k (.int .i64 (1))), none⟩,
  ⟨some 7, .mov (.t 33), none⟩]
def c_r07_Right_b13 (F : String → Nat) : LC := (.seq (.seq (.reg (c_r07_Right_r8 F) [2, 3, 7, 31]) (.cond (.t 31) .skip (.exit 0))) (.seq (.block 1 (.seq (.dreg [] (c_r07_Right_r9 F) [2, 3, 7, 8]) (.seq (.reg (c_r07_Right_r10 F) [2, 3, 7, 56]) (.cond (.t 56) (.seq (.reg (c_r07_Right_r11 F) [4]) .ret) .skip)))) (.reg (c_r07_Right_r12 F) [2, 3, 7])))
def c_r07_Right_r14 (F : String → Nat) : List LI := [⟨some 4, .mov (.k (.int .i64 (0))), none⟩]
def c_r07_Right (F : String → Nat) : LC := (.seq (.reg (c_r07_Right_r0 F) [2, 3]) (.seq (.seq (.reg (c_r07_Right_r1 F) [2, 3, 5]) (.seq (.reg (c_r07_Right_r2 F) [2, 3, 5, 16]) (.cond (.t 16) (.seq (.reg (c_r07_Right_r3 F) [4]) .ret) .skip))) (.seq (.seq (.reg (c_r07_Right_r4 F) [2, 3, 6]) (.seq (.reg (c_r07_Right_r5 F) [2, 3, 6, 25]) (.cond (.t 25) (.seq (.reg (c_r07_Right_r6 F) [4]) .ret) .skip))) (.seq (.seq (.reg (c_r07_Right_r7 F) [2, 3, 7]) (.block 0 (.loop [2, 3, 7] (c_r07_Right_b13 F)))) (.seq (.reg (c_r07_Right_r14 F) [4]) .ret)))))
def h_r07_Right : Hints := ⟨[], fun _ => [], tab [(0, [2, 3]), (1, [2, 3, 5]), (2, [2, 3, 5, 16]), (3, [4]), (4, [2, 3, 6]), (5, [2, 3, 6, 25]), (6, [4]), (7, [2, 3, 7]), (8, [2, 3, 7, 31]), (9, [2, 3, 7]), (10, [2, 3, 7, 8]), (11, [2, 3, 7, 56]), (12, [4]), (13, [4])], tab [(8, [2, 3, 7])]⟩

/- r07.Few -/
def c_r07_Few_r0 (F : String → Nat) : List LI := [⟨some 2, .bx (.t 0), none⟩,
  ⟨some 4, .mov (.k (.bool false)), none⟩]
def c_r07_Few_r1 (F : String → Nat) : List LI := [⟨some 5, .fad 0 (.t 2), none⟩,
  ⟨some 6, .load false 1 (.t 5), none⟩,
  ⟨some 7, .len (.t 6), none⟩,
  ⟨some 8, .fad 1 (.t 2), none⟩,
  ⟨some 9, .load false 1 (.t 8), none⟩,
  ⟨some 10, .len (.t 9), none⟩,
  ⟨some 11, .bin .add (.t 7) (.t 10), none⟩,
  ⟨some 12, .mov (.t 1), none⟩,
  ⟨some 13, .bin .leq (.t 11) (.t 12), none⟩,
  ⟨some 4, .mov (.t 13), none⟩]
def c_r07_Few (F : String → Nat) : LC := (.seq (.reg (c_r07_Few_r0 F) [1, 2]) (.seq (.reg (c_r07_Few_r1 F) [4]) .ret))
def h_r07_Few : Hints := ⟨[], fun _ => [], tab [(0, [1, 2]), (1, [4])], tab []⟩

attribute [go_sem] c_r07_has_r0 c_r07_has_r1 c_r07_has_r2 c_r07_has_r3 c_r07_has_r4 c_r07_has_r5 c_r07_has_r7 c_r07_has c_r07_into_r0 c_r07_into_r1 c_r07_into_r2 c_r07_into_r3 c_r07_into_r4 c_r07_into_r5 c_r07_into_r6 c_r07_into_r8 c_r07_into c_r07_ascending_r0 c_r07_ascending_r1 c_r07_ascending_r2 c_r07_ascending_r3 c_r07_ascending_r4 c_r07_ascending_r5 c_r07_ascending_r6 c_r07_ascending_r7 c_r07_ascending_r9 c_r07_ascending c_r07_Right_r0 c_r07_Right_r1 c_r07_Right_r2 c_r07_Right_r3 c_r07_Right_r4 c_r07_Right_r5 c_r07_Right_r6 c_r07_Right_r7 c_r07_Right_r8 c_r07_Right_r9 c_r07_Right_r10 c_r07_Right_r11 c_r07_Right_r12 c_r07_Right_r14 c_r07_Right c_r07_Few_r0 c_r07_Few_r1 c_r07_Few
def intoL (l p : List Int) : List Int := sel (fun i : Nat => decide (gt l i ∈ p)) l.length
section
variable (P : Program) (F : String → Nat)
def K_r07_has : Prop := ∀ (l : List Int) (n : Int), l.length ≤ maxL → FC P (F "r07.has") [.lst 1 (ints l), .int .i64 n] (.bool (decide (n ∈ l))) []
def K_r07_into : Prop := ∀ (l p : List Int), l.length ≤ 10000 → p.length ≤ maxL → FC P (F "r07.into") [.lst 1 (ints l), .lst 1 (ints p)] (.arr 1 (ints (intoL l p))) []
def K_r07_ascending : Prop := ∀ (l : List Int) (n : Int), l.length ≤ maxL → 0 ≤ n → n ≤ 1000000 → FC P (F "r07.ascending") [.lst 1 (ints l), .int .i64 n] (.int .i64 (ascG n none l)) []
def K_r07_Right : Prop := ∀ (g : G) (p : Mo), validG g = 0 → p.n.length ≤ maxL → p.e.length ≤ maxL → FC P (F "r07.Right") [gD g, mD p] (.int .i64 (rightP g p)) []
def K_r07_Few : Prop := ∀ (m : Mo) (n : Int), m.n.length ≤ maxL → m.e.length ≤ maxL → FC P (F "r07.Few") [mD m, .int .i64 n] (.bool (fewM m n)) []
end
section
variable {P : Program} {F : String → Nat} {α : Type}
theorem mem_take {l : List Int} {n : Int} {i : Nat} (h : i < l.length) : n ∈ l.take (i + 1) ↔ n ∈ l.take i ∨ gt l i = n := by
  rw [take_gt h]; simp [eq_comm]
theorem w_r07_has (l : List Int) (n : Int) (hl : l.length ≤ maxL) : W P (c_r07_has F) (Done [.t 4] [] (.bool (decide (n ∈ l))) []) (init [.lst 1 (ints l), .int .i64 n]) := by
  refine W_of ?_
  unfold maxL at hl
  simp (config := { maxSteps := 1000000 }) (disch := first | omega | (simp only [go_sem]; omega)) only [go_sem, ↓reduceIte]
  refine W_loop (fun i : Nat => ⟨[(0, .lst 1 (ints l)), (1, .int .i64 n), (5, .int .i64 i)], [], 0⟩) (fun i => i ≤ l.length ∧ n ∉ l.take i) (fun i => l.length - i) 0 ?_ ?_ ?_
  · simp (config := { maxSteps := 1000000 }) (disch := first | omega | (simp only [go_sem]; omega)) only [go_sem, ↓reduceIte]
    rfl
  · simp
  · rintro i ⟨hi, hn⟩
    simp (config := { maxSteps := 1000000 }) (disch := first | omega | (simp only [go_sem]; omega)) only [go_sem, ↓reduceIte, c_r07_has_b6]
    refine bran_dec (fun c => ?_) (fun c => ?_)
    · have hm := mem_take (n := n) (l := l) (i := i) (by omega)
      simp (config := { maxSteps := 1000000 }) (disch := first | omega | (simp only [go_sem]; omega)) only [go_sem, ↓reduceIte]
      refine bran_dec (fun d => ?_) (fun d => ?_)
      · have : n ∈ l := by rw [← d]; exact gt_mem (by omega) (by omega)
        simp (config := { maxSteps := 1000000 }) (disch := first | omega | (simp only [go_sem]; omega)) only [go_sem, ↓reduceIte]
        simp [this]
      · simp (config := { maxSteps := 1000000 }) (disch := first | omega | (simp only [go_sem]; omega)) only [go_sem, ↓reduceIte]
        exact ⟨i + 1, by simp, ⟨by omega, fun h => by rcases hm.1 h with h | h; exact hn h; exact d h⟩, by omega⟩
    · obtain rfl : i = l.length := by omega
      rw [List.take_length] at hn
      simp (config := { maxSteps := 1000000 }) (disch := first | omega | (simp only [go_sem]; omega)) only [go_sem, ↓reduceIte]
      simp [hn]
theorem w_r07_into (hh : K_r07_has P F) (l p : List Int) (hl : l.length ≤ 10000) (hp : p.length ≤ maxL) : W P (c_r07_into F) (Done [.t 4] [] (.arr 1 (ints (intoL l p))) []) (init [.lst 1 (ints l), .lst 1 (ints p)]) := by
  refine W_of ?_
  simp (config := { maxSteps := 1000000 }) (disch := first | omega | (simp only [go_sem]; omega)) only [go_sem, ↓reduceIte]
  refine W_loop (fun i : Nat => ⟨[(0, .lst 1 (ints l)), (1, .lst 1 (ints p)), (5, .sl 0 0 (sel (fun i : Nat => decide (gt l i ∈ p)) i).length), (6, .int .i64 i)], [(0, .arr 1 (ints (sel (fun i : Nat => decide (gt l i ∈ p)) i)))], 1⟩) (fun i => i ≤ l.length) (fun i => l.length - i) 0 ?_ ?_ ?_
  · simp (config := { maxSteps := 1000000 }) (disch := first | omega | (simp only [go_sem]; omega)) only [go_sem, ↓reduceIte, sel_zero]
    rfl
  · simp
  · intro i hi
    have e1 := sel_len (fun i : Nat => decide (gt l i ∈ p)) i
    have hs := sel_succ (fun i : Nat => decide (gt l i ∈ p)) i
    simp (config := { maxSteps := 1000000 }) (disch := first | omega | (simp only [go_sem]; omega)) only [go_sem, ↓reduceIte, c_r07_into_b7]
    refine bran_dec (fun c => ?_) (fun c => ?_)
    · have r := hh p (gt l i) hp
      generalize decide (gt l i ∈ p) = b at *
      simp (config := { maxSteps := 1000000 }) (disch := first | omega | (simp only [go_sem]; omega)) only [go_sem, ↓reduceIte]
      refine call_by r ?_
      cases b
      · simp (config := { maxSteps := 1000000 }) (disch := first | omega | (simp only [go_sem]; omega)) only [go_sem, ↓reduceIte]
        exact ⟨i + 1, by simp [hs], by omega, by omega⟩
      · simp (config := { maxSteps := 1000000 }) (disch := first | omega | (simp only [go_sem]; omega)) only [go_sem, ↓reduceIte]
        exact ⟨i + 1, by simp [hs], by omega, by omega⟩
    · obtain rfl : i = l.length := by omega
      simp (config := { maxSteps := 1000000 }) (disch := first | omega | (simp only [go_sem]; omega)) only [go_sem, ↓reduceIte]
      try rfl
theorem w_r07_ascending (l : List Int) (n : Int) (hl : l.length ≤ maxL) (h0 : 0 ≤ n) (h1 : n ≤ 1000000) : W P (c_r07_ascending F) (Done [.t 4] [] (.int .i64 (ascG n none l)) []) (init [.lst 1 (ints l), .int .i64 n]) := by
  refine W_of ?_
  unfold maxL at hl
  simp (config := { maxSteps := 1000000 }) (disch := first | omega | (simp only [go_sem]; omega)) only [go_sem, ↓reduceIte]
  refine W_loop (fun i : Nat => ⟨[(0, .lst 1 (ints l)), (1, .int .i64 n), (5, .int .i64 i)], [], 0⟩) (fun i => i ≤ l.length ∧ ascG n none l = ascG n (prevO l i) (l.drop i)) (fun i => l.length - i) 0 ?_ ?_ ?_
  · simp (config := { maxSteps := 1000000 }) (disch := first | omega | (simp only [go_sem]; omega)) only [go_sem, ↓reduceIte]
    rfl
  · simp [prevO]
  · intro i hi
    simp (config := { maxSteps := 1000000 }) (disch := first | omega | (simp only [go_sem]; omega)) only [go_sem, ↓reduceIte, c_r07_ascending_b8]
    refine bran_dec (fun a => ?_) (fun a => ?_)
    · have hs := asc_step n l i (by omega)
      simp (config := { maxSteps := 1000000 }) (disch := first | omega | (simp only [go_sem]; omega)) only [go_sem, ↓reduceIte]
      refine bran_dec (fun b => ?_) (fun b => ?_)
      · simp (config := { maxSteps := 1000000 }) (disch := first | omega | (simp only [go_sem]; omega)) only [go_sem, ↓reduceIte, b]
        rw [hi.2, hs, if_neg (by omega)]
      · simp (config := { maxSteps := 1000000 }) (disch := first | omega | (simp only [go_sem]; omega)) only [go_sem, ↓reduceIte, b]
        refine bran_dec (fun b2 => ?_) (fun b2 => ?_)
        · simp (config := { maxSteps := 1000000 }) (disch := first | omega | (simp only [go_sem]; omega)) only [go_sem, ↓reduceIte]
          rw [hi.2, hs, if_neg (by omega)]
        · rw [if_pos (by omega)] at hs
          simp (config := { maxSteps := 1000000 }) (disch := first | omega | (simp only [go_sem]; omega)) only [go_sem, ↓reduceIte]
          refine bran_dec (fun c => ?_) (fun c => ?_)
          · simp (config := { maxSteps := 1000000 }) (disch := first | omega | (simp only [go_sem]; omega)) only [go_sem, ↓reduceIte, c]
            refine bran_dec (fun d => ?_) (fun d => ?_)
            · simp (config := { maxSteps := 1000000 }) (disch := first | omega | (simp only [go_sem]; omega)) only [go_sem, ↓reduceIte]
              rw [hi.2, hs, if_pos ⟨by omega, d⟩]
            · simp (config := { maxSteps := 1000000 }) (disch := first | omega | (simp only [go_sem]; omega)) only [go_sem, ↓reduceIte]
              exact ⟨i + 1, by simp, ⟨by omega, by rw [hi.2, hs, if_neg (fun e => d e.2)]⟩, by omega⟩
          · simp (config := { maxSteps := 1000000 }) (disch := first | omega | (simp only [go_sem]; omega)) only [go_sem, ↓reduceIte, c]
            exact ⟨i + 1, by simp, ⟨by omega, by rw [hi.2, hs, if_neg (fun e => by omega)]⟩, by omega⟩
    · simp (config := { maxSteps := 1000000 }) (disch := first | omega | (simp only [go_sem]; omega)) only [go_sem, ↓reduceIte]
      rw [hi.2, List.drop_of_length_le (by omega)]
      rfl
theorem w_r07_Right (hl : K_r07_ascending P F) (hh : K_r07_has P F) (g : G) (p : Mo) (hv : validG g = 0) (h1 : p.n.length ≤ maxL) (h2 : p.e.length ≤ maxL) : W P (c_r07_Right F) (Done [.t 4] [] (.int .i64 (rightP g p)) []) (init [gD g, mD p]) := by
  refine W_of ?_
  have vs := valid_spec hv
  have r1 := hl p.n g.n.length h1 (by omega) (by omega)
  have r2 := hl p.e g.e.length h2 (by omega) (by omega)
  have hR : rightP g p = if ascG g.n.length none p.n ≠ 0 then ascG g.n.length none p.n else if ascG g.e.length none p.e ≠ 0 then ascG g.e.length none p.e else if dangP g p = true then 14 else 0 := rfl
  rw [hR]
  by_cases c1 : ascG g.n.length none p.n = 0
  case neg =>
    rw [if_pos c1]
    generalize ascG g.n.length none p.n = v at *
    simp only [gD, mD] at *
    simp (config := { maxSteps := 1000000 }) (disch := first | omega | (simp only [go_sem]; omega)) only [go_sem, ↓reduceIte]
    refine call_by r1 ?_
    simp (config := { maxSteps := 1000000 }) (disch := first | omega | (simp only [go_sem]; omega)) only [go_sem, ↓reduceIte, c1]
  rw [if_neg (by simp [c1])]
  by_cases c2 : ascG g.e.length none p.e = 0
  case neg =>
    rw [if_pos c2]
    rw [c1] at r1
    generalize ascG g.e.length none p.e = v at *
    simp only [gD, mD] at *
    simp (config := { maxSteps := 1000000 }) (disch := first | omega | (simp only [go_sem]; omega)) only [go_sem, ↓reduceIte]
    refine call_by r1 ?_
    simp (config := { maxSteps := 1000000 }) (disch := first | omega | (simp only [go_sem]; omega)) only [go_sem, ↓reduceIte]
    refine call_by r2 ?_
    simp (config := { maxSteps := 1000000 }) (disch := first | omega | (simp only [go_sem]; omega)) only [go_sem, ↓reduceIte, c2]
  rw [if_neg (by simp [c2])]
  have a1 := ascG_iff.1 c1
  have a2 := ascG_iff.1 c2
  have q1 := asc_len a1
  have q2 := asc_len a2
  rw [c1] at r1
  rw [c2] at r2
  have hD : dangP g p = p.e.any fun x => !(decide ((gt g.e x).f ∈ p.n) && decide ((gt g.e x).o ∈ p.n)) := rfl
  have hx := fun x => hh p.n x (by unfold maxL; omega)
  clear hR c1 c2
  obtain ⟨gn, ge⟩ := g
  obtain ⟨pn, pe⟩ := p
  simp only [gD, mD] at *
  simp (config := { maxSteps := 1000000 }) (disch := first | omega | (simp only [go_sem]; omega)) only [go_sem, ↓reduceIte]
  refine call_by r1 ?_
  simp (config := { maxSteps := 1000000 }) (disch := first | omega | (simp only [go_sem]; omega)) only [go_sem, ↓reduceIte]
  refine call_by r2 ?_
  simp (config := { maxSteps := 1000000 }) (disch := first | omega | (simp only [go_sem]; omega)) only [go_sem, ↓reduceIte]
  refine W_loop (fun i : Nat => ⟨[(2, .pt 0 0), (3, .pt 1 0), (7, .int .i64 i)], [(0, .box [.lst 1 (ints gn), .lst 3 (eds ge)]), (1, .box [.lst 1 (ints pn), .lst 1 (ints pe)])], 2⟩) (fun i => i ≤ pe.length ∧ ∀ k : Nat, k < i → (gt ge (gt pe k)).f ∈ pn ∧ (gt ge (gt pe k)).o ∈ pn) (fun i => pe.length - i) 0 ?_ ?_ ?_
  · simp (config := { maxSteps := 1000000 }) (disch := first | omega | (simp only [go_sem]; omega)) only [go_sem, ↓reduceIte]
    rfl
  · exact ⟨by omega, fun k hk => by omega⟩
  · rintro i ⟨hi, hk⟩
    by_cases c : i < pe.length
    · have g1 : decide ((i : Int) < pe.length) = true := decide_eq_true (by omega)
      have hb := a2.b _ (gt_mem (l := pe) (j := i) (by omega) (by omega))
      have x1 := hx (gt ge (gt pe i)).f
      have x2 := hx (gt ge (gt pe i)).o
      by_cases d1 : (gt ge (gt pe i)).f ∈ pn
      · rw [decide_eq_true d1] at x1
        by_cases d2 : (gt ge (gt pe i)).o ∈ pn
        · rw [decide_eq_true d2] at x2
          simp (config := { maxSteps := 1000000 }) (disch := first | omega | (simp only [go_sem]; omega)) only [go_sem, ↓reduceIte, c_r07_Right_b13, g1]
          refine call_by x1 ?_
          simp (config := { maxSteps := 1000000 }) (disch := first | omega | (simp only [go_sem]; omega)) only [go_sem, ↓reduceIte]
          refine call_by x2 ?_
          simp (config := { maxSteps := 1000000 }) (disch := first | omega | (simp only [go_sem]; omega)) only [go_sem, ↓reduceIte]
          refine ⟨i + 1, by simp, ⟨by omega, fun k h => ?_⟩, by omega⟩
          by_cases e : k = i
          · subst e; exact ⟨d1, d2⟩
          · exact hk k (by omega)
        · rw [decide_eq_false d2] at x2
          have hdt : dangP ⟨gn, ge⟩ ⟨pn, pe⟩ = true := by
            rw [hD, List.any_eq_true]
            exact ⟨_, gt_mem (l := pe) (j := i) (by omega) (by omega), by simp [d2]⟩
          rw [hdt]
          simp (config := { maxSteps := 1000000 }) (disch := first | omega | (simp only [go_sem]; omega)) only [go_sem, ↓reduceIte, c_r07_Right_b13, g1]
          refine call_by x1 ?_
          simp (config := { maxSteps := 1000000 }) (disch := first | omega | (simp only [go_sem]; omega)) only [go_sem, ↓reduceIte]
          refine call_by x2 ?_
          simp (config := { maxSteps := 1000000 }) (disch := first | omega | (simp only [go_sem]; omega)) only [go_sem, ↓reduceIte]
          try rfl
      · rw [decide_eq_false d1] at x1
        have hdt : dangP ⟨gn, ge⟩ ⟨pn, pe⟩ = true := by
          rw [hD, List.any_eq_true]
          exact ⟨_, gt_mem (l := pe) (j := i) (by omega) (by omega), by simp [d1]⟩
        rw [hdt]
        simp (config := { maxSteps := 1000000 }) (disch := first | omega | (simp only [go_sem]; omega)) only [go_sem, ↓reduceIte, c_r07_Right_b13, g1]
        refine call_by x1 ?_
        simp (config := { maxSteps := 1000000 }) (disch := first | omega | (simp only [go_sem]; omega)) only [go_sem, ↓reduceIte]
        try rfl
    · have g1 : decide ((i : Int) < pe.length) = false := decide_eq_false (by omega)
      obtain rfl : i = pe.length := by omega
      have hdt : dangP ⟨gn, ge⟩ ⟨pn, pe⟩ = false := by
        rw [hD, List.any_eq_false]
        intro x hx
        obtain ⟨k, k1, k2⟩ := mem_gt hx
        have := hk k k1
        rw [k2] at this
        simp [this]
      rw [hdt]
      simp (config := { maxSteps := 1000000 }) (disch := first | omega | (simp only [go_sem]; omega)) only [go_sem, ↓reduceIte, c_r07_Right_b13, g1]
      try rfl
theorem w_r07_Few (m : Mo) (n : Int) (h1 : m.n.length ≤ maxL) (h2 : m.e.length ≤ maxL) : W P (c_r07_Few F) (Done [.t 4] [] (.bool (fewM m n)) []) (init [mD m, .int .i64 n]) := by
  refine W_of ?_
  obtain ⟨mn, me⟩ := m
  simp only [maxL] at h1 h2
  simp (config := { maxSteps := 1000000 }) (disch := first | omega | (simp only [go_sem]; omega)) only [go_sem, ↓reduceIte, mD, fewM]
end
end Go.Am
namespace Go.Am
open Go
set_option linter.unusedVariables false
set_option linter.unusedSimpArgs false
def imR (a b : G) (m : Mo) : Mo × Int := if validM a b m ≠ 0 then (m0, validM a b m) else (⟨imgs m.n, imgs m.e⟩, 0)
def preE (a b : G) (m p : Mo) : Int := if validM a b m ≠ 0 then validM a b m else rightP b p
def preR (a b : G) (m p : Mo) : Mo × Int := if preE a b m p ≠ 0 then (m0, preE a b m p) else (⟨intoL m.n p.n, intoL m.e p.e⟩, 0)
section
theorem imgs_one {a : List Int} {n : Nat} (ha : ∀ x ∈ a, 0 ≤ x ∧ x < n) : imgs a = mrgL n a a false :=
  asc_ext (imgs_lt _) mrg_asc fun x => by
    rw [imgs_mem, mrg_mem]
    simp only [Bool.false_eq_true, if_false, or_self]
    exact ⟨fun h => ⟨ha x h, h⟩, fun h => h.2⟩
end
end Go.Am
namespace Go.Am
open Go
set_option linter.unusedVariables false
set_option linter.unusedSimpArgs false
attribute [local irreducible] W
/- r07.merged -/
def c_r07_merged_r0 (F : String → Nat) : List LI := [⟨some 8, .mov (.k (.nl 1)), none⟩]
def c_r07_merged_r1 (F : String → Nat) : List LI := [⟨some 9, .mov (.k (.nl 1)), none⟩]
def c_r07_merged_r2 (F : String → Nat) : List LI := [⟨some 10, .mov (.k (.int .i64 (0))), none⟩]
def c_r07_merged_r3 (F : String → Nat) : List LI := [⟨some 13, .mov (.t 10), none⟩,
  ⟨some 14, .mov (.t 0), none⟩,
  ⟨some 15, .bin .lss (.t 13) (.t 14), none⟩]
def c_r07_merged_r4 (F : String → Nat) : List LI := [⟨some 18, .mov (.t 1), none⟩,
  ⟨some 19, .mov (.t 10), none⟩,
  ⟨some 20, .call (F "r07.has") [.t 18, .t 19] [], none⟩,
  ⟨some 21, .mov (.t 2), none⟩,
  ⟨some 22, .mov (.t 10), none⟩,
  ⟨some 23, .call (F "r07.has") [.t 21, .t 22] [], none⟩,
  ⟨some 11, .mov (.t 20), none⟩,
  ⟨some 12, .mov (.t 23), none⟩]
def c_r07_merged_r5 (F : String → Nat) : List LI := [⟨some 24, .mov (.t 11), none⟩,
  ⟨some 25, .mov (.t 24), none⟩,
  ⟨some 26, .mov (.t 12), some (25, true)⟩,
  ⟨some 27, .pick (.t 25) (.t 26) (.k (.bool false)), none⟩,
  ⟨some 28, .mov (.t 27), none⟩,
  ⟨some 29, .mov (.t 3), some (28, false)⟩,
  ⟨some 30, .not (.t 29), some (28, false)⟩,
  ⟨some 31, .mov (.t 30), some (28, false)⟩,
  ⟨some 32, .mov (.t 11), some (31, true)⟩,
  ⟨some 33, .mov (.t 32), some (31, true)⟩,
  ⟨some 34, .mov (.t 12), some (33, false)⟩,
  ⟨some 35, .pick (.t 33) (.k (.bool true)) (.t 34), some (31, true)⟩,
  ⟨some 36, .pick (.t 31) (.t 35) (.k (.bool false)), some (28, false)⟩,
  ⟨some 37, .pick (.t 28) (.k (.bool true)) (.t 36), none⟩]
def c_r07_merged_r6 (F : String → Nat) : List LI := [⟨some 38, .mov (.t 9), none⟩,
  ⟨some 39, .mov (.t 10), none⟩,
  ⟨some 40, .buildSl 1 8 (.int .i64 (0)) 1 [(0, .t 39)], none⟩,
  ⟨some 41, .app 1 8 (.t 38) (.t 40), none⟩,
  ⟨some 9, .mov (.t 41), none⟩]
def c_r07_merged_r7 (F : String → Nat) : List LI := [⟨some 16, .mov (.t 10), none⟩,
  ⟨some 17, .bin .add (.t 16) (.k (.int .i64 (1))), none⟩,
  ⟨some 10, .mov (.t 17), none⟩]
def c_r07_merged_b8 (F : String → Nat) : LC := (.seq (.seq (.reg (c_r07_merged_r3 F) [0, 1, 2, 3, 9, 10, 15]) (.cond (.t 15) .skip (.exit 0))) (.seq (.block 1 (.seq (.reg (c_r07_merged_r4 F) [0, 1, 2, 3, 9, 10, 11, 12]) (.seq (.reg (c_r07_merged_r5 F) [0, 1, 2, 3, 9, 10, 37]) (.cond (.t 37) (.reg (c_r07_merged_r6 F) [0, 1, 2, 3, 9, 10]) .skip)))) (.reg (c_r07_merged_r7 F) [0, 1, 2, 3, 9, 10])))
def c_r07_merged_r9 (F : String → Nat) : List LI := [⟨some 42, .mov (.t 9), none⟩,
  ⟨some 8, .mov (.t 42), none⟩]
def c_r07_merged (F : String → Nat) : LC := (.seq (.reg (c_r07_merged_r0 F) [0, 1, 2, 3]) (.seq (.reg (c_r07_merged_r1 F) [0, 1, 2, 3, 9]) (.seq (.seq (.reg (c_r07_merged_r2 F) [0, 1, 2, 3, 9, 10]) (.block 0 (.loop [0, 1, 2, 3, 9, 10] (c_r07_merged_b8 F)))) (.seq (.reg (c_r07_merged_r9 F) [8]) .ret))))
def h_r07_merged : Hints := ⟨[], fun _ => [], tab [(0, [0, 1, 2, 3]), (1, [0, 1, 2, 3, 9]), (2, [0, 1, 2, 3, 9, 10]), (3, [0, 1, 2, 3, 9, 10, 15]), (4, [0, 1, 2, 3, 9, 10]), (5, [0, 1, 2, 3, 9, 10, 11, 12]), (6, [0, 1, 2, 3, 9, 10, 37]), (7, [0, 1, 2, 3, 9, 10]), (8, [8])], tab [(3, [0, 1, 2, 3, 9, 10])]⟩

/- subgraph.back -/
def c_subgraph_back_r0 (F : String → Nat) : List LI := [⟨some 4, .mov (.k (.nl 1)), none⟩]
def c_subgraph_back_r1 (F : String → Nat) : List LI := [⟨some 5, .mov (.k (.nl 1)), none⟩]
def c_subgraph_back_r2 (F : String → Nat) : List LI := [⟨some 8, .mov (.t 0), none⟩,
  ⟨some 9, .len (.t 8), none⟩,
  ⟨some 10, .mov (.k (.int .i64 (0))), none⟩]
def c_subgraph_back_r3 (F : String → Nat) : List LI := [⟨some 11, .bin .lss (.t 10) (.t 9), none⟩]
def c_subgraph_back_r4 (F : String → Nat) : List LI := [⟨some 12, .mov (.t 10), none⟩,
  ⟨some 13, .iad 1 (.t 8) (.t 10), none⟩,
  ⟨some 14, .load false 1 (.t 13), none⟩,
  ⟨some 6, .mov (.t 12), none⟩,
  ⟨some 7, .mov (.t 14), none⟩]
def c_subgraph_back_r5 (F : String → Nat) : List LI := [⟨some 15, .mov (.t 1), none⟩,
  ⟨some 16, .mov (.t 7), none⟩,
  ⟨some 17, .call (F "subgraph.has") [.t 15, .t 16] [], none⟩]
def c_subgraph_back_r6 (F : String → Nat) : List LI := [⟨some 18, .mov (.t 5), none⟩,
  ⟨some 19, .mov (.t 6), none⟩,
  ⟨some 20, .buildSl 1 8 (.int .i64 (0)) 1 [(0, .t 19)], none⟩,
  ⟨some 21, .app 1 8 (.t 18) (.t 20), none⟩,
  ⟨some 5, .mov (.t 21), none⟩]
def c_subgraph_back_r7 (F : String → Nat) : List LI := [⟨some 22, .bin .add (.t 10) (.k (.int .i64 (1))), none⟩,
  ⟨some 10, .mov (.t 22), none⟩]
def c_subgraph_back_b8 (F : String → Nat) : LC := (.seq (.reg (c_subgraph_back_r3 F) [1, 5, 8, 9, 10, 11]) (.seq (.cond (.t 11) .skip (.exit 0)) (.seq (.block 1 (.seq (.reg (c_subgraph_back_r4 F) [1, 5, 6, 7, 8, 9, 10]) (.seq (.reg (c_subgraph_back_r5 F) [1, 5, 6, 8, 9, 10, 17]) (.cond (.t 17) (.reg (c_subgraph_back_r6 F) [1, 5, 8, 9, 10]) .skip)))) (.reg (c_subgraph_back_r7 F) [1, 5, 8, 9, 10]))))
def c_subgraph_back_r9 (F : String → Nat) : List LI := [⟨some 23, .mov (.t 5), none⟩,
  ⟨some 4, .mov (.t 23), none⟩]
def c_subgraph_back (F : String → Nat) : LC := (.seq (.reg (c_subgraph_back_r0 F) [0, 1]) (.seq (.reg (c_subgraph_back_r1 F) [0, 1, 5]) (.seq (.seq (.reg (c_subgraph_back_r2 F) [1, 5, 8, 9, 10]) (.block 0 (.loop [1, 5, 8, 9, 10] (c_subgraph_back_b8 F)))) (.seq (.reg (c_subgraph_back_r9 F) [4]) .ret))))
def h_subgraph_back : Hints := ⟨[], fun _ => [], tab [(0, [0, 1]), (1, [0, 1, 5]), (2, [1, 5, 8, 9, 10]), (3, [1, 5, 8, 9, 10, 11]), (4, [1, 5, 6, 7, 8, 9, 10]), (5, [1, 5, 6, 8, 9, 10, 17]), (6, [1, 5, 8, 9, 10]), (7, [1, 5, 8, 9, 10]), (8, [4])], tab [(3, [1, 5, 8, 9, 10])]⟩

attribute [go_sem] c_r07_merged_r0 c_r07_merged_r1 c_r07_merged_r2 c_r07_merged_r3 c_r07_merged_r4 c_r07_merged_r5 c_r07_merged_r6 c_r07_merged_r7 c_r07_merged_r9 c_r07_merged c_subgraph_back_r0 c_subgraph_back_r1 c_subgraph_back_r2 c_subgraph_back_r3 c_subgraph_back_r4 c_subgraph_back_r5 c_subgraph_back_r6 c_subgraph_back_r7 c_subgraph_back_r9 c_subgraph_back
section
variable (P : Program) (F : String → Nat)
def K_r07_merged : Prop := ∀ (n : Nat) (a b : List Int) (all : Bool), n ≤ 1000 → a.length ≤ maxL → b.length ≤ maxL → FC P (F "r07.merged") [.int .i64 n, .lst 1 (ints a), .lst 1 (ints b), .bool all] (.arr 1 (ints (mrgL n a b all))) []
def K_subgraph_back : Prop := ∀ (l p : List Int), l.length ≤ 10000 → p.Pairwise (· < ·) → p.length ≤ 1000000 → FC P (F "subgraph.back") [.lst 1 (ints l), .lst 1 (ints p)] (.arr 1 (ints (intoL l p))) []
end
section
variable {P : Program} {F : String → Nat} {α : Type}
theorem w_r07_merged (hh : K_r07_has P F) (n : Nat) (a b : List Int) (all : Bool) (hn : n ≤ 1000) (h1 : a.length ≤ maxL) (h2 : b.length ≤ maxL) : W P (c_r07_merged F) (Done [.t 8] [] (.arr 1 (ints (mrgL n a b all))) []) (init [.int .i64 n, .lst 1 (ints a), .lst 1 (ints b), .bool all]) := by
  refine W_of ?_
  have hM : mrgL n a b all = sel (fun i : Nat => (inL a i && inL b i) || (!all && (inL a i || inL b i))) n := rfl
  have ss := sel_succ (fun i : Nat => (inL a i && inL b i) || (!all && (inL a i || inL b i)))
  have s0 := sel_zero (fun i : Nat => (inL a i && inL b i) || (!all && (inL a i || inL b i)))
  have sl := sel_len (fun i : Nat => (inL a i && inL b i) || (!all && (inL a i || inL b i)))
  have ra := fun i : Nat => hh a (i : Int) h1
  have rb := fun i : Nat => hh b (i : Int) h2
  have ea : ∀ i : Nat, decide ((i : Int) ∈ a) = inL a i := fun i => rfl
  have eb : ∀ i : Nat, decide ((i : Int) ∈ b) = inL b i := fun i => rfl
  rw [hM]
  clear hM
  generalize sel (fun i : Nat => (inL a i && inL b i) || (!all && (inL a i || inL b i))) = S at *
  simp (config := { maxSteps := 1000000 }) (disch := first | omega | (simp only [go_sem]; omega)) only [go_sem, ↓reduceIte]
  refine W_loop (fun i : Nat => ⟨[(0, .int .i64 n), (1, .lst 1 (ints a)), (2, .lst 1 (ints b)), (3, .bool all), (9, .sl 0 0 (S i).length), (10, .int .i64 i)], [(0, .arr 1 (ints (S i)))], 1⟩) (fun i => i ≤ n) (fun i => n - i) 0 ?_ ?_ ?_
  · simp (config := { maxSteps := 1000000 }) (disch := first | omega | (simp only [go_sem]; omega)) only [go_sem, ↓reduceIte, s0]
    rfl
  · simp
  · intro i hi
    have hl := sl i
    by_cases c : i < n
    · have d1 : decide ((i : Int) < n) = true := decide_eq_true (by omega)
      have r1 := ra i
      have r2 := rb i
      have st := ss i
      rw [ea i] at r1
      rw [eb i] at r2
      generalize inL a i = u at *
      generalize inL b i = v at *
      simp (config := { maxSteps := 1000000 }) (disch := first | omega | (simp only [go_sem]; omega)) only [go_sem, ↓reduceIte, c_r07_merged_b8, d1]
      refine call_by r1 ?_
      simp (config := { maxSteps := 1000000 }) (disch := first | omega | (simp only [go_sem]; omega)) only [go_sem, ↓reduceIte]
      refine call_by r2 ?_
      cases all <;> cases u <;> cases v
      all_goals
        simp only [Bool.and_self, Bool.and_false, Bool.false_and, Bool.or_self, Bool.or_false, Bool.or_true, Bool.true_or, Bool.not_true, Bool.not_false, Bool.true_and, Bool.and_true, Bool.false_or, if_true, if_false, Bool.false_eq_true] at st
        simp (config := { maxSteps := 1000000 }) (disch := first | omega | (simp only [go_sem]; omega)) only [go_sem, ↓reduceIte]
        exact ⟨i + 1, by simp [st], by omega, by omega⟩
    · have d1 : decide ((i : Int) < n) = false := decide_eq_false (by omega)
      obtain rfl : i = n := by omega
      simp (config := { maxSteps := 1000000 }) (disch := first | omega | (simp only [go_sem]; omega)) only [go_sem, ↓reduceIte, c_r07_merged_b8, d1]
theorem w_subgraph_back (hh : K_subgraph_has P F) (l p : List Int) (hl : l.length ≤ 10000) (hp : p.Pairwise (· < ·)) (hp2 : p.length ≤ 1000000) : W P (c_subgraph_back F) (Done [.t 4] [] (.arr 1 (ints (intoL l p))) []) (init [.lst 1 (ints l), .lst 1 (ints p)]) := by
  refine W_of ?_
  have ss := sel_succ (fun i : Nat => decide (gt l i ∈ p))
  have s0 := sel_zero (fun i : Nat => decide (gt l i ∈ p))
  have sl := sel_len (fun i : Nat => decide (gt l i ∈ p))
  have rh := fun x => hh p x hp hp2
  unfold intoL
  generalize sel (fun i : Nat => decide (gt l i ∈ p)) = S at *
  simp (config := { maxSteps := 1000000 }) (disch := first | omega | (simp only [go_sem]; omega)) only [go_sem, ↓reduceIte]
  refine W_loop (fun i : Nat => ⟨[(1, .lst 1 (ints p)), (5, .sl 0 0 (S i).length), (8, .lst 1 (ints l)), (9, .int .i64 l.length), (10, .int .i64 i)], [(0, .arr 1 (ints (S i)))], 1⟩) (fun i => i ≤ l.length) (fun i => l.length - i) 0 ?_ ?_ ?_
  · simp (config := { maxSteps := 1000000 }) (disch := first | omega | (simp only [go_sem]; omega)) only [go_sem, ↓reduceIte, s0]
    rfl
  · simp
  · intro i hi
    have hl2 := sl i
    by_cases c : i < l.length
    · have d1 : decide ((i : Int) < l.length) = true := decide_eq_true (by omega)
      have r1 := rh (gt l i)
      have st := ss i
      generalize decide (gt l i ∈ p) = u at *
      simp (config := { maxSteps := 1000000 }) (disch := first | omega | (simp only [go_sem]; omega)) only [go_sem, ↓reduceIte, c_subgraph_back_b8, d1]
      refine call_by r1 ?_
      cases u
      all_goals
        simp only [if_true, if_false, Bool.false_eq_true] at st
        simp (config := { maxSteps := 1000000 }) (disch := first | omega | (simp only [go_sem]; omega)) only [go_sem, ↓reduceIte]
        exact ⟨i + 1, by simp [st], by omega, by omega⟩
    · have d1 : decide ((i : Int) < l.length) = false := decide_eq_false (by omega)
      obtain rfl : i = l.length := by omega
      simp (config := { maxSteps := 1000000 }) (disch := first | omega | (simp only [go_sem]; omega)) only [go_sem, ↓reduceIte, c_subgraph_back_b8, d1]
end
end Go.Am
namespace Go.Am
open Go
set_option linter.unusedVariables false
set_option linter.unusedSimpArgs false
attribute [local irreducible] W
/- subgraph.Preimage -/
def c_subgraph_Preimage_r0 (F : String → Nat) : List LI := [⟨some 4, .bx (.t 0), none⟩,
  ⟨some 5, .bx (.t 1), none⟩,
  ⟨some 6, .bx (.t 2), none⟩,
  ⟨some 7, .bx (.t 3), none⟩,
  ⟨some 8, .alloc [.nl 1, .nl 1], none⟩,
  ⟨some 9, .mov (.k (.int .i64 (0))), none⟩]
def c_subgraph_Preimage_r1 (F : String → Nat) : List LI := [⟨some 12, .load true 2 (.t 4), none⟩,
  ⟨some 13, .load true 2 (.t 5), none⟩,
  ⟨some 14, .load true 2 (.t 6), none⟩,
  ⟨some 15, .call (F "morphism.Valid") [.t 12, .t 13, .t 14] [], none⟩,
  ⟨some 10, .mov (.t 15), none⟩]
def c_subgraph_Preimage_r2 (F : String → Nat) : List LI := [⟨some 16, .mov (.t 10), none⟩,
  ⟨some 17, .bin .neq (.t 16) (.k (.int .i64 (0))), none⟩]
def c_subgraph_Preimage_r3 (F : String → Nat) : List LI := [⟨some 18, .build [.nl 1, .nl 1] [], none⟩,
  ⟨some 19, .mov (.t 10), none⟩,
  ⟨none, .store 2 (.t 8) (.t 18), none⟩,
  ⟨some 9, .mov (.t 19), none⟩]
def c_subgraph_Preimage_r4 (F : String → Nat) : List LI := [⟨some 20, .load true 2 (.t 5), none⟩,
  ⟨some 21, .load true 2 (.t 7), none⟩,
  ⟨some 22, .call (F "subgraph.part") [.t 20, .t 21] [], none⟩,
  ⟨some 11, .mov (.t 22), none⟩]
def c_subgraph_Preimage_r5 (F : String → Nat) : List LI := [⟨some 23, .mov (.t 11), none⟩,
  ⟨some 24, .bin .neq (.t 23) (.k (.int .i64 (0))), none⟩]
def c_subgraph_Preimage_r6 (F : String → Nat) : List LI := [⟨some 25, .build [.nl 1, .nl 1] [], none⟩,
  ⟨some 26, .mov (.t 11), none⟩,
  ⟨none, .store 2 (.t 8) (.t 25), none⟩,
  ⟨some 9, .mov (.t 26), none⟩]
def c_subgraph_Preimage_r7 (F : String → Nat) : List LI := [⟨some 27, .fad 0 (.t 6), none⟩,
  ⟨some 28, .load false 1 (.t 27), none⟩,
  ⟨some 29, .fad 0 (.t 7), none⟩,
  ⟨some 30, .load false 1 (.t 29), none⟩,
  ⟨some 31, .call (F "subgraph.back") [.t 28, .t 30] [], none⟩,
  ⟨some 32, .fad 1 (.t 6), none⟩,
  ⟨some 33, .load false 1 (.t 32), none⟩,
  ⟨some 34, .fad 1 (.t 7), none⟩,
  ⟨some 35, .load false 1 (.t 34), none⟩,
  ⟨some 36, .call (F "subgraph.back") [.t 33, .t 35] [], none⟩,
  ⟨some 37, .build [.nl 1, .nl 1] [(0, 1, .t 31), (1, 1, .t 36)], none⟩,
  ⟨none, .store 2 (.t 8) (.t 37), none⟩,
  ⟨some 9, .mov (.k (.int .i64 (0))), none⟩]
def c_subgraph_Preimage (F : String → Nat) : LC := (.seq (.reg (c_subgraph_Preimage_r0 F) [4, 5, 6, 7, 8]) (.seq (.seq (.reg (c_subgraph_Preimage_r1 F) [5, 6, 7, 8, 10]) (.seq (.reg (c_subgraph_Preimage_r2 F) [5, 6, 7, 8, 10, 17]) (.cond (.t 17) (.seq (.reg (c_subgraph_Preimage_r3 F) [8, 9]) .ret) .skip))) (.seq (.seq (.reg (c_subgraph_Preimage_r4 F) [6, 7, 8, 11]) (.seq (.reg (c_subgraph_Preimage_r5 F) [6, 7, 8, 11, 24]) (.cond (.t 24) (.seq (.reg (c_subgraph_Preimage_r6 F) [8, 9]) .ret) .skip))) (.seq (.dreg [(4, none, [], true), (6, (some 32), [4], false), (8, (some 128), [4], false)] (c_subgraph_Preimage_r7 F) [8, 9]) .ret))))
def h_subgraph_Preimage : Hints := ⟨[], fun _ => [], tab [(0, [4, 5, 6, 7, 8]), (1, [5, 6, 7, 8, 10]), (2, [5, 6, 7, 8, 10, 17]), (3, [8, 9]), (4, [6, 7, 8, 11]), (5, [6, 7, 8, 11, 24]), (6, [8, 9]), (7, [8, 9])], tab []⟩

/- subgraph.Image -/
def c_subgraph_Image_r0 (F : String → Nat) : List LI := [⟨some 3, .bx (.t 0), none⟩,
  ⟨some 4, .bx (.t 1), none⟩,
  ⟨some 5, .bx (.t 2), none⟩,
  ⟨some 6, .alloc [.nl 1, .nl 1], none⟩,
  ⟨some 7, .mov (.k (.int .i64 (0))), none⟩]
def c_subgraph_Image_r1 (F : String → Nat) : List LI := [⟨some 9, .load true 2 (.t 3), none⟩,
  ⟨some 10, .load true 2 (.t 4), none⟩,
  ⟨some 11, .load true 2 (.t 5), none⟩,
  ⟨some 12, .call (F "morphism.Valid") [.t 9, .t 10, .t 11] [], none⟩,
  ⟨some 8, .mov (.t 12), none⟩]
def c_subgraph_Image_r2 (F : String → Nat) : List LI := [⟨some 13, .mov (.t 8), none⟩,
  ⟨some 14, .bin .neq (.t 13) (.k (.int .i64 (0))), none⟩]
def c_subgraph_Image_r3 (F : String → Nat) : List LI := [⟨some 15, .build [.nl 1, .nl 1] [], none⟩,
  ⟨some 16, .mov (.t 8), none⟩,
  ⟨none, .store 2 (.t 6) (.t 15), none⟩,
  ⟨some 7, .mov (.t 16), none⟩]
def c_subgraph_Image_r4 (F : String → Nat) : List LI := [⟨some 17, .fad 0 (.t 5), none⟩,
  ⟨some 18, .load false 1 (.t 17), none⟩,
  ⟨some 19, .call (F "slices.Clone.I") [.t 18] [], none⟩,
  ⟨some 20, .call (F "subgraph.sorted") [.t 19] [.ow], none⟩,
  ⟨some 21, .fad 1 (.t 5), none⟩,
  ⟨some 22, .load false 1 (.t 21), none⟩,
  ⟨some 23, .call (F "slices.Clone.I") [.t 22] [], none⟩,
  ⟨some 24, .call (F "subgraph.sorted") [.t 23] [.ow], none⟩,
  ⟨some 25, .build [.nl 1, .nl 1] [(0, 1, .t 20), (1, 1, .t 24)], none⟩,
  ⟨none, .store 2 (.t 6) (.t 25), none⟩,
  ⟨some 7, .mov (.k (.int .i64 (0))), none⟩]
def c_subgraph_Image (F : String → Nat) : LC := (.seq (.reg (c_subgraph_Image_r0 F) [3, 4, 5, 6]) (.seq (.seq (.reg (c_subgraph_Image_r1 F) [5, 6, 8]) (.seq (.reg (c_subgraph_Image_r2 F) [5, 6, 8, 14]) (.cond (.t 14) (.seq (.reg (c_subgraph_Image_r3 F) [6, 7]) .ret) .skip))) (.seq (.dreg [(2, none, [], true), (3, none, [], true), (5, (some 16), [2, 3], false)] (c_subgraph_Image_r4 F) [6, 7]) .ret)))
def h_subgraph_Image : Hints := ⟨[], fun _ => [], tab [(0, [3, 4, 5, 6]), (1, [5, 6, 8]), (2, [5, 6, 8, 14]), (3, [6, 7]), (4, [6, 7])], tab []⟩

attribute [go_sem] c_subgraph_Preimage_r0 c_subgraph_Preimage_r1 c_subgraph_Preimage_r2 c_subgraph_Preimage_r3 c_subgraph_Preimage_r4 c_subgraph_Preimage_r5 c_subgraph_Preimage_r6 c_subgraph_Preimage_r7 c_subgraph_Preimage c_subgraph_Image_r0 c_subgraph_Image_r1 c_subgraph_Image_r2 c_subgraph_Image_r3 c_subgraph_Image_r4 c_subgraph_Image
section
variable (P : Program) (F : String → Nat)
def K_subgraph_Preimage : Prop := ∀ (a b : G) (m p : Mo), p.sm → FC P (F "subgraph.Preimage") [gD a, gD b, mD m, mD p] (.tup [mA (preR a b m p).1, .int .i64 (preR a b m p).2]) []
def K_subgraph_Image : Prop := ∀ (a b : G) (m : Mo), FC P (F "subgraph.Image") [gD a, gD b, mD m] (.tup [mA (imR a b m).1, .int .i64 (imR a b m).2]) []
end
section
variable {P : Program} {F : String → Nat} {α : Type}
theorem w_subgraph_Preimage (hv : K_morphism_Valid P F) (hp : K_subgraph_part P F) (hb : K_subgraph_back P F) (a b : G) (m p : Mo) (h1 : p.sm) : W P (c_subgraph_Preimage F) (Done [.c 8 true 2, .t 9] [] (.tup [mA (preR a b m p).1, .int .i64 (preR a b m p).2]) []) (init [gD a, gD b, mD m, mD p]) := by
  refine W_of ?_
  have r1 := hv a b m
  have hR : preR a b m p = if preE a b m p ≠ 0 then (m0, preE a b m p) else (⟨intoL m.n p.n, intoL m.e p.e⟩, 0) := rfl
  have hE : preE a b m p = if validM a b m ≠ 0 then validM a b m else rightP b p := rfl
  by_cases c : validM a b m = 0
  case neg =>
    rw [if_pos c] at hE
    rw [hR, hE]
    clear hR hE
    generalize validM a b m = v at *
    simp only [gD, mD] at *
    simp (config := { maxSteps := 1000000 }) (disch := first | omega | (simp only [go_sem]; omega)) only [go_sem, ↓reduceIte]
    refine call_by r1 ?_
    simp (config := { maxSteps := 1000000 }) (disch := first | omega | (simp only [go_sem]; omega)) only [go_sem, ↓reduceIte]
    refine bran_ndec (fun c1 => ?_) (fun c1 => absurd c1 c)
    simp (config := { maxSteps := 1000000 }) (disch := first | omega | (simp only [go_sem]; omega)) only [go_sem, ↓reduceIte]
    simp [c, mA, m0, ints]
  rw [if_neg (by simp [c])] at hE
  rw [hR, hE]
  clear hR hE
  have hm := mok.1 c
  have r2 := hp b p hm.vb h1.1 h1.2
  have va := valid_spec hm.va
  have hk : rightP b p = 0 → PK b p := fun h => (validP_ok (g := b) (p := p)).1 (by unfold validP; rw [if_neg (by rw [hm.vb]; simp)]; exact h)
  have r3 : rightP b p = 0 → _ := fun h => hb m.n p.n (by have := hm.ln; omega) (hk h).n.p (by have := (hk h).len; omega)
  have r4 : rightP b p = 0 → _ := fun h => hb m.e p.e (by have := hm.le; omega) (hk h).e.p (by have := (hk h).len; omega)
  clear hk va hm
  generalize validM a b m = v0 at *
  generalize rightP b p = v at *
  generalize intoL m.n p.n = y1 at *
  generalize intoL m.e p.e = y2 at *
  simp only [gD, mD] at *
  simp (config := { maxSteps := 1000000 }) (disch := first | omega | (simp only [go_sem]; omega)) only [go_sem, ↓reduceIte]
  refine call_by r1 ?_
  simp (config := { maxSteps := 1000000 }) (disch := first | omega | (simp only [go_sem]; omega)) only [go_sem, ↓reduceIte]
  refine bran_ndec (fun c1 => absurd c c1) (fun _ => ?_)
  simp (config := { maxSteps := 1000000 }) (disch := first | omega | (simp only [go_sem]; omega)) only [go_sem, ↓reduceIte]
  refine call_by r2 ?_
  simp (config := { maxSteps := 1000000 }) (disch := first | omega | (simp only [go_sem]; omega)) only [go_sem, ↓reduceIte]
  refine bran_ndec (fun c1 => ?_) (fun c1 => ?_)
  · simp (config := { maxSteps := 1000000 }) (disch := first | omega | (simp only [go_sem]; omega)) only [go_sem, ↓reduceIte]
    simp [c1, mA, m0, ints]
  · have r3 := r3 c1
    have r4 := r4 c1
    simp (config := { maxSteps := 1000000 }) (disch := first | omega | (simp only [go_sem]; omega)) only [go_sem, ↓reduceIte]
    refine call_by r3 ?_
    simp (config := { maxSteps := 1000000 }) (disch := first | omega | (simp only [go_sem]; omega)) only [go_sem, ↓reduceIte]
    refine call_by r4 ?_
    simp (config := { maxSteps := 1000000 }) (disch := first | omega | (simp only [go_sem]; omega)) only [go_sem, ↓reduceIte]
    simp [c1, mA]
end
end Go.Am
