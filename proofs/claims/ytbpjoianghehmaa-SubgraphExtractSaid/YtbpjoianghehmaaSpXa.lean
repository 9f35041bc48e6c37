/- Drafts of graphs; what laws take. -/
/- Morphisms: validity, comparison, composition. -/
/- Pairs of numbers; injective morphisms. -/
/- Lists of bools as data; ascending lists; parts of graphs, plain. -/
/- Parts of graphs: whether they are right; membership. -/
/- Closing of parts; Dangling, Identified, Of and Check of complements. -/
/- Parts by bits; cases of descriptions; the law ComplementCovers. -/
/- Graphs of parts. -/
/- Unions, intersections, images and boundaries of parts, plain. -/
/- The reference's Join and Meet; Preimage and Image. -/
import Derived.Test.YtbpjoianghehmaaSpPa
import Derived.Test.YtbpjoianghehmaaSpPb
import Derived.Test.YtbpjoianghehmaaSpPc
import Derived.Test.YtbpjoianghehmaaAmRu
namespace Go.Am
open Go
set_option linter.unusedVariables false
set_option linter.unusedSimpArgs false
section
variable (P : Program) (F : String → Nat)
end
def shI : Sh := .int .i64
def shIs : Sh := .slc 1 8 shI
def shE : Sh := .cat [shI, shI, shI]
def shG : Sh := .cat [shIs, .slc 3 24 shE]
theorem rd_int {x : D} (h : HasEl shI x) : ∃ n : Int, x = .int .i64 n ∧ IntKind.i64.min ≤ n ∧ n ≤ IntKind.i64.max := by
  simpa only [shI, HasEl] using h
theorem rd_intl : ∀ {xs : List D}, (∀ y ∈ xs, HasEl shI y) → ∃ l : List Int, xs = ints l
  | [], _ => ⟨[], rfl⟩
  | x :: xs, h => by
    obtain ⟨l, rfl⟩ := rd_intl (xs := xs) fun y hy => h y (by simp [hy])
    obtain ⟨n, rfl, _⟩ := rd_int (h x (by simp))
    exact ⟨n :: l, rfl⟩
theorem rd_ints {x : D} (h : HasEl shIs x) : ∃ l : List Int, x = .lst 1 (ints l) ∧ l.length ≤ 20000000000000 := by
  simp only [shIs, HasEl] at h
  obtain ⟨xs, rfl, h1, h2⟩ := h
  obtain ⟨l, rfl⟩ := rd_intl h2
  refine ⟨l, rfl, ?_⟩
  rw [ints_length] at h1
  unfold reachBytes at h1
  omega
theorem rd_edge {x : D} (h : HasEl shE x) : ∃ e : E, x = edD e := by
  simp only [shE, HasEl] at h
  obtain ⟨ds, rfl, h⟩ := h
  simp only [shI, HasShs, HasEl] at h
  obtain ⟨_, _, rfl, ⟨a, rfl, _⟩, _, _, rfl, ⟨b, rfl, _⟩, _, _, rfl, ⟨c, rfl, _⟩, rfl⟩ := h
  exact ⟨⟨a, b, c⟩, rfl⟩
theorem rd_edl : ∀ {xs : List D}, (∀ y ∈ xs, HasEl shE y) → ∃ l : List E, xs = eds l
  | [], _ => ⟨[], rfl⟩
  | x :: xs, h => by
    obtain ⟨l, rfl⟩ := rd_edl (xs := xs) fun y hy => h y (by simp [hy])
    obtain ⟨n, rfl⟩ := rd_edge (h x (by simp))
    exact ⟨n :: l, rfl⟩
theorem rd_graph {x : D} (h : HasEl shG x) : ∃ g : G, x = gD g := by
  simp only [shG, HasEl] at h
  obtain ⟨ds, rfl, h⟩ := h
  have h' : ∃ a b, ds = a :: b ∧ HasEl shIs a ∧ HasShs [.slc 3 24 shE] b := by simpa only [shIs, HasShs] using h
  obtain ⟨a, _, rfl, h1, h'⟩ := h'
  obtain ⟨l, rfl, _⟩ := rd_ints h1
  simp only [HasShs, HasEl] at h'
  obtain ⟨_, _, rfl, ⟨xs, rfl, _, h3⟩, rfl⟩ := h'
  obtain ⟨es, rfl⟩ := rd_edl h3
  exact ⟨⟨l, es⟩, rfl⟩
section
variable {P : Program} {F : String → Nat} {α : Type}
end
end Go.Am
namespace Go.Am
open Go
set_option linter.unusedVariables false
set_option linter.unusedSimpArgs false
/- morphism.Valid -/
def c_morphism_Valid_r0 (F : String → Nat) : List LI := [⟨some 3, .bx (.t 0), none⟩,
  ⟨some 4, .bx (.t 1), none⟩,
  ⟨some 5, .bx (.t 2), none⟩,
  ⟨some 6, .mov (.k (.int .i64 (0))), none⟩]
def c_morphism_Valid_r1 (F : String → Nat) : List LI := [⟨some 15, .load true 2 (.t 3), none⟩,
  ⟨some 16, .call (F "graph.Valid") [.t 15] [], none⟩,
  ⟨some 7, .mov (.t 16), none⟩]
def c_morphism_Valid_r2 (F : String → Nat) : List LI := [⟨some 17, .mov (.t 7), none⟩,
  ⟨some 18, .bin .neq (.t 17) (.k (.int .i64 (0))), none⟩]
def c_morphism_Valid_r3 (F : String → Nat) : List LI := [⟨some 19, .mov (.t 7), none⟩,
  ⟨some 6, .mov (.t 19), none⟩]
def c_morphism_Valid_r4 (F : String → Nat) : List LI := [⟨some 20, .load true 2 (.t 4), none⟩,
  ⟨some 21, .call (F "graph.Valid") [.t 20] [], none⟩,
  ⟨some 8, .mov (.t 21), none⟩]
def c_morphism_Valid_r5 (F : String → Nat) : List LI := [⟨some 22, .mov (.t 8), none⟩,
  ⟨some 23, .bin .neq (.t 22) (.k (.int .i64 (0))), none⟩]
def c_morphism_Valid_r6 (F : String → Nat) : List LI := [⟨some 24, .mov (.t 8), none⟩,
  ⟨some 6, .mov (.t 24), none⟩]
def c_morphism_Valid_r7 (F : String → Nat) : List LI := [⟨some 25, .fad 0 (.t 5), none⟩,
  ⟨some 26, .load false 1 (.t 25), none⟩,
  ⟨some 27, .len (.t 26), none⟩,
  ⟨some 28, .fad 0 (.t 3), none⟩,
  ⟨some 29, .load false 1 (.t 28), none⟩,
  ⟨some 30, .len (.t 29), none⟩,
  ⟨some 31, .bin .neq (.t 27) (.t 30), none⟩,
  ⟨some 32, .mov (.t 31), none⟩,
  ⟨some 33, .fad 1 (.t 5), some (32, false)⟩,
  ⟨some 34, .load false 1 (.t 33), some (32, false)⟩,
  ⟨some 35, .len (.t 34), some (32, false)⟩,
  ⟨some 36, .fad 1 (.t 3), some (32, false)⟩,
  ⟨some 37, .load false 1 (.t 36), some (32, false)⟩,
  ⟨some 38, .len (.t 37), some (32, false)⟩,
  ⟨some 39, .bin .neq (.t 35) (.t 38), some (32, false)⟩,
  ⟨some 40, .pick (.t 32) (.k (.bool true)) (.t 39), none⟩]
def c_morphism_Valid_r8 (F : String → Nat) : List LI := [⟨some 6, .mov (.k (.int .i64 (20))), none⟩]
def c_morphism_Valid_r9 (F : String → Nat) : List LI := [⟨some 41, .fad 0 (.t 5), none⟩,
  ⟨some 42, .load false 1 (.t 41), none⟩,
  ⟨some 43, .len (.t 42), none⟩,
  ⟨some 44, .mov (.k (.int .i64 (0))), none⟩]
def c_morphism_Valid_r10 (F : String → Nat) : List LI := [⟨some 45, .bin .lss (.t 44) (.t 43), none⟩]
def c_morphism_Valid_r11 (F : String → Nat) : List LI := [⟨some 46, .mov (.t 44), none⟩,
  ⟨some 47, .iad 1 (.t 42) (.t 44), none⟩,
  ⟨some 48, .load false 1 (.t 47), none⟩,
  ⟨some 9, .mov (.t 46), none⟩,
  ⟨some 10, .mov (.t 48), none⟩]
def c_morphism_Valid_r12 (F : String → Nat) : List LI := [⟨some 49, .mov (.t 10), none⟩,
  ⟨some 50, .bin .lss (.t 49) (.k (.int .i64 (0))), none⟩,
  ⟨some 51, .mov (.t 50), none⟩,
  ⟨some 52, .mov (.t 10), some (51, false)⟩,
  ⟨some 53, .fad 0 (.t 4), some (51, false)⟩,
  ⟨some 54, .load false 1 (.t 53), some (51, false)⟩,
  ⟨some 55, .len (.t 54), some (51, false)⟩,
  ⟨some 56, .bin .geq (.t 52) (.t 55), some (51, false)⟩,
  ⟨some 57, .pick (.t 51) (.k (.bool true)) (.t 56), none⟩]
def c_morphism_Valid_r13 (F : String → Nat) : List LI := [⟨some 6, .mov (.k (.int .i64 (6))), none⟩]
def c_morphism_Valid_r14 (F : String → Nat) : List LI := [⟨some 58, .fad 0 (.t 4), none⟩,
  ⟨some 59, .load false 1 (.t 58), none⟩,
  ⟨some 60, .mov (.t 10), none⟩,
  ⟨some 61, .iad 1 (.t 59) (.t 60), none⟩,
  ⟨some 62, .load false 1 (.t 61), none⟩,
  ⟨some 63, .fad 0 (.t 3), none⟩,
  ⟨some 64, .load false 1 (.t 63), none⟩,
  ⟨some 65, .mov (.t 9), none⟩,
  ⟨some 66, .iad 1 (.t 64) (.t 65), none⟩,
  ⟨some 67, .load false 1 (.t 66), none⟩,
  ⟨some 68, .bin .neq (.t 62) (.t 67), none⟩]
def c_morphism_Valid_r15 (F : String → Nat) : List LI := [⟨some 6, .mov (.k (.int .i64 (13))), none⟩]
def c_morphism_Valid_r16 (F : String → Nat) : List LI := [⟨some 69, .bin .add (.t 44) (.k (.int .i64 (1))), none⟩,
  ⟨some 44, .mov (.t 69), none⟩]
def c_morphism_Valid_b17 (F : String → Nat) : LC := (.seq (.reg (c_morphism_Valid_r10 F) [3, 4, 5, 42, 43, 44, 45]) (.seq (.cond (.t 45) .skip (.exit 0)) (.seq (.block 1 (.seq (.reg (c_morphism_Valid_r11 F) [3, 4, 5, 9, 10, 42, 43, 44]) (.seq (.seq (.reg (c_morphism_Valid_r12 F) [3, 4, 5, 9, 10, 42, 43, 44, 57]) (.cond (.t 57) (.seq (.reg (c_morphism_Valid_r13 F) [6]) .ret) .skip)) (.seq (.dreg [] (c_morphism_Valid_r14 F) [3, 4, 5, 42, 43, 44, 68]) (.cond (.t 68) (.seq (.reg (c_morphism_Valid_r15 F) [6]) .ret) .skip))))) (.reg (c_morphism_Valid_r16 F) [3, 4, 5, 42, 43, 44]))))
def c_morphism_Valid_r18 (F : String → Nat) : List LI := [⟨some 70, .fad 1 (.t 5), none⟩,
  ⟨some 71, .load false 1 (.t 70), none⟩,
  ⟨some 72, .len (.t 71), none⟩,
  ⟨some 73, .mov (.k (.int .i64 (0))), none⟩]
def c_morphism_Valid_r19 (F : String → Nat) : List LI := [⟨some 74, .bin .lss (.t 73) (.t 72), none⟩]
def c_morphism_Valid_r20 (F : String → Nat) : List LI := [⟨some 75, .mov (.t 73), none⟩,
  ⟨some 76, .iad 1 (.t 71) (.t 73), none⟩,
  ⟨some 77, .load false 1 (.t 76), none⟩,
  ⟨some 11, .mov (.t 75), none⟩,
  ⟨some 12, .mov (.t 77), none⟩]
def c_morphism_Valid_r21 (F : String → Nat) : List LI := [⟨some 78, .mov (.t 12), none⟩,
  ⟨some 79, .bin .lss (.t 78) (.k (.int .i64 (0))), none⟩,
  ⟨some 80, .mov (.t 79), none⟩,
  ⟨some 81, .mov (.t 12), some (80, false)⟩,
  ⟨some 82, .fad 1 (.t 4), some (80, false)⟩,
  ⟨some 83, .load false 1 (.t 82), some (80, false)⟩,
  ⟨some 84, .len (.t 83), some (80, false)⟩,
  ⟨some 85, .bin .geq (.t 81) (.t 84), some (80, false)⟩,
  ⟨some 86, .pick (.t 80) (.k (.bool true)) (.t 85), none⟩]
def c_morphism_Valid_r22 (F : String → Nat) : List LI := [⟨some 6, .mov (.k (.int .i64 (6))), none⟩]
def c_morphism_Valid_r23 (F : String → Nat) : List LI := [⟨some 87, .fad 1 (.t 3), none⟩,
  ⟨some 88, .load false 1 (.t 87), none⟩,
  ⟨some 89, .mov (.t 11), none⟩,
  ⟨some 90, .iad 3 (.t 88) (.t 89), none⟩,
  ⟨some 91, .load true 3 (.t 90), none⟩,
  ⟨some 92, .fad 1 (.t 4), none⟩,
  ⟨some 93, .load false 1 (.t 92), none⟩,
  ⟨some 94, .mov (.t 12), none⟩,
  ⟨some 95, .iad 3 (.t 93) (.t 94), none⟩,
  ⟨some 96, .load true 3 (.t 95), none⟩,
  ⟨some 13, .alloc [.int .i64 (0), .int .i64 (0), .int .i64 (0)], none⟩,
  ⟨some 14, .alloc [.int .i64 (0), .int .i64 (0), .int .i64 (0)], none⟩,
  ⟨none, .store 3 (.t 13) (.t 91), none⟩,
  ⟨none, .store 3 (.t 14) (.t 96), none⟩]
def c_morphism_Valid_r24 (F : String → Nat) : List LI := [⟨some 97, .fad 0 (.t 13), none⟩,
  ⟨some 98, .load false 1 (.t 97), none⟩,
  ⟨some 99, .fad 0 (.t 14), none⟩,
  ⟨some 100, .load false 1 (.t 99), none⟩,
  ⟨some 101, .bin .neq (.t 98) (.t 100), none⟩]
def c_morphism_Valid_r25 (F : String → Nat) : List LI := [⟨some 6, .mov (.k (.int .i64 (13))), none⟩]
def c_morphism_Valid_r26 (F : String → Nat) : List LI := [⟨some 102, .fad 0 (.t 5), none⟩,
  ⟨some 103, .load false 1 (.t 102), none⟩,
  ⟨some 104, .fad 1 (.t 13), none⟩,
  ⟨some 105, .load false 1 (.t 104), none⟩,
  ⟨some 106, .iad 1 (.t 103) (.t 105), none⟩,
  ⟨some 107, .load false 1 (.t 106), none⟩,
  ⟨some 108, .fad 1 (.t 14), none⟩,
  ⟨some 109, .load false 1 (.t 108), none⟩,
  ⟨some 110, .bin .neq (.t 107) (.t 109), none⟩,
  ⟨some 111, .mov (.t 110), none⟩,
  ⟨some 112, .fad 0 (.t 5), some (111, false)⟩,
  ⟨some 113, .load false 1 (.t 112), some (111, false)⟩,
  ⟨some 114, .fad 2 (.t 13), some (111, false)⟩,
  ⟨some 115, .load false 1 (.t 114), some (111, false)⟩,
  ⟨some 116, .iad 1 (.t 113) (.t 115), some (111, false)⟩,
  ⟨some 117, .load false 1 (.t 116), some (111, false)⟩,
  ⟨some 118, .fad 2 (.t 14), some (111, false)⟩,
  ⟨some 119, .load false 1 (.t 118), some (111, false)⟩,
  ⟨some 120, .bin .neq (.t 117) (.t 119), some (111, false)⟩,
  ⟨some 121, .pick (.t 111) (.k (.bool true)) (.t 120), none⟩]
def c_morphism_Valid_r27 (F : String → Nat) : List LI := [⟨some 6, .mov (.k (.int .i64 (11))), none⟩]
def c_morphism_Valid_r28 (F : String → Nat) : List LI := [⟨some 122, .bin .add (.t 73) (.k (.int .i64 (1))), none⟩,
  ⟨some 73, .mov (.t 122), none⟩]
def c_morphism_Valid_b29 (F : String → Nat) : LC := (.seq (.reg (c_morphism_Valid_r19 F) [3, 4, 5, 71, 72, 73, 74]) (.seq (.cond (.t 74) .skip (.exit 2)) (.seq (.block 3 (.seq (.reg (c_morphism_Valid_r20 F) [3, 4, 5, 11, 12, 71, 72, 73]) (.seq (.seq (.reg (c_morphism_Valid_r21 F) [3, 4, 5, 11, 12, 71, 72, 73, 86]) (.cond (.t 86) (.seq (.reg (c_morphism_Valid_r22 F) [6]) .ret) .skip)) (.seq (.dreg [(6, none, [], true), (8, none, [], true), (9, none, [], true), (12, none, [6, 8, 9], false)] (c_morphism_Valid_r23 F) [3, 4, 5, 13, 14, 71, 72, 73]) (.seq (.seq (.reg (c_morphism_Valid_r24 F) [3, 4, 5, 13, 14, 71, 72, 73, 101]) (.cond (.t 101) (.seq (.reg (c_morphism_Valid_r25 F) [6]) .ret) .skip)) (.seq (.dreg [] (c_morphism_Valid_r26 F) [3, 4, 5, 71, 72, 73, 121]) (.cond (.t 121) (.seq (.reg (c_morphism_Valid_r27 F) [6]) .ret) .skip))))))) (.reg (c_morphism_Valid_r28 F) [3, 4, 5, 71, 72, 73]))))
def c_morphism_Valid_r30 (F : String → Nat) : List LI := [⟨some 6, .mov (.k (.int .i64 (0))), none⟩]
def c_morphism_Valid (F : String → Nat) : LC := (.seq (.reg (c_morphism_Valid_r0 F) [3, 4, 5]) (.seq (.seq (.reg (c_morphism_Valid_r1 F) [3, 4, 5, 7]) (.seq (.reg (c_morphism_Valid_r2 F) [3, 4, 5, 7, 18]) (.cond (.t 18) (.seq (.reg (c_morphism_Valid_r3 F) [6]) .ret) .skip))) (.seq (.seq (.reg (c_morphism_Valid_r4 F) [3, 4, 5, 8]) (.seq (.reg (c_morphism_Valid_r5 F) [3, 4, 5, 8, 23]) (.cond (.t 23) (.seq (.reg (c_morphism_Valid_r6 F) [6]) .ret) .skip))) (.seq (.seq (.reg (c_morphism_Valid_r7 F) [3, 4, 5, 40]) (.cond (.t 40) (.seq (.reg (c_morphism_Valid_r8 F) [6]) .ret) .skip)) (.seq (.seq (.reg (c_morphism_Valid_r9 F) [3, 4, 5, 42, 43, 44]) (.block 0 (.loop [3, 4, 5, 42, 43, 44] (c_morphism_Valid_b17 F)))) (.seq (.seq (.reg (c_morphism_Valid_r18 F) [3, 4, 5, 71, 72, 73]) (.block 2 (.loop [3, 4, 5, 71, 72, 73] (c_morphism_Valid_b29 F)))) (.seq (.reg (c_morphism_Valid_r30 F) [6]) .ret)))))))
def h_morphism_Valid : Hints := ⟨[], fun _ => [], tab [(0, [3, 4, 5]), (1, [3, 4, 5, 7]), (2, [3, 4, 5, 7, 18]), (3, [6]), (4, [3, 4, 5, 8]), (5, [3, 4, 5, 8, 23]), (6, [6]), (7, [3, 4, 5, 40]), (8, [6]), (9, [3, 4, 5, 42, 43, 44]), (10, [3, 4, 5, 42, 43, 44, 45]), (11, [3, 4, 5, 9, 10, 42, 43, 44]), (12, [3, 4, 5, 9, 10, 42, 43, 44, 57]), (13, [6]), (14, [3, 4, 5, 42, 43, 44, 68]), (15, [6]), (16, [3, 4, 5, 42, 43, 44]), (17, [3, 4, 5, 71, 72, 73]), (18, [3, 4, 5, 71, 72, 73, 74]), (19, [3, 4, 5, 11, 12, 71, 72, 73]), (20, [3, 4, 5, 11, 12, 71, 72, 73, 86]), (21, [6]), (22, [3, 4, 5, 13, 14, 71, 72, 73]), (23, [3, 4, 5, 13, 14, 71, 72, 73, 101]), (24, [6]), (25, [3, 4, 5, 71, 72, 73, 121]), (26, [6]), (27, [3, 4, 5, 71, 72, 73]), (28, [6])], tab [(10, [3, 4, 5, 42, 43, 44]), (18, [3, 4, 5, 71, 72, 73])]⟩

/- r06.Valid -/
def c_r06_Valid_r0 (F : String → Nat) : List LI := [⟨some 3, .bx (.t 0), none⟩,
  ⟨some 4, .bx (.t 1), none⟩,
  ⟨some 5, .bx (.t 2), none⟩,
  ⟨some 6, .mov (.k (.int .i64 (0))), none⟩]
def c_r06_Valid_r1 (F : String → Nat) : List LI := [⟨some 13, .load true 2 (.t 3), none⟩,
  ⟨some 14, .call (F "r05.Valid") [.t 13] [], none⟩,
  ⟨some 7, .mov (.t 14), none⟩]
def c_r06_Valid_r2 (F : String → Nat) : List LI := [⟨some 15, .mov (.t 7), none⟩,
  ⟨some 16, .bin .neq (.t 15) (.k (.int .i64 (0))), none⟩]
def c_r06_Valid_r3 (F : String → Nat) : List LI := [⟨some 17, .mov (.t 7), none⟩,
  ⟨some 6, .mov (.t 17), none⟩]
def c_r06_Valid_r4 (F : String → Nat) : List LI := [⟨some 18, .load true 2 (.t 4), none⟩,
  ⟨some 19, .call (F "r05.Valid") [.t 18] [], none⟩,
  ⟨some 8, .mov (.t 19), none⟩]
def c_r06_Valid_r5 (F : String → Nat) : List LI := [⟨some 20, .mov (.t 8), none⟩,
  ⟨some 21, .bin .neq (.t 20) (.k (.int .i64 (0))), none⟩]
def c_r06_Valid_r6 (F : String → Nat) : List LI := [⟨some 22, .mov (.t 8), none⟩,
  ⟨some 6, .mov (.t 22), none⟩]
def c_r06_Valid_r7 (F : String → Nat) : List LI := [⟨some 23, .fad 0 (.t 5), none⟩,
  ⟨some 24, .load false 1 (.t 23), none⟩,
  ⟨some 25, .len (.t 24), none⟩,
  ⟨some 26, .fad 0 (.t 3), none⟩,
  ⟨some 27, .load false 1 (.t 26), none⟩,
  ⟨some 28, .len (.t 27), none⟩,
  ⟨some 29, .bin .neq (.t 25) (.t 28), none⟩,
  ⟨some 30, .mov (.t 29), none⟩,
  ⟨some 31, .fad 1 (.t 5), some (30, false)⟩,
  ⟨some 32, .load false 1 (.t 31), some (30, false)⟩,
  ⟨some 33, .len (.t 32), some (30, false)⟩,
  ⟨some 34, .fad 1 (.t 3), some (30, false)⟩,
  ⟨some 35, .load false 1 (.t 34), some (30, false)⟩,
  ⟨some 36, .len (.t 35), some (30, false)⟩,
  ⟨some 37, .bin .neq (.t 33) (.t 36), some (30, false)⟩,
  ⟨some 38, .pick (.t 30) (.k (.bool true)) (.t 37), none⟩]
def c_r06_Valid_r8 (F : String → Nat) : List LI := [⟨some 6, .mov (.k (.int .i64 (20))), none⟩]
def c_r06_Valid_r9 (F : String → Nat) : List LI := [⟨some 9, .mov (.k (.int .i64 (0))), none⟩]
def c_r06_Valid_r10 (F : String → Nat) : List LI := [⟨some 39, .mov (.t 9), none⟩,
  ⟨some 40, .fad 0 (.t 3), none⟩,
  ⟨some 41, .load false 1 (.t 40), none⟩,
  ⟨some 42, .len (.t 41), none⟩,
  ⟨some 43, .bin .lss (.t 39) (.t 42), none⟩]
def c_r06_Valid_r11 (F : String → Nat) : List LI := [⟨some 46, .fad 0 (.t 5), none⟩,
  ⟨some 47, .load false 1 (.t 46), none⟩,
  ⟨some 48, .mov (.t 9), none⟩,
  ⟨some 49, .iad 1 (.t 47) (.t 48), none⟩,
  ⟨some 50, .load false 1 (.t 49), none⟩,
  ⟨some 51, .bin .lss (.t 50) (.k (.int .i64 (0))), none⟩,
  ⟨some 52, .mov (.t 51), none⟩,
  ⟨some 53, .fad 0 (.t 5), some (52, false)⟩,
  ⟨some 54, .load false 1 (.t 53), some (52, false)⟩,
  ⟨some 55, .mov (.t 9), some (52, false)⟩,
  ⟨some 56, .iad 1 (.t 54) (.t 55), some (52, false)⟩,
  ⟨some 57, .load false 1 (.t 56), some (52, false)⟩,
  ⟨some 58, .fad 0 (.t 4), some (52, false)⟩,
  ⟨some 59, .load false 1 (.t 58), some (52, false)⟩,
  ⟨some 60, .len (.t 59), some (52, false)⟩,
  ⟨some 61, .bin .geq (.t 57) (.t 60), some (52, false)⟩,
  ⟨some 62, .pick (.t 52) (.k (.bool true)) (.t 61), none⟩]
def c_r06_Valid_r12 (F : String → Nat) : List LI := [⟨some 6, .mov (.k (.int .i64 (6))), none⟩]
def c_r06_Valid_r13 (F : String → Nat) : List LI := [⟨some 63, .fad 0 (.t 4), none⟩,
  ⟨some 64, .load false 1 (.t 63), none⟩,
  ⟨some 65, .fad 0 (.t 5), none⟩,
  ⟨some 66, .load false 1 (.t 65), none⟩,
  ⟨some 67, .mov (.t 9), none⟩,
  ⟨some 68, .iad 1 (.t 66) (.t 67), none⟩,
  ⟨some 69, .load false 1 (.t 68), none⟩,
  ⟨some 70, .iad 1 (.t 64) (.t 69), none⟩,
  ⟨some 71, .load false 1 (.t 70), none⟩,
  ⟨some 72, .fad 0 (.t 3), none⟩,
  ⟨some 73, .load false 1 (.t 72), none⟩,
  ⟨some 74, .mov (.t 9), none⟩,
  ⟨some 75, .iad 1 (.t 73) (.t 74), none⟩,
  ⟨some 76, .load false 1 (.t 75), none⟩,
  ⟨some 77, .bin .neq (.t 71) (.t 76), none⟩]
def c_r06_Valid_r14 (F : String → Nat) : List LI := [⟨some 6, .mov (.k (.int .i64 (13))), none⟩]
def c_r06_Valid_r15 (F : String → Nat) : List LI := [⟨some 44, .mov (.t 9), none⟩,
  ⟨some 45, .bin .add (.t 44) (.k (.int .i64 (1))), none⟩,
  ⟨some 9, .mov (.t 45), none⟩]
def c_r06_Valid_b16 (F : String → Nat) : LC := (.seq (.seq (.reg (c_r06_Valid_r10 F) [3, 4, 5, 9, 43]) (.cond (.t 43) .skip (.exit 0))) (.seq (.block 1 (.seq (.seq (.dreg [] (c_r06_Valid_r11 F) [3, 4, 5, 9, 62]) (.cond (.t 62) (.seq (.reg (c_r06_Valid_r12 F) [6]) .ret) .skip)) (.seq (.dreg [] (c_r06_Valid_r13 F) [3, 4, 5, 9, 77]) (.cond (.t 77) (.seq (.reg (c_r06_Valid_r14 F) [6]) .ret) .skip)))) (.reg (c_r06_Valid_r15 F) [3, 4, 5, 9])))
def c_r06_Valid_r17 (F : String → Nat) : List LI := [⟨some 10, .mov (.k (.int .i64 (0))), none⟩]
def c_r06_Valid_r18 (F : String → Nat) : List LI := [⟨some 78, .mov (.t 10), none⟩,
  ⟨some 79, .fad 1 (.t 3), none⟩,
  ⟨some 80, .load false 1 (.t 79), none⟩,
  ⟨some 81, .len (.t 80), none⟩,
  ⟨some 82, .bin .lss (.t 78) (.t 81), none⟩]
def c_r06_Valid_r19 (F : String → Nat) : List LI := [⟨some 85, .fad 1 (.t 5), none⟩,
  ⟨some 86, .load false 1 (.t 85), none⟩,
  ⟨some 87, .mov (.t 10), none⟩,
  ⟨some 88, .iad 1 (.t 86) (.t 87), none⟩,
  ⟨some 89, .load false 1 (.t 88), none⟩,
  ⟨some 90, .bin .lss (.t 89) (.k (.int .i64 (0))), none⟩,
  ⟨some 91, .mov (.t 90), none⟩,
  ⟨some 92, .fad 1 (.t 5), some (91, false)⟩,
  ⟨some 93, .load false 1 (.t 92), some (91, false)⟩,
  ⟨some 94, .mov (.t 10), some (91, false)⟩,
  ⟨some 95, .iad 1 (.t 93) (.t 94), some (91, false)⟩,
  ⟨some 96, .load false 1 (.t 95), some (91, false)⟩,
  ⟨some 97, .fad 1 (.t 4), some (91, false)⟩,
  ⟨some 98, .load false 1 (.t 97), some (91, false)⟩,
  ⟨some 99, .len (.t 98), some (91, false)⟩,
  ⟨some 100, .bin .geq (.t 96) (.t 99), some (91, false)⟩,
  ⟨some 101, .pick (.t 91) (.k (.bool true)) (.t 100), none⟩]
def c_r06_Valid_r20 (F : String → Nat) : List LI := [⟨some 6, .mov (.k (.int .i64 (6))), none⟩]
def c_r06_Valid_r21 (F : String → Nat) : List LI := [⟨some 102, .fad 1 (.t 3), none⟩,
  ⟨some 103, .load false 1 (.t 102), none⟩,
  ⟨some 104, .mov (.t 10), none⟩,
  ⟨some 105, .iad 3 (.t 103) (.t 104), none⟩,
  ⟨some 106, .load true 3 (.t 105), none⟩,
  ⟨some 107, .fad 1 (.t 4), none⟩,
  ⟨some 108, .load false 1 (.t 107), none⟩,
  ⟨some 109, .fad 1 (.t 5), none⟩,
  ⟨some 110, .load false 1 (.t 109), none⟩,
  ⟨some 111, .mov (.t 10), none⟩,
  ⟨some 112, .iad 1 (.t 110) (.t 111), none⟩,
  ⟨some 113, .load false 1 (.t 112), none⟩,
  ⟨some 114, .iad 3 (.t 108) (.t 113), none⟩,
  ⟨some 115, .load true 3 (.t 114), none⟩,
  ⟨some 11, .alloc [.int .i64 (0), .int .i64 (0), .int .i64 (0)], none⟩,
  ⟨some 12, .alloc [.int .i64 (0), .int .i64 (0), .int .i64 (0)], none⟩,
  ⟨none, .store 3 (.t 11) (.t 106), none⟩,
  ⟨none, .store 3 (.t 12) (.t 115), none⟩]
def c_r06_Valid_r22 (F : String → Nat) : List LI := [⟨some 116, .fad 0 (.t 11), none⟩,
  ⟨some 117, .load false 1 (.t 116), none⟩,
  ⟨some 118, .fad 0 (.t 12), none⟩,
  ⟨some 119, .load false 1 (.t 118), none⟩,
  ⟨some 120, .bin .neq (.t 117) (.t 119), none⟩]
def c_r06_Valid_r23 (F : String → Nat) : List LI := [⟨some 6, .mov (.k (.int .i64 (13))), none⟩]
def c_r06_Valid_r24 (F : String → Nat) : List LI := [⟨some 121, .fad 0 (.t 5), none⟩,
  ⟨some 122, .load false 1 (.t 121), none⟩,
  ⟨some 123, .fad 1 (.t 11), none⟩,
  ⟨some 124, .load false 1 (.t 123), none⟩,
  ⟨some 125, .iad 1 (.t 122) (.t 124), none⟩,
  ⟨some 126, .load false 1 (.t 125), none⟩,
  ⟨some 127, .fad 1 (.t 12), none⟩,
  ⟨some 128, .load false 1 (.t 127), none⟩,
  ⟨some 129, .bin .neq (.t 126) (.t 128), none⟩,
  ⟨some 130, .mov (.t 129), none⟩,
  ⟨some 131, .fad 0 (.t 5), some (130, false)⟩,
  ⟨some 132, .load false 1 (.t 131), some (130, false)⟩,
  ⟨some 133, .fad 2 (.t 11), some (130, false)⟩,
  ⟨some 134, .load false 1 (.t 133), some (130, false)⟩,
  ⟨some 135, .iad 1 (.t 132) (.t 134), some (130, false)⟩,
  ⟨some 136, .load false 1 (.t 135), some (130, false)⟩,
  ⟨some 137, .fad 2 (.t 12), some (130, false)⟩,
  ⟨some 138, .load false 1 (.t 137), some (130, false)⟩,
  ⟨some 139, .bin .neq (.t 136) (.t 138), some (130, false)⟩,
  ⟨some 140, .pick (.t 130) (.k (.bool true)) (.t 139), none⟩]
def c_r06_Valid_r25 (F : String → Nat) : List LI := [⟨some 6, .mov (.k (.int .i64 (11))), none⟩]
def c_r06_Valid_r26 (F : String → Nat) : List LI := [⟨some 83, .mov (.t 10), none⟩,
  ⟨some 84, .bin .add (.t 83) (.k (.int .i64 (1))), none⟩,
  ⟨some 10, .mov (.t 84), none⟩]
def c_r06_Valid_b27 (F : String → Nat) : LC := (.seq (.seq (.reg (c_r06_Valid_r18 F) [3, 4, 5, 10, 82]) (.cond (.t 82) .skip (.exit 2))) (.seq (.block 3 (.seq (.seq (.dreg [] (c_r06_Valid_r19 F) [3, 4, 5, 10, 101]) (.cond (.t 101) (.seq (.reg (c_r06_Valid_r20 F) [6]) .ret) .skip)) (.seq (.dreg [(6, none, [], true), (8, none, [], true), (10, none, [], true), (11, none, [], true), (12, none, [], true), (13, none, [], true), (16, none, [6, 8, 10, 11, 12, 13], false)] (c_r06_Valid_r21 F) [3, 4, 5, 10, 11, 12]) (.seq (.seq (.reg (c_r06_Valid_r22 F) [3, 4, 5, 10, 11, 12, 120]) (.cond (.t 120) (.seq (.reg (c_r06_Valid_r23 F) [6]) .ret) .skip)) (.seq (.dreg [] (c_r06_Valid_r24 F) [3, 4, 5, 10, 140]) (.cond (.t 140) (.seq (.reg (c_r06_Valid_r25 F) [6]) .ret) .skip)))))) (.reg (c_r06_Valid_r26 F) [3, 4, 5, 10])))
def c_r06_Valid_r28 (F : String → Nat) : List LI := [⟨some 6, .mov (.k (.int .i64 (0))), none⟩]
def c_r06_Valid (F : String → Nat) : LC := (.seq (.reg (c_r06_Valid_r0 F) [3, 4, 5]) (.seq (.seq (.reg (c_r06_Valid_r1 F) [3, 4, 5, 7]) (.seq (.reg (c_r06_Valid_r2 F) [3, 4, 5, 7, 16]) (.cond (.t 16) (.seq (.reg (c_r06_Valid_r3 F) [6]) .ret) .skip))) (.seq (.seq (.reg (c_r06_Valid_r4 F) [3, 4, 5, 8]) (.seq (.reg (c_r06_Valid_r5 F) [3, 4, 5, 8, 21]) (.cond (.t 21) (.seq (.reg (c_r06_Valid_r6 F) [6]) .ret) .skip))) (.seq (.seq (.reg (c_r06_Valid_r7 F) [3, 4, 5, 38]) (.cond (.t 38) (.seq (.reg (c_r06_Valid_r8 F) [6]) .ret) .skip)) (.seq (.seq (.reg (c_r06_Valid_r9 F) [3, 4, 5, 9]) (.block 0 (.loop [3, 4, 5, 9] (c_r06_Valid_b16 F)))) (.seq (.seq (.reg (c_r06_Valid_r17 F) [3, 4, 5, 10]) (.block 2 (.loop [3, 4, 5, 10] (c_r06_Valid_b27 F)))) (.seq (.reg (c_r06_Valid_r28 F) [6]) .ret)))))))
def h_r06_Valid : Hints := ⟨[], fun _ => [], tab [(0, [3, 4, 5]), (1, [3, 4, 5, 7]), (2, [3, 4, 5, 7, 16]), (3, [6]), (4, [3, 4, 5, 8]), (5, [3, 4, 5, 8, 21]), (6, [6]), (7, [3, 4, 5, 38]), (8, [6]), (9, [3, 4, 5, 9]), (10, [3, 4, 5, 9, 43]), (11, [3, 4, 5, 9]), (12, [3, 4, 5, 9, 62]), (13, [6]), (14, [3, 4, 5, 9, 77]), (15, [6]), (16, [3, 4, 5, 10]), (17, [3, 4, 5, 10, 82]), (18, [3, 4, 5, 10]), (19, [3, 4, 5, 10, 101]), (20, [6]), (21, [3, 4, 5, 10, 11, 12]), (22, [3, 4, 5, 10, 11, 12, 120]), (23, [6]), (24, [3, 4, 5, 10, 140]), (25, [6]), (26, [6])], tab [(10, [3, 4, 5, 9]), (17, [3, 4, 5, 10])]⟩

attribute [go_sem] c_morphism_Valid_r0 c_morphism_Valid_r1 c_morphism_Valid_r2 c_morphism_Valid_r3 c_morphism_Valid_r4 c_morphism_Valid_r5 c_morphism_Valid_r6 c_morphism_Valid_r7 c_morphism_Valid_r8 c_morphism_Valid_r9 c_morphism_Valid_r10 c_morphism_Valid_r11 c_morphism_Valid_r12 c_morphism_Valid_r13 c_morphism_Valid_r14 c_morphism_Valid_r15 c_morphism_Valid_r16 c_morphism_Valid_r18 c_morphism_Valid_r19 c_morphism_Valid_r20 c_morphism_Valid_r21 c_morphism_Valid_r22 c_morphism_Valid_r23 c_morphism_Valid_r24 c_morphism_Valid_r25 c_morphism_Valid_r26 c_morphism_Valid_r27 c_morphism_Valid_r28 c_morphism_Valid_r30 c_morphism_Valid c_r06_Valid_r0 c_r06_Valid_r1 c_r06_Valid_r2 c_r06_Valid_r3 c_r06_Valid_r4 c_r06_Valid_r5 c_r06_Valid_r6 c_r06_Valid_r7 c_r06_Valid_r8 c_r06_Valid_r9 c_r06_Valid_r10 c_r06_Valid_r11 c_r06_Valid_r12 c_r06_Valid_r13 c_r06_Valid_r14 c_r06_Valid_r15 c_r06_Valid_r17 c_r06_Valid_r18 c_r06_Valid_r19 c_r06_Valid_r20 c_r06_Valid_r21 c_r06_Valid_r22 c_r06_Valid_r23 c_r06_Valid_r24 c_r06_Valid_r25 c_r06_Valid_r26 c_r06_Valid_r28 c_r06_Valid
section
variable (P : Program) (F : String → Nat)
def K_morphism_Valid : Prop := ∀ (a b : G) (m : Mo), FC P (F "morphism.Valid") [gD a, gD b, mD m] (.int .i64 (validM a b m)) []
def K_r06_Valid : Prop := ∀ (a b : G) (m : Mo), FC P (F "r06.Valid") [gD a, gD b, mD m] (.int .i64 (validM a b m)) []
end
section
variable {P : Program} {F : String → Nat} {α : Type}
theorem nodeE_step {bn ms as : List Int} {i : Nat} (h1 : i < ms.length) (h2 : i < as.length) : nodeE bn (ms.drop i) (as.drop i) =
    if 0 ≤ gt ms i ∧ gt ms i < bn.length then (if gt bn (gt ms i) = gt as i then nodeE bn (ms.drop (i + 1)) (as.drop (i + 1)) else 13) else 6 := by
  rw [drop_gt h1, drop_gt h2, nodeE]
theorem edgeE_step {be : List E} {mn ms : List Int} {as : List E} {i : Nat} (h1 : i < ms.length) (h2 : i < as.length) : edgeE be mn (ms.drop i) (as.drop i) =
    if 0 ≤ gt ms i ∧ gt ms i < be.length then (if (gt as i).t = (gt be (gt ms i)).t then (if gt mn (gt as i).f = (gt be (gt ms i)).f ∧ gt mn (gt as i).o = (gt be (gt ms i)).o then edgeE be mn (ms.drop (i + 1)) (as.drop (i + 1)) else 11) else 13) else 6 := by
  rw [drop_gt h1, drop_gt h2, edgeE]
theorem nodeE_end {bn ms as : List Int} {i : Nat} (h1 : ms.length ≤ i) : nodeE bn (ms.drop i) (as.drop i) = 0 := by
  rw [List.drop_of_length_le h1]; rfl
theorem edgeE_end {be : List E} {mn ms : List Int} {as : List E} {i : Nat} (h1 : ms.length ≤ i) : edgeE be mn (ms.drop i) (as.drop i) = 0 := by
  rw [List.drop_of_length_le h1]; cases as.drop i <;> rfl
theorem w_morphism_Valid (hv : K_graph_Valid P F) (a b : G) (m : Mo) : W P (c_morphism_Valid F) (Done [.t 6] [] (.int .i64 (validM a b m)) []) (init [gD a, gD b, mD m]) := by
  refine W_of ?_
  have rva := hv a
  have rvb := hv b
  have sva := @valid_spec a
  have svb := @valid_spec b
  have hvm : validM a b m = if validG a ≠ 0 then validG a else if validG b ≠ 0 then validG b else if m.n.length ≠ a.n.length ∨ m.e.length ≠ a.e.length then 20
    else if nodeE b.n m.n a.n ≠ 0 then nodeE b.n m.n a.n else edgeE b.e m.n m.e a.e := rfl
  rw [hvm]
  generalize validG a = va at *
  generalize validG b = vb at *
  clear hvm
  obtain ⟨an, ae⟩ := a
  obtain ⟨bn, be⟩ := b
  obtain ⟨mn, me⟩ := m
  simp only [gD] at rva rvb
  simp only at sva svb
  simp (config := { maxSteps := 1000000 }) (disch := first | omega | (simp only [go_sem]; omega)) only [go_sem, ↓reduceIte, gD, mD]
  refine call_by rva ?_
  simp (config := { maxSteps := 1000000 }) (disch := first | omega | (simp only [go_sem]; omega)) only [go_sem, ↓reduceIte]
  refine bran_ndec (fun c1 => ?_) (fun c1 => ?_)
  · simp (config := { maxSteps := 1000000 }) (disch := first | omega | (simp only [go_sem]; omega)) only [go_sem, ↓reduceIte]
  · subst c1
    obtain ⟨a1, a2, _, a4⟩ := sva rfl
    simp (config := { maxSteps := 1000000 }) (disch := first | omega | (simp only [go_sem]; omega)) only [go_sem, ↓reduceIte]
    refine call_by rvb ?_
    simp (config := { maxSteps := 1000000 }) (disch := first | omega | (simp only [go_sem]; omega)) only [go_sem, ↓reduceIte]
    refine bran_ndec (fun c2 => ?_) (fun c2 => ?_)
    · simp (config := { maxSteps := 1000000 }) (disch := first | omega | (simp only [go_sem]; omega)) only [go_sem, ↓reduceIte]
      simp [c2]
    · subst c2
      obtain ⟨b1, b2, _, b4⟩ := svb rfl
      simp (config := { maxSteps := 1000000 }) (disch := first | omega | (simp only [go_sem]; omega)) only [go_sem, ↓reduceIte]
      refine bran_ndec (fun c3 => ?_) (fun c3 => ?_)
      · simp (config := { maxSteps := 1000000 }) (disch := first | omega | (simp only [go_sem]; omega)) only [go_sem, ↓reduceIte, c3]
        rw [if_neg (by simp), if_neg (by simp)]
      · simp (config := { maxSteps := 1000000 }) (disch := first | omega | (simp only [go_sem]; omega)) only [go_sem, ↓reduceIte, c3]
        refine bran_ndec (fun c4 => ?_) (fun c4 => ?_)
        · simp (config := { maxSteps := 1000000 }) (disch := first | omega | (simp only [go_sem]; omega)) only [go_sem, ↓reduceIte, c3, c4]
          rw [if_neg (by simp), if_neg (by simp)]
        · have d3 : mn.length = an.length := by omega
          have d4 : me.length = ae.length := by omega
          rw [if_neg (by simp), if_neg (by simp), if_neg (by simp only; omega)]
          clear c3 c4
          simp (config := { maxSteps := 1000000 }) (disch := first | omega | (simp only [go_sem]; omega)) only [go_sem, ↓reduceIte, d3, d4]
          refine W_loop (fun i : Nat => ⟨[(3, .pt 0 0), (4, .pt 1 0), (5, .pt 2 0), (42, .lst 1 (ints mn)), (43, .int .i64 an.length), (44, .int .i64 i)],
            [(0, .box [.lst 1 (ints an), .lst 3 (eds ae)]), (1, .box [.lst 1 (ints bn), .lst 3 (eds be)]), (2, .box [.lst 1 (ints mn), .lst 1 (ints me)])], 3⟩)
            (fun i => i ≤ mn.length ∧ nodeE bn mn an = nodeE bn (mn.drop i) (an.drop i)) (fun i => mn.length - i) 0 ?_ ?_ ?_
          · simp (config := { maxSteps := 1000000 }) (disch := first | omega | (simp only [go_sem]; omega)) only [go_sem, ↓reduceIte, d3]
            rfl
          · simp
          · rintro i ⟨hi, hn⟩
            simp (config := { maxSteps := 1000000 }) (disch := first | omega | (simp only [go_sem]; omega)) only [go_sem, ↓reduceIte, c_morphism_Valid_b17]
            refine bran_dec (fun c5 => ?_) (fun c5 => ?_)
            · have hs := nodeE_step (bn := bn) (ms := mn) (as := an) (i := i) (by omega) (by omega)
              simp (config := { maxSteps := 1000000 }) (disch := first | omega | (simp only [go_sem]; omega)) only [go_sem, ↓reduceIte]
              refine bran_dec (fun c6 => ?_) (fun c6 => ?_)
              · simp (config := { maxSteps := 1000000 }) (disch := first | omega | (simp only [go_sem]; omega)) only [go_sem, ↓reduceIte, c6]
                rw [if_neg (show ¬ (0 ≤ gt mn i ∧ gt mn i < bn.length) by omega)] at hs
                rw [hn, hs]
                try simp
              · simp (config := { maxSteps := 1000000 }) (disch := first | omega | (simp only [go_sem]; omega)) only [go_sem, ↓reduceIte, c6]
                refine bran_dec (fun c7 => ?_) (fun c7 => ?_)
                · simp (config := { maxSteps := 1000000 }) (disch := first | omega | (simp only [go_sem]; omega)) only [go_sem, ↓reduceIte]
                  rw [if_neg (show ¬ (0 ≤ gt mn i ∧ gt mn i < bn.length) by omega)] at hs
                  rw [hn, hs]
                  try simp
                · rw [if_pos (show (0 ≤ gt mn i ∧ gt mn i < bn.length) by omega)] at hs
                  simp (config := { maxSteps := 1000000 }) (disch := first | omega | (simp only [go_sem]; omega)) only [go_sem, ↓reduceIte]
                  refine bran_ndec (fun c8 => ?_) (fun c8 => ?_)
                  · rw [if_neg c8] at hs
                    simp (config := { maxSteps := 1000000 }) (disch := first | omega | (simp only [go_sem]; omega)) only [go_sem, ↓reduceIte]
                    rw [hn, hs]
                    try simp
                  · rw [if_pos c8] at hs
                    simp (config := { maxSteps := 1000000 }) (disch := first | omega | (simp only [go_sem]; omega)) only [go_sem, ↓reduceIte]
                    exact ⟨i + 1, by simp, ⟨by omega, by rw [hn, hs]⟩, by omega⟩
            · rw [nodeE_end (by omega)] at hn
              simp (config := { maxSteps := 1000000 }) (disch := first | omega | (simp only [go_sem]; omega)) only [go_sem, ↓reduceIte]
              refine W_loop (fun i : Nat => ⟨[(3, .pt 0 0), (4, .pt 1 0), (5, .pt 2 0), (71, .lst 1 (ints me)), (72, .int .i64 ae.length), (73, .int .i64 i)],
                [(0, .box [.lst 1 (ints an), .lst 3 (eds ae)]), (1, .box [.lst 1 (ints bn), .lst 3 (eds be)]), (2, .box [.lst 1 (ints mn), .lst 1 (ints me)])], 3⟩)
                (fun i => i ≤ me.length ∧ edgeE be mn me ae = edgeE be mn (me.drop i) (ae.drop i)) (fun i => me.length - i) 0 ?_ ?_ ?_
              · simp (config := { maxSteps := 1000000 }) (disch := first | omega | (simp only [go_sem]; omega)) only [go_sem, ↓reduceIte, d4]
                rfl
              · simp
              · rintro i ⟨hi, he⟩
                simp (config := { maxSteps := 1000000 }) (disch := first | omega | (simp only [go_sem]; omega)) only [go_sem, ↓reduceIte, c_morphism_Valid_b29]
                refine bran_dec (fun c5 => ?_) (fun c5 => ?_)
                · have hs := edgeE_step (be := be) (mn := mn) (ms := me) (as := ae) (i := i) (by omega) (by omega)
                  have hae := fits_spec (a4 _ (gt_mem (l := ae) (j := i) (by omega) (by omega)))
                  simp (config := { maxSteps := 1000000 }) (disch := first | omega | (simp only [go_sem]; omega)) only [go_sem, ↓reduceIte]
                  refine bran_dec (fun c6 => ?_) (fun c6 => ?_)
                  · simp (config := { maxSteps := 1000000 }) (disch := first | omega | (simp only [go_sem]; omega)) only [go_sem, ↓reduceIte, c6]
                    rw [if_neg (show ¬ (0 ≤ gt me i ∧ gt me i < be.length) by omega)] at hs
                    rw [hn, he, hs]
                    simp
                  · simp (config := { maxSteps := 1000000 }) (disch := first | omega | (simp only [go_sem]; omega)) only [go_sem, ↓reduceIte, c6]
                    refine bran_dec (fun c7 => ?_) (fun c7 => ?_)
                    · simp (config := { maxSteps := 1000000 }) (disch := first | omega | (simp only [go_sem]; omega)) only [go_sem, ↓reduceIte]
                      rw [if_neg (show ¬ (0 ≤ gt me i ∧ gt me i < be.length) by omega)] at hs
                      rw [hn, he, hs]
                      simp
                    · rw [if_pos (show (0 ≤ gt me i ∧ gt me i < be.length) by omega)] at hs
                      simp (config := { maxSteps := 1000000 }) (disch := first | omega | (simp only [go_sem]; omega)) only [go_sem, ↓reduceIte]
                      refine bran_ndec (fun c8 => ?_) (fun c8 => ?_)
                      · rw [if_neg c8] at hs
                        simp (config := { maxSteps := 1000000 }) (disch := first | omega | (simp only [go_sem]; omega)) only [go_sem, ↓reduceIte]
                        rw [hn, he, hs]
                        simp
                      · rw [if_pos c8] at hs
                        simp (config := { maxSteps := 1000000 }) (disch := first | omega | (simp only [go_sem]; omega)) only [go_sem, ↓reduceIte]
                        refine bran_ndec (fun c9 => ?_) (fun c9 => ?_)
                        · rw [if_neg (fun h => c9 h.1)] at hs
                          simp (config := { maxSteps := 1000000 }) (disch := first | omega | (simp only [go_sem]; omega)) only [go_sem, ↓reduceIte, c9]
                          rw [hn, he, hs]
                          simp
                        · simp (config := { maxSteps := 1000000 }) (disch := first | omega | (simp only [go_sem]; omega)) only [go_sem, ↓reduceIte, c9]
                          refine bran_ndec (fun d1 => ?_) (fun d1 => ?_)
                          · rw [if_neg (fun h => d1 h.2)] at hs
                            simp (config := { maxSteps := 1000000 }) (disch := first | omega | (simp only [go_sem]; omega)) only [go_sem, ↓reduceIte]
                            rw [hn, he, hs]
                            simp
                          · rw [if_pos ⟨c9, d1⟩] at hs
                            simp (config := { maxSteps := 1000000 }) (disch := first | omega | (simp only [go_sem]; omega)) only [go_sem, ↓reduceIte]
                            exact ⟨i + 1, by simp, ⟨by omega, by rw [he, hs]⟩, by omega⟩
                · rw [edgeE_end (by omega)] at he
                  simp (config := { maxSteps := 1000000 }) (disch := first | omega | (simp only [go_sem]; omega)) only [go_sem, ↓reduceIte]
                  rw [hn, he]
                  simp
theorem w_r06_Valid (hv : K_r05_Valid P F) (a b : G) (m : Mo) : W P (c_r06_Valid F) (Done [.t 6] [] (.int .i64 (validM a b m)) []) (init [gD a, gD b, mD m]) := by
  refine W_of ?_
  have rva := hv a
  have rvb := hv b
  have sva := @valid_spec a
  have svb := @valid_spec b
  have hvm : validM a b m = if validG a ≠ 0 then validG a else if validG b ≠ 0 then validG b else if m.n.length ≠ a.n.length ∨ m.e.length ≠ a.e.length then 20
    else if nodeE b.n m.n a.n ≠ 0 then nodeE b.n m.n a.n else edgeE b.e m.n m.e a.e := rfl
  rw [hvm]
  generalize validG a = va at *
  generalize validG b = vb at *
  clear hvm
  obtain ⟨an, ae⟩ := a
  obtain ⟨bn, be⟩ := b
  obtain ⟨mn, me⟩ := m
  simp only [gD] at rva rvb
  simp only at sva svb
  simp (config := { maxSteps := 1000000 }) (disch := first | omega | (simp only [go_sem]; omega)) only [go_sem, ↓reduceIte, gD, mD]
  refine call_by rva ?_
  simp (config := { maxSteps := 1000000 }) (disch := first | omega | (simp only [go_sem]; omega)) only [go_sem, ↓reduceIte]
  refine bran_ndec (fun c1 => ?_) (fun c1 => ?_)
  · simp (config := { maxSteps := 1000000 }) (disch := first | omega | (simp only [go_sem]; omega)) only [go_sem, ↓reduceIte]
  · subst c1
    obtain ⟨a1, a2, _, a4⟩ := sva rfl
    simp (config := { maxSteps := 1000000 }) (disch := first | omega | (simp only [go_sem]; omega)) only [go_sem, ↓reduceIte]
    refine call_by rvb ?_
    simp (config := { maxSteps := 1000000 }) (disch := first | omega | (simp only [go_sem]; omega)) only [go_sem, ↓reduceIte]
    refine bran_ndec (fun c2 => ?_) (fun c2 => ?_)
    · simp (config := { maxSteps := 1000000 }) (disch := first | omega | (simp only [go_sem]; omega)) only [go_sem, ↓reduceIte]
      simp [c2]
    · subst c2
      obtain ⟨b1, b2, _, b4⟩ := svb rfl
      simp (config := { maxSteps := 1000000 }) (disch := first | omega | (simp only [go_sem]; omega)) only [go_sem, ↓reduceIte]
      refine bran_ndec (fun c3 => ?_) (fun c3 => ?_)
      · simp (config := { maxSteps := 1000000 }) (disch := first | omega | (simp only [go_sem]; omega)) only [go_sem, ↓reduceIte, c3]
        rw [if_neg (by simp), if_neg (by simp)]
      · simp (config := { maxSteps := 1000000 }) (disch := first | omega | (simp only [go_sem]; omega)) only [go_sem, ↓reduceIte, c3]
        refine bran_ndec (fun c4 => ?_) (fun c4 => ?_)
        · simp (config := { maxSteps := 1000000 }) (disch := first | omega | (simp only [go_sem]; omega)) only [go_sem, ↓reduceIte, c3, c4]
          rw [if_neg (by simp), if_neg (by simp)]
        · have d3 : mn.length = an.length := by omega
          have d4 : me.length = ae.length := by omega
          rw [if_neg (by simp), if_neg (by simp), if_neg (by simp only; omega)]
          clear c3 c4
          simp (config := { maxSteps := 1000000 }) (disch := first | omega | (simp only [go_sem]; omega)) only [go_sem, ↓reduceIte, d3, d4]
          refine W_loop (fun i : Nat => ⟨[(3, .pt 0 0), (4, .pt 1 0), (5, .pt 2 0), (9, .int .i64 i)],
            [(0, .box [.lst 1 (ints an), .lst 3 (eds ae)]), (1, .box [.lst 1 (ints bn), .lst 3 (eds be)]), (2, .box [.lst 1 (ints mn), .lst 1 (ints me)])], 3⟩)
            (fun i => i ≤ mn.length ∧ nodeE bn mn an = nodeE bn (mn.drop i) (an.drop i)) (fun i => mn.length - i) 0 ?_ ?_ ?_
          · simp (config := { maxSteps := 1000000 }) (disch := first | omega | (simp only [go_sem]; omega)) only [go_sem, ↓reduceIte, d3]
            rfl
          · simp
          · rintro i ⟨hi, hn⟩
            simp (config := { maxSteps := 1000000 }) (disch := first | omega | (simp only [go_sem]; omega)) only [go_sem, ↓reduceIte, c_r06_Valid_b16]
            refine bran_dec (fun c5 => ?_) (fun c5 => ?_)
            · have hs := nodeE_step (bn := bn) (ms := mn) (as := an) (i := i) (by omega) (by omega)
              simp (config := { maxSteps := 1000000 }) (disch := first | omega | (simp only [go_sem]; omega)) only [go_sem, ↓reduceIte]
              refine bran_dec (fun c6 => ?_) (fun c6 => ?_)
              · simp (config := { maxSteps := 1000000 }) (disch := first | omega | (simp only [go_sem]; omega)) only [go_sem, ↓reduceIte, c6]
                rw [if_neg (show ¬ (0 ≤ gt mn i ∧ gt mn i < bn.length) by omega)] at hs
                rw [hn, hs]
                try simp
              · simp (config := { maxSteps := 1000000 }) (disch := first | omega | (simp only [go_sem]; omega)) only [go_sem, ↓reduceIte, c6]
                refine bran_dec (fun c7 => ?_) (fun c7 => ?_)
                · simp (config := { maxSteps := 1000000 }) (disch := first | omega | (simp only [go_sem]; omega)) only [go_sem, ↓reduceIte]
                  rw [if_neg (show ¬ (0 ≤ gt mn i ∧ gt mn i < bn.length) by omega)] at hs
                  rw [hn, hs]
                  try simp
                · rw [if_pos (show (0 ≤ gt mn i ∧ gt mn i < bn.length) by omega)] at hs
                  simp (config := { maxSteps := 1000000 }) (disch := first | omega | (simp only [go_sem]; omega)) only [go_sem, ↓reduceIte]
                  refine bran_ndec (fun c8 => ?_) (fun c8 => ?_)
                  · rw [if_neg c8] at hs
                    simp (config := { maxSteps := 1000000 }) (disch := first | omega | (simp only [go_sem]; omega)) only [go_sem, ↓reduceIte]
                    rw [hn, hs]
                    try simp
                  · rw [if_pos c8] at hs
                    simp (config := { maxSteps := 1000000 }) (disch := first | omega | (simp only [go_sem]; omega)) only [go_sem, ↓reduceIte]
                    exact ⟨i + 1, by simp, ⟨by omega, by rw [hn, hs]⟩, by omega⟩
            · rw [nodeE_end (by omega)] at hn
              simp (config := { maxSteps := 1000000 }) (disch := first | omega | (simp only [go_sem]; omega)) only [go_sem, ↓reduceIte]
              refine W_loop (fun i : Nat => ⟨[(3, .pt 0 0), (4, .pt 1 0), (5, .pt 2 0), (10, .int .i64 i)],
                [(0, .box [.lst 1 (ints an), .lst 3 (eds ae)]), (1, .box [.lst 1 (ints bn), .lst 3 (eds be)]), (2, .box [.lst 1 (ints mn), .lst 1 (ints me)])], 3⟩)
                (fun i => i ≤ me.length ∧ edgeE be mn me ae = edgeE be mn (me.drop i) (ae.drop i)) (fun i => me.length - i) 0 ?_ ?_ ?_
              · simp (config := { maxSteps := 1000000 }) (disch := first | omega | (simp only [go_sem]; omega)) only [go_sem, ↓reduceIte, d4]
                rfl
              · simp
              · rintro i ⟨hi, he⟩
                simp (config := { maxSteps := 1000000 }) (disch := first | omega | (simp only [go_sem]; omega)) only [go_sem, ↓reduceIte, c_r06_Valid_b27]
                refine bran_dec (fun c5 => ?_) (fun c5 => ?_)
                · have hs := edgeE_step (be := be) (mn := mn) (ms := me) (as := ae) (i := i) (by omega) (by omega)
                  have hae := fits_spec (a4 _ (gt_mem (l := ae) (j := i) (by omega) (by omega)))
                  simp (config := { maxSteps := 1000000 }) (disch := first | omega | (simp only [go_sem]; omega)) only [go_sem, ↓reduceIte]
                  refine bran_dec (fun c6 => ?_) (fun c6 => ?_)
                  · simp (config := { maxSteps := 1000000 }) (disch := first | omega | (simp only [go_sem]; omega)) only [go_sem, ↓reduceIte, c6]
                    rw [if_neg (show ¬ (0 ≤ gt me i ∧ gt me i < be.length) by omega)] at hs
                    rw [hn, he, hs]
                    simp
                  · simp (config := { maxSteps := 1000000 }) (disch := first | omega | (simp only [go_sem]; omega)) only [go_sem, ↓reduceIte, c6]
                    refine bran_dec (fun c7 => ?_) (fun c7 => ?_)
                    · simp (config := { maxSteps := 1000000 }) (disch := first | omega | (simp only [go_sem]; omega)) only [go_sem, ↓reduceIte]
                      rw [if_neg (show ¬ (0 ≤ gt me i ∧ gt me i < be.length) by omega)] at hs
                      rw [hn, he, hs]
                      simp
                    · rw [if_pos (show (0 ≤ gt me i ∧ gt me i < be.length) by omega)] at hs
                      simp (config := { maxSteps := 1000000 }) (disch := first | omega | (simp only [go_sem]; omega)) only [go_sem, ↓reduceIte]
                      refine bran_ndec (fun c8 => ?_) (fun c8 => ?_)
                      · rw [if_neg c8] at hs
                        simp (config := { maxSteps := 1000000 }) (disch := first | omega | (simp only [go_sem]; omega)) only [go_sem, ↓reduceIte]
                        rw [hn, he, hs]
                        simp
                      · rw [if_pos c8] at hs
                        simp (config := { maxSteps := 1000000 }) (disch := first | omega | (simp only [go_sem]; omega)) only [go_sem, ↓reduceIte]
                        refine bran_ndec (fun c9 => ?_) (fun c9 => ?_)
                        · rw [if_neg (fun h => c9 h.1)] at hs
                          simp (config := { maxSteps := 1000000 }) (disch := first | omega | (simp only [go_sem]; omega)) only [go_sem, ↓reduceIte, c9]
                          rw [hn, he, hs]
                          simp
                        · simp (config := { maxSteps := 1000000 }) (disch := first | omega | (simp only [go_sem]; omega)) only [go_sem, ↓reduceIte, c9]
                          refine bran_ndec (fun d1 => ?_) (fun d1 => ?_)
                          · rw [if_neg (fun h => d1 h.2)] at hs
                            simp (config := { maxSteps := 1000000 }) (disch := first | omega | (simp only [go_sem]; omega)) only [go_sem, ↓reduceIte]
                            rw [hn, he, hs]
                            simp
                          · rw [if_pos ⟨c9, d1⟩] at hs
                            simp (config := { maxSteps := 1000000 }) (disch := first | omega | (simp only [go_sem]; omega)) only [go_sem, ↓reduceIte]
                            exact ⟨i + 1, by simp, ⟨by omega, by rw [he, hs]⟩, by omega⟩
                · rw [edgeE_end (by omega)] at he
                  simp (config := { maxSteps := 1000000 }) (disch := first | omega | (simp only [go_sem]; omega)) only [go_sem, ↓reduceIte]
                  rw [hn, he]
                  simp
theorem thr_step {l b : List Int} {i : Nat} (h : i < l.length) : thr (l.take (i + 1)) b = thr (l.take i) b ++ [gt b (gt l i)] := by
  rw [take_gt h]; simp [thr]
end
end Go.Am
namespace Go.Am
open Go
set_option linter.unusedVariables false
set_option linter.unusedSimpArgs false
/- r06.Distinct -/
def c_r06_Distinct_r0 (F : String → Nat) : List LI := [⟨some 2, .mov (.k (.bool false)), none⟩]
def c_r06_Distinct_r1 (F : String → Nat) : List LI := [⟨some 3, .mov (.k (.int .i64 (0))), none⟩]
def c_r06_Distinct_r2 (F : String → Nat) : List LI := [⟨some 5, .mov (.t 3), none⟩,
  ⟨some 6, .mov (.t 0), none⟩,
  ⟨some 7, .len (.t 6), none⟩,
  ⟨some 8, .bin .lss (.t 5) (.t 7), none⟩]
def c_r06_Distinct_r3 (F : String → Nat) : List LI := [⟨some 4, .mov (.k (.int .i64 (0))), none⟩]
def c_r06_Distinct_r4 (F : String → Nat) : List LI := [⟨some 11, .mov (.t 4), none⟩,
  ⟨some 12, .mov (.t 3), none⟩,
  ⟨some 13, .bin .lss (.t 11) (.t 12), none⟩]
def c_r06_Distinct_r5 (F : String → Nat) : List LI := [⟨some 16, .mov (.t 0), none⟩,
  ⟨some 17, .mov (.t 3), none⟩,
  ⟨some 18, .iad 1 (.t 16) (.t 17), none⟩,
  ⟨some 19, .load false 1 (.t 18), none⟩,
  ⟨some 20, .mov (.t 0), none⟩,
  ⟨some 21, .mov (.t 4), none⟩,
  ⟨some 22, .iad 1 (.t 20) (.t 21), none⟩,
  ⟨some 23, .load false 1 (.t 22), none⟩,
  ⟨some 24, .bin .eql (.t 19) (.t 23), none⟩]
def c_r06_Distinct_r6 (F : String → Nat) : List LI := [⟨some 2, .mov (.k (.bool false)), none⟩]
def c_r06_Distinct_r7 (F : String → Nat) : List LI := [⟨some 14, .mov (.t 4), none⟩,
  ⟨some 15, .bin .add (.t 14) (.k (.int .i64 (1))), none⟩,
  ⟨some 4, .mov (.t 15), none⟩]
def c_r06_Distinct_b8 (F : String → Nat) : LC := (.seq (.seq (.reg (c_r06_Distinct_r4 F) [0, 3, 4, 13]) (.cond (.t 13) .skip (.exit 2))) (.seq (.block 3 (.seq (.dreg [] (c_r06_Distinct_r5 F) [0, 3, 4, 24]) (.cond (.t 24) (.seq (.reg (c_r06_Distinct_r6 F) [2]) .ret) .skip))) (.reg (c_r06_Distinct_r7 F) [0, 3, 4])))
def c_r06_Distinct_r9 (F : String → Nat) : List LI := [⟨some 9, .mov (.t 3), none⟩,
  ⟨some 10, .bin .add (.t 9) (.k (.int .i64 (1))), none⟩,
  ⟨some 3, .mov (.t 10), none⟩]
def c_r06_Distinct_b10 (F : String → Nat) : LC := (.seq (.seq (.reg (c_r06_Distinct_r2 F) [0, 3, 8]) (.cond (.t 8) .skip (.exit 0))) (.seq (.block 1 (.seq (.reg (c_r06_Distinct_r3 F) [0, 3, 4]) (.block 2 (.loop [0, 3, 4] (c_r06_Distinct_b8 F))))) (.reg (c_r06_Distinct_r9 F) [0, 3])))
def c_r06_Distinct_r11 (F : String → Nat) : List LI := [⟨some 2, .mov (.k (.bool true)), none⟩]
def c_r06_Distinct (F : String → Nat) : LC := (.seq (.reg (c_r06_Distinct_r0 F) [0]) (.seq (.seq (.reg (c_r06_Distinct_r1 F) [0, 3]) (.block 0 (.loop [0, 3] (c_r06_Distinct_b10 F)))) (.seq (.reg (c_r06_Distinct_r11 F) [2]) .ret)))
def h_r06_Distinct : Hints := ⟨[], fun _ => [], tab [(0, [0]), (1, [0, 3]), (2, [0, 3, 8]), (3, [0, 3]), (4, [0, 3, 4]), (5, [0, 3, 4, 13]), (6, [0, 3, 4]), (7, [0, 3, 4, 24]), (8, [2]), (9, [2])], tab [(2, [0, 3]), (5, [0, 3, 4])]⟩

/- r06.Injective -/
def c_r06_Injective_r0 (F : String → Nat) : List LI := [⟨some 3, .bx (.t 0), none⟩,
  ⟨some 4, .bx (.t 1), none⟩,
  ⟨some 5, .bx (.t 2), none⟩,
  ⟨some 6, .mov (.k (.bool false)), none⟩]
def c_r06_Injective_r1 (F : String → Nat) : List LI := [⟨some 7, .load true 2 (.t 3), none⟩,
  ⟨some 8, .load true 2 (.t 4), none⟩,
  ⟨some 9, .load true 2 (.t 5), none⟩,
  ⟨some 10, .call (F "r06.Valid") [.t 7, .t 8, .t 9] [], none⟩,
  ⟨some 11, .bin .eql (.t 10) (.k (.int .i64 (0))), none⟩,
  ⟨some 12, .mov (.t 11), none⟩,
  ⟨some 13, .fad 0 (.t 5), some (12, true)⟩,
  ⟨some 14, .load false 1 (.t 13), some (12, true)⟩,
  ⟨some 15, .call (F "r06.Distinct") [.t 14] [], some (12, true)⟩,
  ⟨some 16, .pick (.t 12) (.t 15) (.k (.bool false)), none⟩,
  ⟨some 17, .mov (.t 16), none⟩,
  ⟨some 18, .fad 1 (.t 5), some (17, true)⟩,
  ⟨some 19, .load false 1 (.t 18), some (17, true)⟩,
  ⟨some 20, .call (F "r06.Distinct") [.t 19] [], some (17, true)⟩,
  ⟨some 21, .pick (.t 17) (.t 20) (.k (.bool false)), none⟩,
  ⟨some 6, .mov (.t 21), none⟩]
def c_r06_Injective (F : String → Nat) : LC := (.seq (.reg (c_r06_Injective_r0 F) [3, 4, 5]) (.seq (.reg (c_r06_Injective_r1 F) [6]) .ret))
def h_r06_Injective : Hints := ⟨[], fun _ => [], tab [(0, [3, 4, 5]), (1, [6])], tab []⟩

attribute [go_sem] c_r06_Distinct_r0 c_r06_Distinct_r1 c_r06_Distinct_r2 c_r06_Distinct_r3 c_r06_Distinct_r4 c_r06_Distinct_r5 c_r06_Distinct_r6 c_r06_Distinct_r7 c_r06_Distinct_r9 c_r06_Distinct_r11 c_r06_Distinct c_r06_Injective_r0 c_r06_Injective_r1 c_r06_Injective
section
variable (P : Program) (F : String → Nat)
def K_r06_Distinct : Prop := ∀ l : List Int, l.length ≤ maxL → FC P (F "r06.Distinct") [.lst 1 (ints l)] (.bool (distinct l)) []
def K_r06_Injective : Prop := ∀ (a b : G) (m : Mo), m.n.length ≤ maxL → m.e.length ≤ maxL → FC P (F "r06.Injective") [gD a, gD b, mD m] (.bool (injM a b m)) []
end
section
variable {P : Program} {F : String → Nat} {α : Type}
theorem validM_len {a b : G} {m : Mo} (h : validM a b m = 0) : m.n.length ≤ 40 ∧ m.e.length ≤ 80 ∧ a.n.length ≤ 40 ∧ a.e.length ≤ 80 ∧ b.n.length ≤ 40 ∧ b.e.length ≤ 80 := by
  obtain ⟨h1, h2, h3, h4, _⟩ := validM_spec h
  obtain ⟨a1, a2, _⟩ := valid_spec h1
  obtain ⟨b1, b2, _⟩ := valid_spec h2
  omega
/-- No element is equal to one ahead of it, up to here. -/
theorem nodup_take {l : List Int} {i : Nat} (h : i < l.length) : (l.take (i + 1)).Nodup ↔ (l.take i).Nodup ∧ ∀ k : Nat, k < i → gt l i ≠ gt l k := by
  rw [take_gt h, List.nodup_append]
  simp only [List.nodup_cons, List.not_mem_nil, not_false_eq_true, List.nodup_nil, and_self, true_and, List.mem_cons, or_false, forall_eq, ne_eq]
  refine and_congr_right fun _ => ⟨fun hh k hk e => ?_, fun hh x hx e => ?_⟩
  · refine hh (gt l k) ?_ e.symm
    rw [gt_nat (by omega)]
    exact List.mem_take_iff_getElem.2 ⟨k, by omega, rfl⟩
  · obtain ⟨k, hk, rfl⟩ := List.mem_take_iff_getElem.1 hx
    refine hh k (by omega) ?_
    rw [gt_nat (l := l) (i := k) (by omega)]
    exact e.symm
theorem w_r06_Distinct (l : List Int) (hl : l.length ≤ maxL) : W P (c_r06_Distinct F) (Done [.t 2] [] (.bool (distinct l)) []) (init [.lst 1 (ints l)]) := by
  refine W_of ?_
  unfold maxL at hl
  simp (config := { maxSteps := 1000000 }) (disch := first | omega | (simp only [go_sem]; omega)) only [go_sem, ↓reduceIte]
  refine W_loop (fun i : Nat => ⟨[(0, .lst 1 (ints l)), (3, .int .i64 i)], [], 0⟩) (fun i => i ≤ l.length ∧ (l.take i).Nodup) (fun i => l.length - i) 0 ?_ ?_ ?_
  · simp (config := { maxSteps := 1000000 }) (disch := first | omega | (simp only [go_sem]; omega)) only [go_sem, ↓reduceIte]
    rfl
  · simp
  · rintro i ⟨hi, hn⟩
    simp (config := { maxSteps := 1000000 }) (disch := first | omega | (simp only [go_sem]; omega)) only [go_sem, ↓reduceIte, c_r06_Distinct_b10]
    refine bran_dec (fun c => ?_) (fun c => ?_)
    · have ht := nodup_take (l := l) (i := i) (by omega)
      simp (config := { maxSteps := 1000000 }) (disch := first | omega | (simp only [go_sem]; omega)) only [go_sem, ↓reduceIte]
      refine W_loop (fun k : Nat => ⟨[(0, .lst 1 (ints l)), (3, .int .i64 i), (4, .int .i64 k)], [], 0⟩) (fun k => k ≤ i ∧ ∀ j : Nat, j < k → gt l i ≠ gt l j) (fun k => i - k) 0 ?_ ?_ ?_
      · simp (config := { maxSteps := 1000000 }) (disch := first | omega | (simp only [go_sem]; omega)) only [go_sem, ↓reduceIte]
        rfl
      · simp
      · rintro k ⟨hk, hd⟩
        simp (config := { maxSteps := 1000000 }) (disch := first | omega | (simp only [go_sem]; omega)) only [go_sem, ↓reduceIte, c_r06_Distinct_b8]
        refine bran_dec (fun d => ?_) (fun d => ?_)
        · simp (config := { maxSteps := 1000000 }) (disch := first | omega | (simp only [go_sem]; omega)) only [go_sem, ↓reduceIte]
          refine bran_dec (fun e => ?_) (fun e => ?_)
          · simp (config := { maxSteps := 1000000 }) (disch := first | omega | (simp only [go_sem]; omega)) only [go_sem, ↓reduceIte]
            have : ¬ l.Nodup := fun h => by
              have h2 := ht.1 (h.sublist (List.take_sublist _ _))
              exact h2.2 k (by omega) e
            simp [distinct, this]
          · simp (config := { maxSteps := 1000000 }) (disch := first | omega | (simp only [go_sem]; omega)) only [go_sem, ↓reduceIte]
            refine ⟨k + 1, by simp, ⟨by omega, fun j hj => ?_⟩, by omega⟩
            by_cases hjk : j = k
            · subst hjk; exact e
            · exact hd j (by omega)
        · simp (config := { maxSteps := 1000000 }) (disch := first | omega | (simp only [go_sem]; omega)) only [go_sem, ↓reduceIte]
          exact ⟨i + 1, by simp, ⟨by omega, ht.2 ⟨hn, fun j hj => hd j (by omega)⟩⟩, by omega⟩
    · simp (config := { maxSteps := 1000000 }) (disch := first | omega | (simp only [go_sem]; omega)) only [go_sem, ↓reduceIte]
      rw [List.take_of_length_le (by omega)] at hn
      simp [distinct, hn]
theorem w_r06_Injective (hv : K_r06_Valid P F) (hd : K_r06_Distinct P F) (a b : G) (m : Mo) (h1 : m.n.length ≤ maxL) (h2 : m.e.length ≤ maxL) : W P (c_r06_Injective F) (Done [.t 6] [] (.bool (injM a b m)) []) (init [gD a, gD b, mD m]) := by
  refine W_of ?_
  have rv := hv a b m
  have hi : injM a b m = (decide (validM a b m = 0) && (distinct m.n && distinct m.e)) := rfl
  rw [hi]
  generalize validM a b m = v at *
  have r1 := hd m.n h1
  have r2 := hd m.e h2
  obtain ⟨an, ae⟩ := a
  obtain ⟨bn, be⟩ := b
  obtain ⟨mn, me⟩ := m
  simp only [gD, mD] at rv r1 r2 ⊢
  simp (config := { maxSteps := 1000000 }) (disch := first | omega | (simp only [go_sem]; omega)) only [go_sem, ↓reduceIte]
  refine call_by rv ?_
  simp (config := { maxSteps := 1000000 }) (disch := first | omega | (simp only [go_sem]; omega)) only [go_sem, ↓reduceIte]
  refine bran_dec (fun c => ?_) (fun c => ?_)
  · simp (config := { maxSteps := 1000000 }) (disch := first | omega | (simp only [go_sem]; omega)) only [go_sem, ↓reduceIte, c]
    refine call_by r1 ?_
    simp (config := { maxSteps := 1000000 }) (disch := first | omega | (simp only [go_sem]; omega)) only [go_sem, ↓reduceIte]
    refine bran_by (fun d => ?_) (fun d => ?_)
    · simp (config := { maxSteps := 1000000 }) (disch := first | omega | (simp only [go_sem]; omega)) only [go_sem, ↓reduceIte, c, d]
      refine call_by r2 ?_
      simp (config := { maxSteps := 1000000 }) (disch := first | omega | (simp only [go_sem]; omega)) only [go_sem, ↓reduceIte, c, d]
    · simp (config := { maxSteps := 1000000 }) (disch := first | omega | (simp only [go_sem]; omega)) only [go_sem, ↓reduceIte, c, d]
  · simp (config := { maxSteps := 1000000 }) (disch := first | omega | (simp only [go_sem]; omega)) only [go_sem, ↓reduceIte, c]
end
end Go.Am
namespace Go.Am
open Go
set_option linter.unusedVariables false
set_option linter.unusedSimpArgs false
section
theorem gt_setB {α : Type} [Inhabited α] {l : List α} {k i : Nat} {v : α} (hi : i < l.length) : gt (l.set k v) i = if k = i then v else gt l i := by
  rw [gt_nat (by simpa using hi), gt_nat hi, List.getElem_set]
theorem sel_asc (p : Nat → Bool) (n : Nat) : AscL (sel p n) n := ⟨sel_pair p n, fun x hx => by obtain ⟨k, h1, _, rfl⟩ := sel_mem.1 hx; omega⟩
theorem closeP_ok {g : G} {ns es : List Int} (hv : validG g = 0) : PK g (closeP g ns es) := by
  refine ⟨hv, sel_asc _ _, sel_asc _ _, fun x hx => ?_⟩
  obtain ⟨k, hk, hk2, rfl⟩ := sel_mem.1 hx
  simp only [decide_eq_true_eq] at hk2
  obtain ⟨_, t2, t3⟩ := edge_fits hv (i := k) (by omega)
  obtain ⟨a, ha, ha2⟩ := gtI t2
  obtain ⟨b, hb, hb2⟩ := gtI t3
  simp only [closeP]
  rw [ha2, hb2, sel_memN, sel_memN]
  refine ⟨⟨ha, ?_⟩, hb, ?_⟩
  · simp only [Bool.or_eq_true, decide_eq_true_eq]
    exact .inr (ends_mem.2 ⟨k, hk2, .inl ha2⟩)
  · simp only [Bool.or_eq_true, decide_eq_true_eq]
    exact .inr (ends_mem.2 ⟨k, hk2, .inr hb2⟩)
end
end Go.Am
namespace Go.Am
open Go
set_option linter.unusedVariables false
set_option linter.unusedSimpArgs false
attribute [local irreducible] W
/- r07.Few -/
def c_r07_Few_r0 (F : String → Nat) : List LI := [⟨some 2, .bx (.t 0), none⟩,
  ⟨some 4, .mov (.k (.bool false)), none⟩]
def c_r07_Few_r1 (F : String → Nat) : List LI := [⟨some 5, .fad 0 (.t 2), none⟩,
  ⟨some 6, .load false 1 (.t 5), none⟩,
  ⟨some 7, .len (.t 6), none⟩,
  ⟨some 8, .fad 1 (.t 2), none⟩,
  ⟨some 9, .load false 1 (.t 8), none⟩,
  ⟨some 10, .len (.t 9), none⟩,
  ⟨some 11, .bin .add (.t 7) (.t 10), none⟩,
  ⟨some 12, .mov (.t 1), none⟩,
  ⟨some 13, .bin .leq (.t 11) (.t 12), none⟩,
  ⟨some 4, .mov (.t 13), none⟩]
def c_r07_Few (F : String → Nat) : LC := (.seq (.reg (c_r07_Few_r0 F) [1, 2]) (.seq (.reg (c_r07_Few_r1 F) [4]) .ret))
def h_r07_Few : Hints := ⟨[], fun _ => [], tab [(0, [1, 2]), (1, [4])], tab []⟩

attribute [go_sem] c_r07_Few_r0 c_r07_Few_r1 c_r07_Few
section
variable (P : Program) (F : String → Nat)
def K_r07_Few : Prop := ∀ (m : Mo) (n : Int), m.n.length ≤ maxL → m.e.length ≤ maxL → FC P (F "r07.Few") [mD m, .int .i64 n] (.bool (fewM m n)) []
end
section
variable {P : Program} {F : String → Nat} {α : Type}
theorem w_r07_Few (m : Mo) (n : Int) (h1 : m.n.length ≤ maxL) (h2 : m.e.length ≤ maxL) : W P (c_r07_Few F) (Done [.t 4] [] (.bool (fewM m n)) []) (init [mD m, .int .i64 n]) := by
  refine W_of ?_
  obtain ⟨mn, me⟩ := m
  simp only [maxL] at h1 h2
  simp (config := { maxSteps := 1000000 }) (disch := first | omega | (simp only [go_sem]; omega)) only [go_sem, ↓reduceIte, mD, fewM]
end
end Go.Am
namespace Go.Am
open Go
set_option linter.unusedVariables false
set_option linter.unusedSimpArgs false
attribute [local irreducible] W
/- r07.marked -/
def c_r07_marked_r0 (F : String → Nat) : List LI := [⟨some 2, .mov (.k (.nl 1)), none⟩]
def c_r07_marked_r1 (F : String → Nat) : List LI := [⟨some 3, .mov (.k (.nl 1)), none⟩]
def c_r07_marked_r2 (F : String → Nat) : List LI := [⟨some 4, .mov (.k (.int .i64 (0))), none⟩]
def c_r07_marked_r3 (F : String → Nat) : List LI := [⟨some 5, .mov (.t 4), none⟩,
  ⟨some 6, .mov (.t 0), none⟩,
  ⟨some 7, .len (.t 6), none⟩,
  ⟨some 8, .bin .lss (.t 5) (.t 7), none⟩]
def c_r07_marked_r4 (F : String → Nat) : List LI := [⟨some 11, .mov (.t 0), none⟩,
  ⟨some 12, .mov (.t 4), none⟩,
  ⟨some 13, .iad 1 (.t 11) (.t 12), none⟩,
  ⟨some 14, .load false 1 (.t 13), none⟩]
def c_r07_marked_r5 (F : String → Nat) : List LI := [⟨some 15, .mov (.t 3), none⟩,
  ⟨some 16, .mov (.t 4), none⟩,
  ⟨some 17, .buildSl 1 8 (.int .i64 (0)) 1 [(0, .t 16)], none⟩,
  ⟨some 18, .app 1 8 (.t 15) (.t 17), none⟩,
  ⟨some 3, .mov (.t 18), none⟩]
def c_r07_marked_r6 (F : String → Nat) : List LI := [⟨some 9, .mov (.t 4), none⟩,
  ⟨some 10, .bin .add (.t 9) (.k (.int .i64 (1))), none⟩,
  ⟨some 4, .mov (.t 10), none⟩]
def c_r07_marked_b7 (F : String → Nat) : LC := (.seq (.seq (.reg (c_r07_marked_r3 F) [0, 3, 4, 8]) (.cond (.t 8) .skip (.exit 0))) (.seq (.block 1 (.seq (.reg (c_r07_marked_r4 F) [0, 3, 4, 14]) (.cond (.t 14) (.reg (c_r07_marked_r5 F) [0, 3, 4]) .skip))) (.reg (c_r07_marked_r6 F) [0, 3, 4])))
def c_r07_marked_r8 (F : String → Nat) : List LI := [⟨some 19, .mov (.t 3), none⟩,
  ⟨some 2, .mov (.t 19), none⟩]
def c_r07_marked (F : String → Nat) : LC := (.seq (.reg (c_r07_marked_r0 F) [0]) (.seq (.reg (c_r07_marked_r1 F) [0, 3]) (.seq (.seq (.reg (c_r07_marked_r2 F) [0, 3, 4]) (.block 0 (.loop [0, 3, 4] (c_r07_marked_b7 F)))) (.seq (.reg (c_r07_marked_r8 F) [2]) .ret))))
def h_r07_marked : Hints := ⟨[], fun _ => [], tab [(0, [0]), (1, [0, 3]), (2, [0, 3, 4]), (3, [0, 3, 4, 8]), (4, [0, 3, 4]), (5, [0, 3, 4, 14]), (6, [0, 3, 4]), (7, [2])], tab [(3, [0, 3, 4])]⟩

/- r07.Least -/
def c_r07_Least_r0 (F : String → Nat) : List LI := [⟨some 3, .bx (.t 0), none⟩,
  ⟨some 6, .alloc [.nl 1, .nl 1], none⟩]
def c_r07_Least_r1 (F : String → Nat) : List LI := [⟨some 9, .buildSl 1 1 (.bool false) 0 [], none⟩,
  ⟨some 10, .mov (.t 1), none⟩,
  ⟨some 11, .app 1 1 (.t 9) (.t 10), none⟩,
  ⟨some 7, .mov (.t 11), none⟩]
def c_r07_Least_r2 (F : String → Nat) : List LI := [⟨some 8, .mov (.k (.int .i64 (0))), none⟩]
def c_r07_Least_r3 (F : String → Nat) : List LI := [⟨some 12, .mov (.t 8), none⟩,
  ⟨some 13, .mov (.t 2), none⟩,
  ⟨some 14, .len (.t 13), none⟩,
  ⟨some 15, .bin .lss (.t 12) (.t 14), none⟩]
def c_r07_Least_r4 (F : String → Nat) : List LI := [⟨some 18, .mov (.t 2), none⟩,
  ⟨some 19, .mov (.t 8), none⟩,
  ⟨some 20, .iad 1 (.t 18) (.t 19), none⟩,
  ⟨some 21, .load false 1 (.t 20), none⟩]
def c_r07_Least_r5 (F : String → Nat) : List LI := [⟨some 22, .mov (.t 7), none⟩,
  ⟨some 23, .fad 1 (.t 3), none⟩,
  ⟨some 24, .load false 1 (.t 23), none⟩,
  ⟨some 25, .mov (.t 8), none⟩,
  ⟨some 26, .iad 3 (.t 24) (.t 25), none⟩,
  ⟨some 27, .fad 1 (.t 26), none⟩,
  ⟨some 28, .load false 1 (.t 27), none⟩,
  ⟨some 29, .mov (.t 7), none⟩,
  ⟨some 30, .fad 1 (.t 3), none⟩,
  ⟨some 31, .load false 1 (.t 30), none⟩,
  ⟨some 32, .mov (.t 8), none⟩,
  ⟨some 33, .iad 3 (.t 31) (.t 32), none⟩,
  ⟨some 34, .fad 2 (.t 33), none⟩,
  ⟨some 35, .load false 1 (.t 34), none⟩,
  ⟨some 36, .iad 1 (.t 22) (.t 28), none⟩,
  ⟨none, .store 1 (.t 36) (.k (.bool true)), none⟩,
  ⟨some 37, .iad 1 (.t 29) (.t 35), none⟩,
  ⟨none, .store 1 (.t 37) (.k (.bool true)), none⟩]
def c_r07_Least_r6 (F : String → Nat) : List LI := [⟨some 16, .mov (.t 8), none⟩,
  ⟨some 17, .bin .add (.t 16) (.k (.int .i64 (1))), none⟩,
  ⟨some 8, .mov (.t 17), none⟩]
def c_r07_Least_b7 (F : String → Nat) : LC := (.seq (.seq (.reg (c_r07_Least_r3 F) [2, 3, 6, 7, 8, 15]) (.cond (.t 15) .skip (.exit 0))) (.seq (.block 1 (.seq (.reg (c_r07_Least_r4 F) [2, 3, 6, 7, 8, 21]) (.cond (.t 21) (.dreg [] (c_r07_Least_r5 F) [2, 3, 6, 7, 8]) .skip))) (.reg (c_r07_Least_r6 F) [2, 3, 6, 7, 8])))
def c_r07_Least_r8 (F : String → Nat) : List LI := [⟨some 38, .mov (.t 7), none⟩,
  ⟨some 39, .call (F "r07.marked") [.t 38] [], none⟩,
  ⟨some 40, .mov (.t 2), none⟩,
  ⟨some 41, .call (F "r07.marked") [.t 40] [], none⟩,
  ⟨some 42, .build [.nl 1, .nl 1] [(0, 1, .t 39), (1, 1, .t 41)], none⟩,
  ⟨none, .store 2 (.t 6) (.t 42), none⟩]
def c_r07_Least (F : String → Nat) : LC := (.seq (.reg (c_r07_Least_r0 F) [1, 2, 3, 6]) (.seq (.reg (c_r07_Least_r1 F) [2, 3, 6, 7]) (.seq (.seq (.reg (c_r07_Least_r2 F) [2, 3, 6, 7, 8]) (.block 0 (.loop [2, 3, 6, 7, 8] (c_r07_Least_b7 F)))) (.seq (.reg (c_r07_Least_r8 F) [6]) .ret))))
def h_r07_Least : Hints := ⟨[], fun _ => [], tab [(0, [1, 2, 3, 6]), (1, [2, 3, 6, 7]), (2, [2, 3, 6, 7, 8]), (3, [2, 3, 6, 7, 8, 15]), (4, [2, 3, 6, 7, 8]), (5, [2, 3, 6, 7, 8, 21]), (6, [2, 3, 6, 7, 8]), (7, [6])], tab [(3, [2, 3, 6, 7, 8])]⟩

attribute [go_sem] c_r07_marked_r0 c_r07_marked_r1 c_r07_marked_r2 c_r07_marked_r3 c_r07_marked_r4 c_r07_marked_r5 c_r07_marked_r6 c_r07_marked_r8 c_r07_marked c_r07_Least_r0 c_r07_Least_r1 c_r07_Least_r2 c_r07_Least_r3 c_r07_Least_r4 c_r07_Least_r5 c_r07_Least_r6 c_r07_Least_r8 c_r07_Least
def leastP (g : G) (bn be : List Bool) : Mo := ⟨sel (fun k : Nat => gt bn k || decide ((k : Int) ∈ endsL g (markL be))) bn.length, markL be⟩
section
variable (P : Program) (F : String → Nat)
def K_r07_marked : Prop := ∀ b : List Bool, b.length ≤ 1000 → FC P (F "r07.marked") [.lst 1 (bls b)] (.arr 1 (ints (markL b))) []
def K_r07_Least : Prop := ∀ (g : G) (bn be : List Bool), validG g = 0 → bn.length = g.n.length → be.length = g.e.length → FC P (F "r07.Least") [gD g, .lst 1 (bls bn), .lst 1 (bls be)] (mA (leastP g bn be)) []
end
section
variable {P : Program} {F : String → Nat} {α : Type}
theorem w_r07_marked (b : List Bool) (hb : b.length ≤ 1000) : W P (c_r07_marked F) (Done [.t 2] [] (.arr 1 (ints (markL b))) []) (init [.lst 1 (bls b)]) := by
  refine W_of ?_
  have hM : markL b = sel (fun k : Nat => gt b k) b.length := rfl
  have sl := sel_len (fun k : Nat => gt b k)
  have ss := sel_succ (fun k : Nat => gt b k)
  have s0 := sel_zero (fun k : Nat => gt b k)
  rw [hM]
  clear hM
  generalize hS : sel (fun k : Nat => gt b k) = S at *
  simp (config := { maxSteps := 1000000 }) (disch := first | omega | (simp only [go_sem]; omega)) only [go_sem, ↓reduceIte]
  refine W_loop (fun i : Nat => ⟨[(0, .lst 1 (bls b)), (3, .sl 0 0 (S i).length), (4, .int .i64 i)], [(0, .arr 1 (ints (S i)))], 1⟩) (fun i => i ≤ b.length) (fun i => b.length - i) 0 ?_ ?_ ?_
  · simp (config := { maxSteps := 1000000 }) (disch := first | omega | (simp only [go_sem]; omega)) only [go_sem, ↓reduceIte, s0, ints_nil]
    rfl
  · simp
  · intro i hi
    have sli := sl i
    by_cases c : i < b.length
    · have g1 : decide ((i : Int) < b.length) = true := decide_eq_true (by omega)
      have hs := ss i
      generalize hb' : gt b i = t at *
      cases t
      · simp (config := { maxSteps := 1000000 }) (disch := first | omega | (simp only [go_sem]; omega)) only [go_sem, ↓reduceIte, c_r07_marked_b7, g1, hb']
        exact ⟨i + 1, by simp [hs], by omega, by omega⟩
      · simp (config := { maxSteps := 1000000 }) (disch := first | omega | (simp only [go_sem]; omega)) only [go_sem, ↓reduceIte, c_r07_marked_b7, g1, hb']
        exact ⟨i + 1, by simp [hs], by omega, by omega⟩
    · have g1 : decide ((i : Int) < b.length) = false := decide_eq_false (by omega)
      obtain rfl : i = b.length := by omega
      simp (config := { maxSteps := 1000000 }) (disch := first | omega | (simp only [go_sem]; omega)) only [go_sem, ↓reduceIte, c_r07_marked_b7, g1]
theorem markL_mem {b : List Bool} {k : Nat} : (k : Int) ∈ markL b ↔ k < b.length ∧ gt b k = true := sel_memN
set_option maxHeartbeats 1000000 in
theorem w_r07_Least (hm : K_r07_marked P F) (g : G) (bn be : List Bool) (hv : validG g = 0) (h1 : bn.length = g.n.length) (h2 : be.length = g.e.length) : W P (c_r07_Least F) (Done [.c 6 true 2] [] (mA (leastP g bn be)) []) (init [gD g, .lst 1 (bls bn), .lst 1 (bls be)]) := by
  refine W_of ?_
  have vs := valid_spec hv
  have hef : ∀ i : Nat, i < g.e.length → (0 ≤ (gt g.e i).f ∧ (gt g.e i).f < g.n.length) ∧ (0 ≤ (gt g.e i).o ∧ (gt g.e i).o < g.n.length) := fun i hi => (edge_fits hv (i := i) (by omega)).2
  have hL : leastP g bn be = ⟨sel (fun k : Nat => gt bn k || decide ((k : Int) ∈ endsL g (markL be))) bn.length, markL be⟩ := rfl
  have r2 := hm be (by omega)
  have hm1 := fun z : List Bool => hm z
  have ends : ∀ (i : Nat) (x : Int), x ∈ endsL g ((markL be).filter fun e => decide (e < ((i + 1 : Nat) : Int))) ↔ x ∈ endsL g ((markL be).filter fun e => decide (e < (i : Int))) ∨ (i < be.length ∧ gt be i = true ∧ ((gt g.e i).f = x ∨ (gt g.e i).o = x)) := fun i x => by
    rw [ends_mem, ends_mem]
    constructor
    · rintro ⟨e, he, hx⟩
      rw [List.mem_filter] at he
      obtain ⟨he, hlt⟩ := he
      obtain ⟨k, hk, hk2, rfl⟩ := sel_mem.1 he
      by_cases c : k = i
      · subst c; exact .inr ⟨hk, hk2, hx⟩
      · refine .inl ⟨k, List.mem_filter.2 ⟨he, ?_⟩, hx⟩
        simp at hlt ⊢
        omega
    · rintro (⟨e, he, hx⟩ | ⟨h3, h4, hx⟩)
      · rw [List.mem_filter] at he
        refine ⟨e, List.mem_filter.2 ⟨he.1, ?_⟩, hx⟩
        have := he.2
        simp at this ⊢
        omega
      · exact ⟨i, List.mem_filter.2 ⟨markL_mem.2 ⟨h3, h4⟩, by simp; omega⟩, hx⟩
  have endsZ : ∀ x : Int, ¬ x ∈ endsL g ((markL be).filter fun e => decide (e < ((0 : Nat) : Int))) := fun x h => by
    obtain ⟨e, he, _⟩ := ends_mem.1 h
    rw [List.mem_filter] at he
    obtain ⟨k, _, _, rfl⟩ := sel_mem.1 he.1
    have := he.2
    simp at this
    omega
  have endsF : (markL be).filter (fun e => decide (e < (be.length : Int))) = markL be := List.filter_eq_self.2 fun e he => by
    obtain ⟨k, hk, _, rfl⟩ := sel_mem.1 he
    simpa using hk
  rw [hL]
  clear hL
  obtain ⟨gn, ge⟩ := g
  simp only [gD] at *
  simp (config := { maxSteps := 1000000 }) (disch := first | omega | (simp only [go_sem]; omega)) only [go_sem, ↓reduceIte]
  refine W_loop (fun s : Nat × List Bool => ⟨[(2, .lst 1 (bls be)), (3, .pt 0 0), (6, .pt 3 0), (7, .sl 4 0 gn.length), (8, .int .i64 s.1)], [(0, .box [.lst 1 (ints gn), .lst 3 (eds ge)]), (1, .arr 1 []), (2, .arr 1 []), (3, .box [.sl 1 0 0, .sl 2 0 0]), (4, .arr 1 (bls s.2))], 5⟩)
    (fun s => s.1 ≤ be.length ∧ s.2.length = gn.length ∧ ∀ k : Nat, k < gn.length → gt s.2 k = (gt bn k || decide ((k : Int) ∈ endsL ⟨gn, ge⟩ ((markL be).filter fun e => decide (e < (s.1 : Int)))))) (fun s => be.length - s.1) (0, bn) ?_ ?_ ?_
  · simp (config := { maxSteps := 1000000 }) (disch := first | omega | (simp only [go_sem]; omega)) only [go_sem, ↓reduceIte, h1]
    rfl
  · exact ⟨by simp, h1, fun k hk => by rw [decide_eq_false (endsZ k)]; simp⟩
  · rintro ⟨i, z⟩ ⟨i1, i2, i3⟩
    simp only at i1 i2 i3
    by_cases c : i < be.length
    · have g1 : decide ((i : Int) < be.length) = true := decide_eq_true (by omega)
      obtain ⟨⟨f1, f2⟩, o1, o2⟩ := hef i (by omega)
      generalize hb' : gt be i = t at *
      cases t
      · simp (config := { maxSteps := 1000000 }) (disch := first | omega | (simp only [go_sem]; omega)) only [go_sem, ↓reduceIte, c_r07_Least_b7, g1, hb']
        refine ⟨(i + 1, z), by simp, ⟨by simp only; omega, i2, fun k hk => ?_⟩, by simp only; omega⟩
        rw [i3 k hk]
        have := ends i k
        rw [hb'] at this
        have this' : (k : Int) ∈ endsL ⟨gn, ge⟩ ((markL be).filter fun e => decide (e < ((i + 1 : Nat) : Int))) ↔ (k : Int) ∈ endsL ⟨gn, ge⟩ ((markL be).filter fun e => decide (e < (i : Int))) := by rw [this]; simp
        simp only
        rw [decide_eq_decide.2 this']
      · simp (config := { maxSteps := 1000000 }) (disch := first | omega | (simp only [go_sem]; omega)) only [go_sem, ↓reduceIte, c_r07_Least_b7, g1, hb', i2]
        refine ⟨(i + 1, (z.set (gt ge i).f.toNat true).set (gt ge i).o.toNat true), by simp, ⟨by simp only; omega, by simp [i2], fun k hk => ?_⟩, by simp only; omega⟩
        have := ends i k
        rw [hb'] at this
        have this' : (k : Int) ∈ endsL ⟨gn, ge⟩ ((markL be).filter fun e => decide (e < ((i + 1 : Nat) : Int))) ↔ (k : Int) ∈ endsL ⟨gn, ge⟩ ((markL be).filter fun e => decide (e < (i : Int))) ∨ ((gt ge i).f = (k : Int) ∨ (gt ge i).o = (k : Int)) := by rw [this]; simp [c]
        have hdec : decide ((k : Int) ∈ endsL ⟨gn, ge⟩ ((markL be).filter fun e => decide (e < ((i + 1 : Nat) : Int)))) = (decide ((k : Int) ∈ endsL ⟨gn, ge⟩ ((markL be).filter fun e => decide (e < (i : Int)))) || (decide ((gt ge i).f = (k : Int)) || decide ((gt ge i).o = (k : Int)))) := by
          rw [Bool.eq_iff_iff]
          simp only [decide_eq_true_eq, Bool.or_eq_true]
          exact this'
        simp only
        rw [gt_setB (by simp; omega), gt_setB (by omega), i3 k hk, hdec]
        by_cases e1 : (gt ge i).o.toNat = k
        · have : (gt ge i).o = (k : Int) := by omega
          simp [e1, this, c]
        · by_cases e2 : (gt ge i).f.toNat = k
          · have : (gt ge i).f = (k : Int) := by omega
            simp [e1, e2, this, c]
          · have q1 : ¬ (gt ge i).o = (k : Int) := by omega
            have q2 : ¬ (gt ge i).f = (k : Int) := by omega
            simp [e1, e2, q1, q2]
    · have g1 : decide ((i : Int) < be.length) = false := decide_eq_false (by omega)
      obtain rfl : i = be.length := by omega
      rw [endsF] at i3
      have hz : markL z = sel (fun k : Nat => gt bn k || decide ((k : Int) ∈ endsL ⟨gn, ge⟩ (markL be))) bn.length := by
        refine asc_ext (sel_pair _ _) (sel_pair _ _) fun x => ?_
        rw [markL_x, sel_mem]
        constructor
        · rintro ⟨k, k1, k2, rfl⟩; exact ⟨k, by omega, by rw [← i3 k (by omega)]; exact k2, rfl⟩
        · rintro ⟨k, k1, k2, rfl⟩; exact ⟨k, by omega, by rw [i3 k (by omega)]; exact k2, rfl⟩
      have r1 := hm1 z (by omega)
      rw [hz] at r1
      generalize sel (fun k : Nat => gt bn k || decide ((k : Int) ∈ endsL ⟨gn, ge⟩ (markL be))) bn.length = w1 at *
      simp (config := { maxSteps := 1000000 }) (disch := first | omega | (simp only [go_sem]; omega)) only [go_sem, ↓reduceIte, c_r07_Least_b7, g1, i2]
      refine call_by r1 ?_
      simp (config := { maxSteps := 1000000 }) (disch := first | omega | (simp only [go_sem]; omega)) only [go_sem, ↓reduceIte]
      refine call_by r2 ?_
      simp (config := { maxSteps := 1000000 }) (disch := first | omega | (simp only [go_sem]; omega)) only [go_sem, ↓reduceIte]
      try rfl
theorem close_least {g : G} {ns es : List Int} {bn be : List Bool} (h1 : bn.length = g.n.length) (h2 : be.length = g.e.length) (h3 : ∀ k : Nat, k < g.n.length → gt bn k = decide ((k : Int) ∈ ns)) (h4 : ∀ k : Nat, k < g.e.length → gt be k = decide ((k : Int) ∈ es)) (h5 : ∀ x ∈ es, 0 ≤ x ∧ x < g.e.length) : leastP g bn be = closeP g ns es := by
  have hM : markL be = sel (fun k : Nat => decide ((k : Int) ∈ es)) g.e.length := asc_ext (sel_pair _ _) (sel_pair _ _) fun x => by
    rw [markL_x, sel_mem]
    constructor
    · rintro ⟨k, k1, k2, rfl⟩; exact ⟨k, by omega, by rw [← h4 k (by omega)]; exact k2, rfl⟩
    · rintro ⟨k, k1, k2, rfl⟩; exact ⟨k, by omega, by rw [h4 k (by omega)]; exact k2, rfl⟩
  have hE : ∀ x, x ∈ endsL g (markL be) ↔ x ∈ endsL g es := fun x => by
    rw [ends_mem, ends_mem, hM]
    constructor
    · rintro ⟨e, he, hx⟩
      obtain ⟨k, _, k2, rfl⟩ := sel_mem.1 he
      exact ⟨k, by simpa using k2, hx⟩
    · rintro ⟨e, he, hx⟩
      obtain ⟨k, hk, rfl⟩ := gtI (h5 e he)
      exact ⟨k, sel_memN.2 ⟨hk, by simpa using he⟩, hx⟩
  refine mo_extP (asc_ext (sel_pair _ _) (sel_pair _ _) fun x => ?_) hM
  rw [show (leastP g bn be).n = sel (fun k : Nat => gt bn k || decide ((k : Int) ∈ endsL g (markL be))) bn.length from rfl, show (closeP g ns es).n = sel (fun k : Nat => decide ((k : Int) ∈ ns) || decide ((k : Int) ∈ endsL g es)) g.n.length from rfl, sel_mem, sel_mem]
  constructor
  · rintro ⟨k, k1, k2, rfl⟩
    refine ⟨k, by omega, ?_, rfl⟩
    rw [h3 k (by omega), decide_eq_decide.2 (hE k)] at k2
    exact k2
  · rintro ⟨k, k1, k2, rfl⟩
    refine ⟨k, by omega, ?_, rfl⟩
    rw [h3 k (by omega), decide_eq_decide.2 (hE k)]
    exact k2
end
end Go.Am
namespace Go.Am
open Go
set_option linter.unusedVariables false
set_option linter.unusedSimpArgs false
attribute [local irreducible] W
/- r07.Made -/
def c_r07_Made_r0 (F : String → Nat) : List LI := [⟨some 2, .bx (.t 0), none⟩,
  ⟨some 4, .alloc [.nl 1, .nl 1], none⟩]
def c_r07_Made_r1 (F : String → Nat) : List LI := [⟨some 9, .fad 0 (.t 2), none⟩,
  ⟨some 10, .load false 1 (.t 9), none⟩,
  ⟨some 11, .len (.t 10), none⟩,
  ⟨some 12, .makeSl 1 1 (.bool false) (.t 11), none⟩,
  ⟨some 13, .fad 1 (.t 2), none⟩,
  ⟨some 14, .load false 1 (.t 13), none⟩,
  ⟨some 15, .len (.t 14), none⟩,
  ⟨some 16, .makeSl 1 1 (.bool false) (.t 15), none⟩,
  ⟨some 5, .mov (.t 12), none⟩,
  ⟨some 6, .mov (.t 16), none⟩]
def c_r07_Made_r2 (F : String → Nat) : List LI := [⟨some 7, .mov (.k (.int .i64 (0))), none⟩]
def c_r07_Made_r3 (F : String → Nat) : List LI := [⟨some 17, .mov (.t 7), none⟩,
  ⟨some 18, .mov (.t 5), none⟩,
  ⟨some 19, .len (.t 18), none⟩,
  ⟨some 20, .bin .lss (.t 17) (.t 19), none⟩]
def c_r07_Made_r4 (F : String → Nat) : List LI := [⟨some 23, .mov (.t 5), none⟩,
  ⟨some 24, .mov (.t 7), none⟩,
  ⟨some 25, .mov (.t 1), none⟩,
  ⟨some 26, .mov (.t 7), none⟩,
  ⟨some 27, .bin .rem (.t 26) (.k (.int .i64 (64))), none⟩,
  ⟨some 28, .bin .shr (.t 25) (.t 27), none⟩,
  ⟨some 29, .bin .and (.t 28) (.k (.int .u64 (1))), none⟩,
  ⟨some 30, .bin .eql (.t 29) (.k (.int .u64 (1))), none⟩,
  ⟨some 31, .iad 1 (.t 23) (.t 24), none⟩,
  ⟨none, .store 1 (.t 31) (.t 30), none⟩]
def c_r07_Made_r5 (F : String → Nat) : List LI := [⟨some 21, .mov (.t 7), none⟩,
  ⟨some 22, .bin .add (.t 21) (.k (.int .i64 (1))), none⟩,
  ⟨some 7, .mov (.t 22), none⟩]
def c_r07_Made_b6 (F : String → Nat) : LC := (.seq (.seq (.reg (c_r07_Made_r3 F) [1, 2, 4, 5, 6, 7, 20]) (.cond (.t 20) .skip (.exit 0))) (.seq (.block 1 (.reg (c_r07_Made_r4 F) [1, 2, 4, 5, 6, 7])) (.reg (c_r07_Made_r5 F) [1, 2, 4, 5, 6, 7])))
def c_r07_Made_r7 (F : String → Nat) : List LI := [⟨some 8, .mov (.k (.int .i64 (0))), none⟩]
def c_r07_Made_r8 (F : String → Nat) : List LI := [⟨some 32, .mov (.t 8), none⟩,
  ⟨some 33, .mov (.t 6), none⟩,
  ⟨some 34, .len (.t 33), none⟩,
  ⟨some 35, .bin .lss (.t 32) (.t 34), none⟩]
def c_r07_Made_r9 (F : String → Nat) : List LI := [⟨some 38, .mov (.t 6), none⟩,
  ⟨some 39, .mov (.t 8), none⟩,
  ⟨some 40, .mov (.t 1), none⟩,
  ⟨some 41, .mov (.t 5), none⟩,
  ⟨some 42, .len (.t 41), none⟩,
  ⟨some 43, .mov (.t 8), none⟩,
  ⟨some 44, .bin .add (.t 42) (.t 43), none⟩,
  ⟨some 45, .bin .rem (.t 44) (.k (.int .i64 (64))), none⟩,
  ⟨some 46, .bin .shr (.t 40) (.t 45), none⟩,
  ⟨some 47, .bin .and (.t 46) (.k (.int .u64 (1))), none⟩,
  ⟨some 48, .bin .eql (.t 47) (.k (.int .u64 (1))), none⟩,
  ⟨some 49, .iad 1 (.t 38) (.t 39), none⟩,
  ⟨none, .store 1 (.t 49) (.t 48), none⟩]
def c_r07_Made_r10 (F : String → Nat) : List LI := [⟨some 36, .mov (.t 8), none⟩,
  ⟨some 37, .bin .add (.t 36) (.k (.int .i64 (1))), none⟩,
  ⟨some 8, .mov (.t 37), none⟩]
def c_r07_Made_b11 (F : String → Nat) : LC := (.seq (.seq (.reg (c_r07_Made_r8 F) [1, 2, 4, 5, 6, 8, 35]) (.cond (.t 35) .skip (.exit 2))) (.seq (.block 3 (.reg (c_r07_Made_r9 F) [1, 2, 4, 5, 6, 8])) (.reg (c_r07_Made_r10 F) [1, 2, 4, 5, 6, 8])))
def c_r07_Made_r12 (F : String → Nat) : List LI := [⟨some 50, .load true 2 (.t 2), none⟩,
  ⟨some 51, .mov (.t 5), none⟩,
  ⟨some 52, .mov (.t 6), none⟩,
  ⟨some 53, .call (F "r07.Least") [.t 50, .t 51, .t 52] [], none⟩,
  ⟨none, .store 2 (.t 4) (.t 53), none⟩]
def c_r07_Made (F : String → Nat) : LC := (.seq (.reg (c_r07_Made_r0 F) [1, 2, 4]) (.seq (.dreg [(5, (some 16), [], false)] (c_r07_Made_r1 F) [1, 2, 4, 5, 6]) (.seq (.seq (.reg (c_r07_Made_r2 F) [1, 2, 4, 5, 6, 7]) (.block 0 (.loop [1, 2, 4, 5, 6, 7] (c_r07_Made_b6 F)))) (.seq (.seq (.reg (c_r07_Made_r7 F) [1, 2, 4, 5, 6, 8]) (.block 2 (.loop [1, 2, 4, 5, 6, 8] (c_r07_Made_b11 F)))) (.seq (.reg (c_r07_Made_r12 F) [4]) .ret)))))
def h_r07_Made : Hints := ⟨[], fun _ => [], tab [(0, [1, 2, 4]), (1, [1, 2, 4, 5, 6]), (2, [1, 2, 4, 5, 6, 7]), (3, [1, 2, 4, 5, 6, 7, 20]), (4, [1, 2, 4, 5, 6, 7]), (5, [1, 2, 4, 5, 6, 7]), (6, [1, 2, 4, 5, 6, 8]), (7, [1, 2, 4, 5, 6, 8, 35]), (8, [1, 2, 4, 5, 6, 8]), (9, [1, 2, 4, 5, 6, 8]), (10, [4])], tab [(3, [1, 2, 4, 5, 6, 7]), (7, [1, 2, 4, 5, 6, 8])]⟩

attribute [go_sem] c_r07_Made_r0 c_r07_Made_r1 c_r07_Made_r2 c_r07_Made_r3 c_r07_Made_r4 c_r07_Made_r5 c_r07_Made_r7 c_r07_Made_r8 c_r07_Made_r9 c_r07_Made_r10 c_r07_Made_r12 c_r07_Made
/-- The bit of a number. -/
def bitB (s i : Int) : Bool := decide (IntKind.u64.wrap ((BitVec.ofInt 64 (s.fdiv (2 ^ (min (i.tmod 64).toNat 64))) &&& 1#64).toNat : Int) = 1)
def bitL (s : Int) (n m : Nat) : List Bool := (List.range m).map fun k : Nat => bitB s ((n : Int) + (k : Int))
/-- The least part with the elements that bits name. -/
def partP (g : G) (s : Int) : Mo := leastP g (bitL s 0 g.n.length) (bitL s g.n.length g.e.length)
section
variable (P : Program) (F : String → Nat)
def K_r07_Made : Prop := ∀ (g : G) (s : Int), validG g = 0 → FC P (F "r07.Made") [gD g, .int .u64 s] (mA (partP g s)) []
end
section
variable {P : Program} {F : String → Nat} {α : Type}
theorem bitL_len (s : Int) (n m : Nat) : (bitL s n m).length = m := by simp [bitL]
theorem bitL_gt {s : Int} {n m k : Nat} (h : k < m) : gt (bitL s n m) (k : Int) = bitB s ((n : Int) + k) := by
  rw [gt_nat (by rw [bitL_len]; exact h)]
  simp [bitL]
theorem least_close {g : G} {bn be : List Bool} (h1 : bn.length = g.n.length) (h2 : be.length = g.e.length) : leastP g bn be = closeP g (markL bn) (markL be) := by
  have hm : ∀ (b : List Bool) (k : Nat), k < b.length → gt b k = decide ((k : Int) ∈ markL b) := fun b k hk => by
    rw [Bool.eq_iff_iff, decide_eq_true_eq, markL_mem]
    exact ⟨fun h => ⟨hk, h⟩, fun h => h.2⟩
  refine close_least h1 h2 (fun k hk => hm bn k (by omega)) (fun k hk => hm be k (by omega)) fun x hx => ?_
  obtain ⟨k, hk, _, rfl⟩ := sel_mem.1 hx
  omega
theorem partP_ok {g : G} {s : Int} (hv : validG g = 0) : PK g (partP g s) := by
  unfold partP
  rw [least_close (bitL_len _ _ _) (bitL_len _ _ _)]
  exact closeP_ok hv
theorem w_r07_Made (hl : K_r07_Least P F) (g : G) (s : Int) (hv : validG g = 0) : W P (c_r07_Made F) (Done [.c 4 true 2] [] (mA (partP g s)) []) (init [gD g, .int .u64 s]) := by
  refine W_of ?_
  have vs := valid_spec hv
  have r1 := hl g (bitL s 0 g.n.length) (bitL s g.n.length g.e.length) hv (bitL_len _ _ _) (bitL_len _ _ _)
  have hL : partP g s = leastP g (bitL s 0 g.n.length) (bitL s g.n.length g.e.length) := rfl
  rw [hL]
  clear hL
  have b0 := bitL_len s 0 g.n.length
  have b1 := bitL_len s g.n.length g.e.length
  have bg0 : ∀ k : Nat, k < g.n.length → gt (bitL s 0 g.n.length) (k : Int) = bitB s (k : Int) := fun k hk => by rw [bitL_gt hk]; simp
  have bg1 : ∀ k : Nat, k < g.e.length → gt (bitL s g.n.length g.e.length) (k : Int) = bitB s ((g.n.length : Int) + k) := fun k hk => bitL_gt hk
  generalize bitL s 0 g.n.length = x0 at *
  generalize bitL s g.n.length g.e.length = x1 at *
  have hnb : ∀ i : Int, 0 ≤ i → ¬ i.tmod 64 < 0 := fun i h => by rw [Int.tmod_eq_emod_of_nonneg h]; omega
  have hb : ∀ i : Int, decide (IntKind.u64.wrap ((BitVec.ofInt 64 (s.fdiv (2 ^ (min (i.tmod 64).toNat 64))) &&& 1#64).toNat : Int) = 1) = bitB s i := fun i => rfl
  have z0 : ¬ ((64 : Int) = 0) := by omega
  obtain ⟨gn, ge⟩ := g
  simp only [gD] at *
  simp (config := { maxSteps := 1000000 }) (disch := first | omega | (simp only [go_sem]; omega)) only [go_sem, ↓reduceIte]
  refine W_loop (fun t : Nat × List Bool => ⟨[(1, .int .u64 s), (2, .pt 0 0), (4, .pt 3 0), (5, .sl 4 0 gn.length), (6, .sl 5 0 ge.length), (7, .int .i64 t.1)],
    [(0, .box [.lst 1 (ints gn), .lst 3 (eds ge)]), (1, .arr 1 []), (2, .arr 1 []), (3, .box [.sl 1 0 0, .sl 2 0 0]), (4, .arr 1 (bls t.2)), (5, .arr 1 (bls (List.replicate ge.length false)))], 6⟩)
    (fun t => t.1 ≤ gn.length ∧ t.2.length = gn.length ∧ ∀ k : Nat, k < t.1 → gt t.2 k = bitB s k) (fun t => gn.length - t.1) (0, List.replicate gn.length false) ?_ ?_ ?_
  · simp (config := { maxSteps := 1000000 }) (disch := first | omega | (simp only [go_sem]; omega)) only [go_sem, ↓reduceIte]
    rfl
  · exact ⟨by simp, by simp, fun k hk => by simp at hk⟩
  · rintro ⟨i, z⟩ ⟨i1, i2, i3⟩
    simp only at i1 i2 i3
    by_cases c : i < gn.length
    · have g1 : decide ((i : Int) < gn.length) = true := decide_eq_true (by omega)
      have hi := hnb i (by omega)
      have hbi := hb i
      simp (config := { maxSteps := 1000000 }) (disch := first | omega | (simp only [go_sem]; omega)) only [go_sem, ↓reduceIte, c_r07_Made_b6, g1, z0, hi, hbi, i2]
      refine ⟨(i + 1, z.set i (bitB s i)), by simp; rfl, ⟨by simp only; omega, by simp [i2], fun k hk => ?_⟩, by simp only; omega⟩
      simp only at hk
      simp only
      rw [gt_setB (by omega)]
      by_cases e : i = k
      · subst e; simp
      · rw [if_neg e]; exact i3 k (by omega)
    · have g1 : decide ((i : Int) < gn.length) = false := decide_eq_false (by omega)
      obtain rfl : i = gn.length := by omega
      have hz : z = x0 := list_ext_gt (by omega) fun k hk => by rw [i3 k (by omega), bg0 k (by omega)]
      subst hz
      clear i3
      simp (config := { maxSteps := 1000000 }) (disch := first | omega | (simp only [go_sem]; omega)) only [go_sem, ↓reduceIte, c_r07_Made_b6, g1, i2]
      refine W_loop (fun t : Nat × List Bool => ⟨[(1, .int .u64 s), (2, .pt 0 0), (4, .pt 3 0), (5, .sl 4 0 gn.length), (6, .sl 5 0 ge.length), (8, .int .i64 t.1)],
        [(0, .box [.lst 1 (ints gn), .lst 3 (eds ge)]), (1, .arr 1 []), (2, .arr 1 []), (3, .box [.sl 1 0 0, .sl 2 0 0]), (4, .arr 1 (bls z)), (5, .arr 1 (bls t.2))], 6⟩)
        (fun t => t.1 ≤ ge.length ∧ t.2.length = ge.length ∧ ∀ k : Nat, k < t.1 → gt t.2 k = bitB s ((gn.length : Int) + k)) (fun t => ge.length - t.1) (0, List.replicate ge.length false) ?_ ?_ ?_
      · simp (config := { maxSteps := 1000000 }) (disch := first | omega | (simp only [go_sem]; omega)) only [go_sem, ↓reduceIte]
        rfl
      · exact ⟨by simp, by simp, fun k hk => by simp at hk⟩
      · rintro ⟨i, y⟩ ⟨j1, j2, j3⟩
        simp only at j1 j2 j3
        by_cases c : i < ge.length
        · have g1 : decide ((i : Int) < ge.length) = true := decide_eq_true (by omega)
          have hi := hnb ((gn.length : Int) + i) (by omega)
          have hbi := hb ((gn.length : Int) + i)
          simp (config := { maxSteps := 1000000 }) (disch := first | omega | (simp only [go_sem]; omega)) only [go_sem, ↓reduceIte, c_r07_Made_b11, g1, z0, hi, hbi, i2, j2]
          refine ⟨(i + 1, y.set i (bitB s ((gn.length : Int) + i))), by simp; rfl, ⟨by simp only; omega, by simp [j2], fun k hk => ?_⟩, by simp only; omega⟩
          simp only at hk
          simp only
          rw [gt_setB (by omega)]
          by_cases e : i = k
          · subst e; simp
          · rw [if_neg e]; exact j3 k (by omega)
        · have g1 : decide ((i : Int) < ge.length) = false := decide_eq_false (by omega)
          obtain rfl : i = ge.length := by omega
          have hz : y = x1 := list_ext_gt (by omega) fun k hk => by rw [j3 k (by omega), bg1 k (by omega)]
          subst hz
          clear j3
          generalize leastP ⟨gn, ge⟩ z y = w at *
          obtain ⟨wn, we⟩ := w
          simp only [mA] at *
          simp (config := { maxSteps := 1000000 }) (disch := first | omega | (simp only [go_sem]; omega)) only [go_sem, ↓reduceIte, c_r07_Made_b11, g1, i2, j2]
          refine call_by r1 ?_
          simp (config := { maxSteps := 1000000 }) (disch := first | omega | (simp only [go_sem]; omega)) only [go_sem, ↓reduceIte]
          try rfl
def shU64 : Sh := .int .u64
theorem rd_u64 {x : D} (h : HasEl shU64 x) : ∃ n : Int, x = .int .u64 n := by
  simp only [shU64, HasEl] at h
  obtain ⟨n, rfl, _⟩ := h
  exact ⟨n, rfl⟩
end
end Go.Am
namespace Go.Am
open Go
set_option linter.unusedVariables false
set_option linter.unusedSimpArgs false
attribute [local irreducible] W
/- subgraph.Extract -/
def c_subgraph_Extract_r0 (F : String → Nat) : List LI := [⟨some 2, .bx (.t 0), none⟩,
  ⟨some 3, .bx (.t 1), none⟩,
  ⟨some 4, .alloc [.nl 1, .nl 3], none⟩,
  ⟨some 5, .alloc [.nl 1, .nl 1], none⟩,
  ⟨some 6, .mov (.k (.int .i64 (0))), none⟩]
def c_subgraph_Extract_r1 (F : String → Nat) : List LI := [⟨some 14, .load true 2 (.t 2), none⟩,
  ⟨some 15, .load true 2 (.t 3), none⟩,
  ⟨some 16, .call (F "subgraph.Valid") [.t 14, .t 15] [], none⟩,
  ⟨some 7, .mov (.t 16), none⟩]
def c_subgraph_Extract_r2 (F : String → Nat) : List LI := [⟨some 17, .mov (.t 7), none⟩,
  ⟨some 18, .bin .neq (.t 17) (.k (.int .i64 (0))), none⟩]
def c_subgraph_Extract_r3 (F : String → Nat) : List LI := [⟨some 19, .build [.nl 1, .nl 3] [], none⟩,
  ⟨some 20, .build [.nl 1, .nl 1] [], none⟩,
  ⟨some 21, .mov (.t 7), none⟩,
  ⟨none, .store 2 (.t 4) (.t 19), none⟩,
  ⟨none, .store 2 (.t 5) (.t 20), none⟩,
  ⟨some 6, .mov (.t 21), none⟩]
def c_subgraph_Extract_r4 (F : String → Nat) : List LI := [⟨some 8, .alloc [.nl 1, .nl 3], none⟩]
def c_subgraph_Extract_r5 (F : String → Nat) : List LI := [⟨some 22, .fad 0 (.t 3), none⟩,
  ⟨some 23, .load false 1 (.t 22), none⟩,
  ⟨some 24, .len (.t 23), none⟩,
  ⟨some 25, .mov (.k (.int .i64 (0))), none⟩]
def c_subgraph_Extract_r6 (F : String → Nat) : List LI := [⟨some 26, .bin .lss (.t 25) (.t 24), none⟩]
def c_subgraph_Extract_r7 (F : String → Nat) : List LI := [⟨some 27, .iad 1 (.t 23) (.t 25), none⟩,
  ⟨some 28, .load false 1 (.t 27), none⟩,
  ⟨some 10, .mov (.t 28), none⟩]
def c_subgraph_Extract_r8 (F : String → Nat) : List LI := [⟨some 29, .fad 0 (.t 8), none⟩,
  ⟨some 30, .load false 1 (.t 29), none⟩,
  ⟨some 31, .fad 0 (.t 2), none⟩,
  ⟨some 32, .load false 1 (.t 31), none⟩,
  ⟨some 33, .mov (.t 10), none⟩,
  ⟨some 34, .iad 1 (.t 32) (.t 33), none⟩,
  ⟨some 35, .load false 1 (.t 34), none⟩,
  ⟨some 36, .buildSl 1 8 (.int .i64 (0)) 1 [(0, .t 35)], none⟩,
  ⟨some 37, .app 1 8 (.t 30) (.t 36), none⟩,
  ⟨some 38, .fad 0 (.t 8), none⟩,
  ⟨none, .store 1 (.t 38) (.t 37), none⟩]
def c_subgraph_Extract_r9 (F : String → Nat) : List LI := [⟨some 39, .bin .add (.t 25) (.k (.int .i64 (1))), none⟩,
  ⟨some 25, .mov (.t 39), none⟩]
def c_subgraph_Extract_b10 (F : String → Nat) : LC := (.seq (.reg (c_subgraph_Extract_r6 F) [2, 3, 4, 5, 8, 23, 24, 25, 26]) (.seq (.cond (.t 26) .skip (.exit 0)) (.seq (.block 1 (.seq (.reg (c_subgraph_Extract_r7 F) [2, 3, 4, 5, 8, 10, 23, 24, 25]) (.dreg [(1, none, [], true), (7, none, [1], false)] (c_subgraph_Extract_r8 F) [2, 3, 4, 5, 8, 23, 24, 25]))) (.reg (c_subgraph_Extract_r9 F) [2, 3, 4, 5, 8, 23, 24, 25]))))
def c_subgraph_Extract_r11 (F : String → Nat) : List LI := [⟨some 40, .fad 1 (.t 3), none⟩,
  ⟨some 41, .load false 1 (.t 40), none⟩,
  ⟨some 42, .len (.t 41), none⟩,
  ⟨some 43, .mov (.k (.int .i64 (0))), none⟩]
def c_subgraph_Extract_r12 (F : String → Nat) : List LI := [⟨some 44, .bin .lss (.t 43) (.t 42), none⟩]
def c_subgraph_Extract_r13 (F : String → Nat) : List LI := [⟨some 45, .iad 1 (.t 41) (.t 43), none⟩,
  ⟨some 46, .load false 1 (.t 45), none⟩,
  ⟨some 12, .mov (.t 46), none⟩]
def c_subgraph_Extract_r14 (F : String → Nat) : List LI := [⟨some 47, .fad 1 (.t 2), none⟩,
  ⟨some 48, .load false 1 (.t 47), none⟩,
  ⟨some 49, .mov (.t 12), none⟩,
  ⟨some 50, .iad 3 (.t 48) (.t 49), none⟩,
  ⟨some 51, .load true 3 (.t 50), none⟩,
  ⟨some 13, .alloc [.int .i64 (0), .int .i64 (0), .int .i64 (0)], none⟩,
  ⟨none, .store 3 (.t 13) (.t 51), none⟩]
def c_subgraph_Extract_r15 (F : String → Nat) : List LI := [⟨some 53, .fad 0 (.t 3), none⟩,
  ⟨some 54, .load false 1 (.t 53), none⟩,
  ⟨some 55, .fad 1 (.t 13), none⟩,
  ⟨some 56, .load false 1 (.t 55), none⟩,
  ⟨some 57, .call (F "slices.BinarySearch.I") [.t 54, .t 56] [], none⟩,
  ⟨some 52, .mov (.t 57), none⟩,
  ⟨some 58, .ext (.t 52) 0, none⟩,
  ⟨some 59, .ext (.t 52) 1, none⟩,
  ⟨some 60, .fad 1 (.t 13), none⟩,
  ⟨none, .store 1 (.t 60) (.t 58), none⟩]
def c_subgraph_Extract_r16 (F : String → Nat) : List LI := [⟨some 62, .fad 0 (.t 3), none⟩,
  ⟨some 63, .load false 1 (.t 62), none⟩,
  ⟨some 64, .fad 2 (.t 13), none⟩,
  ⟨some 65, .load false 1 (.t 64), none⟩,
  ⟨some 66, .call (F "slices.BinarySearch.I") [.t 63, .t 65] [], none⟩,
  ⟨some 61, .mov (.t 66), none⟩,
  ⟨some 67, .ext (.t 61) 0, none⟩,
  ⟨some 68, .ext (.t 61) 1, none⟩,
  ⟨some 69, .fad 2 (.t 13), none⟩,
  ⟨none, .store 1 (.t 69) (.t 67), none⟩]
def c_subgraph_Extract_r17 (F : String → Nat) : List LI := [⟨some 70, .fad 1 (.t 8), none⟩,
  ⟨some 71, .load false 1 (.t 70), none⟩,
  ⟨some 72, .load true 3 (.t 13), none⟩,
  ⟨some 73, .buildSl 3 24 (.agg [.int .i64 (0), .int .i64 (0), .int .i64 (0)]) 1 [(0, .t 72)], none⟩,
  ⟨some 74, .app 3 24 (.t 71) (.t 73), none⟩,
  ⟨some 75, .fad 1 (.t 8), none⟩,
  ⟨none, .store 1 (.t 75) (.t 74), none⟩]
def c_subgraph_Extract_r18 (F : String → Nat) : List LI := [⟨some 76, .bin .add (.t 43) (.k (.int .i64 (1))), none⟩,
  ⟨some 43, .mov (.t 76), none⟩]
def c_subgraph_Extract_b19 (F : String → Nat) : LC := (.seq (.reg (c_subgraph_Extract_r12 F) [2, 3, 4, 5, 8, 41, 42, 43, 44]) (.seq (.cond (.t 44) .skip (.exit 2)) (.seq (.block 3 (.seq (.reg (c_subgraph_Extract_r13 F) [2, 3, 4, 5, 8, 12, 41, 42, 43]) (.seq (.reg (c_subgraph_Extract_r14 F) [2, 3, 4, 5, 8, 13, 41, 42, 43]) (.seq (.reg (c_subgraph_Extract_r15 F) [2, 3, 4, 5, 8, 13, 41, 42, 43]) (.seq (.reg (c_subgraph_Extract_r16 F) [2, 3, 4, 5, 8, 13, 41, 42, 43]) (.reg (c_subgraph_Extract_r17 F) [2, 3, 4, 5, 8, 41, 42, 43])))))) (.reg (c_subgraph_Extract_r18 F) [2, 3, 4, 5, 8, 41, 42, 43]))))
def c_subgraph_Extract_r20 (F : String → Nat) : List LI := [⟨some 77, .load true 2 (.t 8), none⟩,
  ⟨some 78, .fad 0 (.t 3), none⟩,
  ⟨some 79, .load false 1 (.t 78), none⟩,
  ⟨some 80, .call (F "slices.Clone.I") [.t 79] [], none⟩,
  ⟨some 81, .fad 1 (.t 3), none⟩,
  ⟨some 82, .load false 1 (.t 81), none⟩,
  ⟨some 83, .call (F "slices.Clone.I") [.t 82] [], none⟩,
  ⟨some 84, .build [.nl 1, .nl 1] [(0, 1, .t 80), (1, 1, .t 83)], none⟩,
  ⟨none, .store 2 (.t 4) (.t 77), none⟩,
  ⟨none, .store 2 (.t 5) (.t 84), none⟩,
  ⟨some 6, .mov (.k (.int .i64 (0))), none⟩]
def c_subgraph_Extract (F : String → Nat) : LC := (.seq (.reg (c_subgraph_Extract_r0 F) [2, 3, 4, 5]) (.seq (.seq (.reg (c_subgraph_Extract_r1 F) [2, 3, 4, 5, 7]) (.seq (.reg (c_subgraph_Extract_r2 F) [2, 3, 4, 5, 7, 18]) (.cond (.t 18) (.seq (.reg (c_subgraph_Extract_r3 F) [4, 5, 6]) .ret) .skip))) (.seq (.reg (c_subgraph_Extract_r4 F) [2, 3, 4, 5, 8]) (.seq (.seq (.reg (c_subgraph_Extract_r5 F) [2, 3, 4, 5, 8, 23, 24, 25]) (.block 0 (.loop [2, 3, 4, 5, 8, 23, 24, 25] (c_subgraph_Extract_b10 F)))) (.seq (.seq (.reg (c_subgraph_Extract_r11 F) [2, 3, 4, 5, 8, 41, 42, 43]) (.block 2 (.loop [2, 3, 4, 5, 8, 41, 42, 43] (c_subgraph_Extract_b19 F)))) (.seq (.dreg [(0, none, [], true), (3, none, [0], true), (5, (some 16), [3], false), (6, none, [0], false)] (c_subgraph_Extract_r20 F) [4, 5, 6]) .ret))))))
def h_subgraph_Extract : Hints := ⟨[], fun _ => [], tab [(0, [2, 3, 4, 5]), (1, [2, 3, 4, 5, 7]), (2, [2, 3, 4, 5, 7, 18]), (3, [4, 5, 6]), (4, [2, 3, 4, 5, 8]), (5, [2, 3, 4, 5, 8, 23, 24, 25]), (6, [2, 3, 4, 5, 8, 23, 24, 25, 26]), (7, [2, 3, 4, 5, 8, 10, 23, 24, 25]), (8, [2, 3, 4, 5, 8, 23, 24, 25]), (9, [2, 3, 4, 5, 8, 23, 24, 25]), (10, [2, 3, 4, 5, 8, 41, 42, 43]), (11, [2, 3, 4, 5, 8, 41, 42, 43, 44]), (12, [2, 3, 4, 5, 8, 12, 41, 42, 43]), (13, [2, 3, 4, 5, 8, 13, 41, 42, 43]), (14, [2, 3, 4, 5, 8, 13, 41, 42, 43]), (15, [2, 3, 4, 5, 8, 13, 41, 42, 43]), (16, [2, 3, 4, 5, 8, 41, 42, 43]), (17, [2, 3, 4, 5, 8, 41, 42, 43]), (18, [4, 5, 6])], tab [(6, [2, 3, 4, 5, 8, 23, 24, 25]), (11, [2, 3, 4, 5, 8, 41, 42, 43])]⟩

attribute [go_sem] c_subgraph_Extract_r0 c_subgraph_Extract_r1 c_subgraph_Extract_r2 c_subgraph_Extract_r3 c_subgraph_Extract_r4 c_subgraph_Extract_r5 c_subgraph_Extract_r6 c_subgraph_Extract_r7 c_subgraph_Extract_r8 c_subgraph_Extract_r9 c_subgraph_Extract_r11 c_subgraph_Extract_r12 c_subgraph_Extract_r13 c_subgraph_Extract_r14 c_subgraph_Extract_r15 c_subgraph_Extract_r16 c_subgraph_Extract_r17 c_subgraph_Extract_r18 c_subgraph_Extract_r20 c_subgraph_Extract
/-- The edges of a part, over its own nodes. -/
def exL (g : G) (pn pe : List Int) : List E := pe.map fun k => ⟨(gt g.e k).t, (cntB pn (gt g.e k).f : Int), (cntB pn (gt g.e k).o : Int)⟩
/-- The graph of a part. -/
def ptG (g : G) (p : Mo) : G := ⟨thr p.n g.n, exL g p.n p.e⟩
def exR (g : G) (p : Mo) : G × Mo × Int := if validP g p ≠ 0 then (g0, m0, validP g p) else (ptG g p, p, 0)
section
variable (P : Program) (F : String → Nat)
def K_subgraph_Extract : Prop := ∀ (g : G) (p : Mo), p.sm → FC P (F "subgraph.Extract") [gD g, mD p] (.tup [gA (exR g p).1, mA (exR g p).2.1, .int .i64 (exR g p).2.2]) []
end
section
variable {P : Program} {F : String → Nat} {α : Type}
theorem exL_len (g : G) (pn pe : List Int) : (exL g pn pe).length = pe.length := by simp [exL]
theorem exL_step {g : G} {pn pe : List Int} {i : Nat} (h : i < pe.length) : exL g pn (pe.take (i + 1)) = exL g pn (pe.take i) ++ [⟨(gt g.e (gt pe i)).t, (cntB pn (gt g.e (gt pe i)).f : Int), (cntB pn (gt g.e (gt pe i)).o : Int)⟩] := by
  rw [take_gt h]; simp [exL]
theorem w_subgraph_Extract (hv : K_subgraph_Valid P F) (hb : K_slices_BinarySearch_I P F) (hc : K_slices_Clone_I P F) (g : G) (p : Mo) (h1 : p.sm) : W P (c_subgraph_Extract F) (Done [.c 4 true 2, .c 5 true 2, .t 6] [] (.tup [gA (exR g p).1, mA (exR g p).2.1, .int .i64 (exR g p).2.2]) []) (init [gD g, mD p]) := by
  refine W_of ?_
  have r1 := hv g p h1.1 h1.2
  have hR : exR g p = if validP g p ≠ 0 then (g0, m0, validP g p) else (ptG g p, p, 0) := rfl
  have h0 : validP g p = 0 → PK g p := fun h => validP_ok.1 h
  generalize validP g p = v at *
  rw [hR]
  clear hR
  obtain ⟨gn, ge⟩ := g
  obtain ⟨pn, pe⟩ := p
  simp only [gD, mD] at *
  simp (config := { maxSteps := 1000000 }) (disch := first | omega | (simp only [go_sem]; omega)) only [go_sem, ↓reduceIte]
  refine call_by r1 ?_
  simp (config := { maxSteps := 1000000 }) (disch := first | omega | (simp only [go_sem]; omega)) only [go_sem, ↓reduceIte]
  refine bran_ndec (fun c => ?_) (fun c => ?_)
  · simp (config := { maxSteps := 1000000 }) (disch := first | omega | (simp only [go_sem]; omega)) only [go_sem, ↓reduceIte]
    simp [c, mA, gA, m0, g0, ints, eds]
  have hk := h0 c
  have hl := hk.len
  have hs := valid_spec hk.v
  rw [if_neg (by simp [c])]
  clear h0 r1
  simp only [ptG, gA, mA] at *
  have rb := fun x => hb pn x hk.n.p (by omega)
  simp (config := { maxSteps := 1000000 }) (disch := first | omega | (simp only [go_sem]; omega)) only [go_sem, ↓reduceIte]
  refine W_loop (fun i : Nat => ⟨[(2, .pt 0 0), (3, .pt 1 0), (4, .pt 4 0), (5, .pt 7 0), (8, .pt 10 0), (23, .lst 1 (ints pn)), (24, .int .i64 pn.length), (25, .int .i64 i)],
    [(0, .box [.lst 1 (ints gn), .lst 3 (eds ge)]), (1, .box [.lst 1 (ints pn), .lst 1 (ints pe)]), (2, .arr 1 []), (3, .arr 3 []), (4, .box [.sl 2 0 0, .sl 3 0 0]), (5, .arr 1 []), (6, .arr 1 []), (7, .box [.sl 5 0 0, .sl 6 0 0]),
     (8, .arr 1 (ints (thr (pn.take i) gn))), (9, .arr 3 []), (10, .box [.sl 8 0 i, .sl 9 0 0])], 11⟩) (fun i => i ≤ pn.length) (fun i => pn.length - i) 0 ?_ ?_ ?_
  · simp (config := { maxSteps := 1000000 }) (disch := first | omega | (simp only [go_sem]; omega)) only [go_sem, ↓reduceIte]
    rfl
  · simp
  · intro i hi
    have tl : (thr (pn.take i) gn).length = i := by rw [thr_len, List.length_take]; omega
    by_cases e : i < pn.length
    · have d1 : decide ((i : Int) < pn.length) = true := decide_eq_true (by omega)
      have hb1 := hk.n.b _ (gt_mem (l := pn) (j := (i : Int)) (by omega) (by omega))
      simp only at hb1
      have hst := thr_step (b := gn) e
      simp (config := { maxSteps := 1000000 }) (disch := first | omega | (simp only [go_sem]; omega)) only [go_sem, ↓reduceIte, c_subgraph_Extract_b10, d1, tl]
      exact ⟨i + 1, by simp [hst], by omega, by omega⟩
    · have d1 : decide ((i : Int) < pn.length) = false := decide_eq_false (by omega)
      obtain rfl : i = pn.length := by omega
      rw [List.take_length] at tl
      simp (config := { maxSteps := 1000000 }) (disch := first | omega | (simp only [go_sem]; omega)) only [go_sem, ↓reduceIte, c_subgraph_Extract_b10, d1, tl]
      refine W_loop (fun i : Nat => ⟨[(2, .pt 0 0), (3, .pt 1 0), (4, .pt 4 0), (5, .pt 7 0), (8, .pt 10 0), (41, .lst 1 (ints pe)), (42, .int .i64 pe.length), (43, .int .i64 i)],
        [(0, .box [.lst 1 (ints gn), .lst 3 (eds ge)]), (1, .box [.lst 1 (ints pn), .lst 1 (ints pe)]), (2, .arr 1 []), (3, .arr 3 []), (4, .box [.sl 2 0 0, .sl 3 0 0]), (5, .arr 1 []), (6, .arr 1 []), (7, .box [.sl 5 0 0, .sl 6 0 0]),
         (8, .arr 1 (ints (thr pn gn))), (9, .arr 3 (eds (exL ⟨gn, ge⟩ pn (pe.take i)))), (10, .box [.sl 8 0 pn.length, .sl 9 0 i])], 11⟩) (fun i => i ≤ pe.length) (fun i => pe.length - i) 0 ?_ ?_ ?_
      · simp (config := { maxSteps := 1000000 }) (disch := first | omega | (simp only [go_sem]; omega)) only [go_sem, ↓reduceIte]
        rfl
      · simp
      · intro i hi
        have el : (exL ⟨gn, ge⟩ pn (pe.take i)).length = i := by rw [exL_len, List.length_take]; omega
        by_cases e : i < pe.length
        · have d1 : decide ((i : Int) < pe.length) = true := decide_eq_true (by omega)
          have hb1 := hk.e.b _ (gt_mem (l := pe) (j := (i : Int)) (by omega) (by omega))
          simp only at hb1
          have hst := exL_step (g := ⟨gn, ge⟩) (pn := pn) e
          simp only at hst
          have rf := rb (gt ge (gt pe i)).f
          have ro := rb (gt ge (gt pe i)).o
          simp (config := { maxSteps := 1000000 }) (disch := first | omega | (simp only [go_sem]; omega)) only [go_sem, ↓reduceIte, c_subgraph_Extract_b19, d1, el]
          refine call_by rf ?_
          simp (config := { maxSteps := 1000000 }) (disch := first | omega | (simp only [go_sem]; omega)) only [go_sem, ↓reduceIte]
          refine call_by ro ?_
          simp (config := { maxSteps := 1000000 }) (disch := first | omega | (simp only [go_sem]; omega)) only [go_sem, ↓reduceIte, el]
          exact ⟨i + 1, by simp [hst], by omega, by omega⟩
        · have d1 : decide ((i : Int) < pe.length) = false := decide_eq_false (by omega)
          obtain rfl : i = pe.length := by omega
          rw [List.take_length] at el
          have rc1 := hc pn (by omega)
          have rc2 := hc pe (by omega)
          simp (config := { maxSteps := 1000000 }) (disch := first | omega | (simp only [go_sem]; omega)) only [go_sem, ↓reduceIte, c_subgraph_Extract_b19, d1, tl, el]
          refine call_by rc1 ?_
          simp (config := { maxSteps := 1000000 }) (disch := first | omega | (simp only [go_sem]; omega)) only [go_sem, ↓reduceIte]
          refine call_by rc2 ?_
          simp (config := { maxSteps := 1000000 }) (disch := first | omega | (simp only [go_sem]; omega)) only [go_sem, ↓reduceIte, tl, el]
          rfl
theorem cntB_ix {l : List Int} (h : l.Pairwise (· < ·)) {i : Nat} (hi : i < l.length) : cntB l (gt l i) = i :=
  (cntB_eq h (Nat.le_of_lt hi) (fun k hk => pair_gt h hk hi) fun k hk hk2 => by
    by_cases e : i = k
    · rw [e]; omega
    · have := pair_gt h (i := i) (j := k) (by omega) hk2; omega).1
theorem cntB_in {l : List Int} (h : l.Pairwise (· < ·)) {x : Int} (hx : x ∈ l) : ∃ i : Nat, i < l.length ∧ cntB l x = i ∧ gt l i = x := by
  obtain ⟨i, h1, rfl⟩ := mem_gt hx
  exact ⟨i, h1, cntB_ix h h1, rfl⟩
theorem exL_gt {g : G} {pn pe : List Int} {i : Nat} (h : i < pe.length) : gt (exL g pn pe) i = ⟨(gt g.e (gt pe i)).t, (cntB pn (gt g.e (gt pe i)).f : Int), (cntB pn (gt g.e (gt pe i)).o : Int)⟩ := by
  rw [gt_nat (by rw [exL_len]; exact h), gt_nat h]
  simp [exL]
/-- The inclusion of a part is a morphism. -/
theorem ex_ok {g : G} {p : Mo} (h : PK g p) : MOk (ptG g p) g p := by
  have hl := h.len
  have vs := valid_spec h.v
  have en : ∀ x ∈ p.n, ∃ i : Nat, i < p.n.length ∧ cntB p.n x = i ∧ gt p.n i = x := fun x hx => cntB_in h.n.p hx
  have ln : (ptG g p).n.length = p.n.length := thr_len _ _
  have le : (ptG g p).e.length = p.e.length := exL_len _ _ _
  refine ⟨valid_mk (by rw [ln]; omega) (by rw [le]; omega) (fun x hx => ?_) (fun x hx => ?_), h.v, ln.symm, le.symm, fun i hi => ?_, fun i hi => ?_⟩
  · obtain ⟨i, hi, rfl⟩ := mem_gt hx
    rw [ln] at hi
    have hb := h.n.b _ (gt_mem (l := p.n) (j := (i : Int)) (by omega) (by omega))
    simp only [ptG]
    rw [thr_gt hi]
    exact vs.2.2.1 _ (gt_mem hb.1 hb.2)
  · obtain ⟨i, hi, rfl⟩ := mem_gt hx
    rw [le] at hi
    have hm := gt_mem (l := p.e) (j := (i : Int)) (by omega) (by omega)
    have hb := h.e.b _ hm
    obtain ⟨e1, e2, e3⟩ := edge_fits h.v hb
    obtain ⟨a, a1, a2, _⟩ := en _ (h.d _ hm).1
    obtain ⟨b, b1, b2, _⟩ := en _ (h.d _ hm).2
    rw [ln]
    simp only [ptG]
    rw [exL_gt hi, a2, b2]
    exact fits_mk e1 (by simp only; omega) (by simp only; omega)
  · rw [ln] at hi
    have hb := h.n.b _ (gt_mem (l := p.n) (j := (i : Int)) (by omega) (by omega))
    refine ⟨hb, ?_⟩
    simp only [ptG]
    rw [thr_gt hi]
  · rw [le] at hi
    have hm := gt_mem (l := p.e) (j := (i : Int)) (by omega) (by omega)
    have hb := h.e.b _ hm
    obtain ⟨a, a1, a2, a3⟩ := en _ (h.d _ hm).1
    obtain ⟨b, b1, b2, b3⟩ := en _ (h.d _ hm).2
    refine ⟨hb, ?_⟩
    simp only [ptG]
    rw [exL_gt hi]
    simp only
    rw [a2, b2, a3, b3]
    exact ⟨trivial, rfl, rfl⟩
end
end Go.Am
namespace Go.Am
open Go
set_option linter.unusedVariables false
set_option linter.unusedSimpArgs false
def imR (a b : G) (m : Mo) : Mo × Int := if validM a b m ≠ 0 then (m0, validM a b m) else (⟨imgs m.n, imgs m.e⟩, 0)
section
/-- The image of the inclusion of a part is the part. -/
theorem imgs_asc {l : List Int} (h : l.Pairwise (· < ·)) : imgs l = l := asc_ext (imgs_lt _) h fun x => imgs_mem
end
end Go.Am
namespace Go.Am
open Go
set_option linter.unusedVariables false
set_option linter.unusedSimpArgs false
attribute [local irreducible] W
/- subgraph.Image -/
def c_subgraph_Image_r0 (F : String → Nat) : List LI := [⟨some 3, .bx (.t 0), none⟩,
  ⟨some 4, .bx (.t 1), none⟩,
  ⟨some 5, .bx (.t 2), none⟩,
  ⟨some 6, .alloc [.nl 1, .nl 1], none⟩,
  ⟨some 7, .mov (.k (.int .i64 (0))), none⟩]
def c_subgraph_Image_r1 (F : String → Nat) : List LI := [⟨some 9, .load true 2 (.t 3), none⟩,
  ⟨some 10, .load true 2 (.t 4), none⟩,
  ⟨some 11, .load true 2 (.t 5), none⟩,
  ⟨some 12, .call (F "morphism.Valid") [.t 9, .t 10, .t 11] [], none⟩,
  ⟨some 8, .mov (.t 12), none⟩]
def c_subgraph_Image_r2 (F : String → Nat) : List LI := [⟨some 13, .mov (.t 8), none⟩,
  ⟨some 14, .bin .neq (.t 13) (.k (.int .i64 (0))), none⟩]
def c_subgraph_Image_r3 (F : String → Nat) : List LI := [⟨some 15, .build [.nl 1, .nl 1] [], none⟩,
  ⟨some 16, .mov (.t 8), none⟩,
  ⟨none, .store 2 (.t 6) (.t 15), none⟩,
  ⟨some 7, .mov (.t 16), none⟩]
def c_subgraph_Image_r4 (F : String → Nat) : List LI := [⟨some 17, .fad 0 (.t 5), none⟩,
  ⟨some 18, .load false 1 (.t 17), none⟩,
  ⟨some 19, .call (F "slices.Clone.I") [.t 18] [], none⟩,
  ⟨some 20, .call (F "subgraph.sorted") [.t 19] [.ow], none⟩,
  ⟨some 21, .fad 1 (.t 5), none⟩,
  ⟨some 22, .load false 1 (.t 21), none⟩,
  ⟨some 23, .call (F "slices.Clone.I") [.t 22] [], none⟩,
  ⟨some 24, .call (F "subgraph.sorted") [.t 23] [.ow], none⟩,
  ⟨some 25, .build [.nl 1, .nl 1] [(0, 1, .t 20), (1, 1, .t 24)], none⟩,
  ⟨none, .store 2 (.t 6) (.t 25), none⟩,
  ⟨some 7, .mov (.k (.int .i64 (0))), none⟩]
def c_subgraph_Image (F : String → Nat) : LC := (.seq (.reg (c_subgraph_Image_r0 F) [3, 4, 5, 6]) (.seq (.seq (.reg (c_subgraph_Image_r1 F) [5, 6, 8]) (.seq (.reg (c_subgraph_Image_r2 F) [5, 6, 8, 14]) (.cond (.t 14) (.seq (.reg (c_subgraph_Image_r3 F) [6, 7]) .ret) .skip))) (.seq (.dreg [(2, none, [], true), (3, none, [], true), (5, (some 16), [2, 3], false)] (c_subgraph_Image_r4 F) [6, 7]) .ret)))
def h_subgraph_Image : Hints := ⟨[], fun _ => [], tab [(0, [3, 4, 5, 6]), (1, [5, 6, 8]), (2, [5, 6, 8, 14]), (3, [6, 7]), (4, [6, 7])], tab []⟩

attribute [go_sem] c_subgraph_Image_r0 c_subgraph_Image_r1 c_subgraph_Image_r2 c_subgraph_Image_r3 c_subgraph_Image_r4 c_subgraph_Image
section
variable (P : Program) (F : String → Nat)
def K_subgraph_Image : Prop := ∀ (a b : G) (m : Mo), FC P (F "subgraph.Image") [gD a, gD b, mD m] (.tup [mA (imR a b m).1, .int .i64 (imR a b m).2]) []
end
section
variable {P : Program} {F : String → Nat} {α : Type}
end
end Go.Am
