/- The graph package and its reference: parts. -/
/- Drafts of graphs; what laws take. -/
/- Lists of bools as data; ascending lists; parts of graphs, plain. -/
/- Parts of graphs: whether they are right; membership. -/
/- Incident, the reference's Components, and their law. -/
/- Chapter 07: helpers of the laws; the laws Valid, Close, Join, Image, Adjoint, Extract, Boundary. -/
/- The order of parts, and all parts of a small graph, plain. -/
/- All parts of a small graph: the reference's walk. -/
/- All parts of a small graph: the program's walk; the example of chapter 07; the law All. -/
/- All parts of a small graph; the example of chapter 07; the law All. -/
import Derived.Test.YtbpjoianghehmaaSpPa
import Derived.Test.YtbpjoianghehmaaSpPb
import Derived.Test.YtbpjoianghehmaaSpPc
namespace Go.Am
open Go
set_option linter.unusedVariables false
set_option linter.unusedSimpArgs false
/- r05.Copied -/
def c_r05_Copied_r0 (F : String → Nat) : List LI := [⟨some 1, .bx (.t 0), none⟩,
  ⟨some 2, .alloc [.nl 1, .nl 3], none⟩]
def c_r05_Copied_r1 (F : String → Nat) : List LI := [⟨some 3, .buildSl 1 8 (.int .i64 (0)) 0 [], none⟩,
  ⟨some 4, .fad 0 (.t 1), none⟩,
  ⟨some 5, .load false 1 (.t 4), none⟩,
  ⟨some 6, .app 1 8 (.t 3) (.t 5), none⟩,
  ⟨some 7, .buildSl 3 24 (.agg [.int .i64 (0), .int .i64 (0), .int .i64 (0)]) 0 [], none⟩,
  ⟨some 8, .fad 1 (.t 1), none⟩,
  ⟨some 9, .load false 1 (.t 8), none⟩,
  ⟨some 10, .app 3 24 (.t 7) (.t 9), none⟩,
  ⟨some 11, .build [.nl 1, .nl 3] [(0, 1, .t 6), (1, 1, .t 10)], none⟩,
  ⟨none, .store 2 (.t 2) (.t 11), none⟩]
def c_r05_Copied (F : String → Nat) : LC := (.seq (.reg (c_r05_Copied_r0 F) [1, 2]) (.seq (.dreg [(2, (some 2), [], false), (3, none, [], true), (6, (some 32), [3], false)] (c_r05_Copied_r1 F) [2]) .ret))
def h_r05_Copied : Hints := ⟨[], fun _ => [], tab [(0, [1, 2]), (1, [2])], tab []⟩

attribute [go_sem] c_r05_Copied_r0 c_r05_Copied_r1 c_r05_Copied
section
variable (P : Program) (F : String → Nat)
def K_r05_Copied : Prop := ∀ g : G, g.n.length ≤ 1000000 → g.e.length ≤ 1000000 → FC P (F "r05.Copied") [gD g] (gA g) []
end
section
variable {P : Program} {F : String → Nat} {α : Type}
theorem w_r05_Copied (g : G) (h0 : g.n.length ≤ 1000000) (h1 : g.e.length ≤ 1000000) : W P (c_r05_Copied F) (Done [.c 2 true 2] [] (gA g) []) (init [gD g]) := by
  refine W_of ?_
  obtain ⟨ns, es⟩ := g
  simp only at h0 h1
  simp (config := { maxSteps := 1000000 }) (disch := first | omega | (simp only [go_sem]; omega)) only [go_sem, ↓reduceIte, gD, gA]
end
end Go.Am
namespace Go.Am
open Go
set_option linter.unusedVariables false
set_option linter.unusedSimpArgs false
section
variable (P : Program) (F : String → Nat)
end
def shI : Sh := .int .i64
def shIs : Sh := .slc 1 8 shI
def shE : Sh := .cat [shI, shI, shI]
def shG : Sh := .cat [shIs, .slc 3 24 shE]
theorem rd_int {x : D} (h : HasEl shI x) : ∃ n : Int, x = .int .i64 n ∧ IntKind.i64.min ≤ n ∧ n ≤ IntKind.i64.max := by
  simpa only [shI, HasEl] using h
theorem rd_intl : ∀ {xs : List D}, (∀ y ∈ xs, HasEl shI y) → ∃ l : List Int, xs = ints l
  | [], _ => ⟨[], rfl⟩
  | x :: xs, h => by
    obtain ⟨l, rfl⟩ := rd_intl (xs := xs) fun y hy => h y (by simp [hy])
    obtain ⟨n, rfl, _⟩ := rd_int (h x (by simp))
    exact ⟨n :: l, rfl⟩
theorem rd_ints {x : D} (h : HasEl shIs x) : ∃ l : List Int, x = .lst 1 (ints l) ∧ l.length ≤ 20000000000000 := by
  simp only [shIs, HasEl] at h
  obtain ⟨xs, rfl, h1, h2⟩ := h
  obtain ⟨l, rfl⟩ := rd_intl h2
  refine ⟨l, rfl, ?_⟩
  rw [ints_length] at h1
  unfold reachBytes at h1
  omega
theorem rd_edge {x : D} (h : HasEl shE x) : ∃ e : E, x = edD e := by
  simp only [shE, HasEl] at h
  obtain ⟨ds, rfl, h⟩ := h
  simp only [shI, HasShs, HasEl] at h
  obtain ⟨_, _, rfl, ⟨a, rfl, _⟩, _, _, rfl, ⟨b, rfl, _⟩, _, _, rfl, ⟨c, rfl, _⟩, rfl⟩ := h
  exact ⟨⟨a, b, c⟩, rfl⟩
theorem rd_edl : ∀ {xs : List D}, (∀ y ∈ xs, HasEl shE y) → ∃ l : List E, xs = eds l
  | [], _ => ⟨[], rfl⟩
  | x :: xs, h => by
    obtain ⟨l, rfl⟩ := rd_edl (xs := xs) fun y hy => h y (by simp [hy])
    obtain ⟨n, rfl⟩ := rd_edge (h x (by simp))
    exact ⟨n :: l, rfl⟩
theorem rd_graph {x : D} (h : HasEl shG x) : ∃ g : G, x = gD g := by
  simp only [shG, HasEl] at h
  obtain ⟨ds, rfl, h⟩ := h
  have h' : ∃ a b, ds = a :: b ∧ HasEl shIs a ∧ HasShs [.slc 3 24 shE] b := by simpa only [shIs, HasShs] using h
  obtain ⟨a, _, rfl, h1, h'⟩ := h'
  obtain ⟨l, rfl, _⟩ := rd_ints h1
  simp only [HasShs, HasEl] at h'
  obtain ⟨_, _, rfl, ⟨xs, rfl, _, h3⟩, rfl⟩ := h'
  obtain ⟨es, rfl⟩ := rd_edl h3
  exact ⟨⟨l, es⟩, rfl⟩
section
variable {P : Program} {F : String → Nat} {α : Type}
end
end Go.Am
namespace Go.Am
open Go
set_option linter.unusedVariables false
set_option linter.unusedSimpArgs false
section
theorem sel_asc (p : Nat → Bool) (n : Nat) : AscL (sel p n) n := ⟨sel_pair p n, fun x hx => by obtain ⟨k, h1, _, rfl⟩ := sel_mem.1 hx; omega⟩
end
end Go.Am
namespace Go.Am
open Go
set_option linter.unusedVariables false
set_option linter.unusedSimpArgs false
attribute [local irreducible] W
/- r07.has -/
def c_r07_has_r0 (F : String → Nat) : List LI := [⟨some 4, .mov (.k (.bool false)), none⟩]
def c_r07_has_r1 (F : String → Nat) : List LI := [⟨some 5, .mov (.k (.int .i64 (0))), none⟩]
def c_r07_has_r2 (F : String → Nat) : List LI := [⟨some 6, .mov (.t 5), none⟩,
  ⟨some 7, .mov (.t 0), none⟩,
  ⟨some 8, .len (.t 7), none⟩,
  ⟨some 9, .bin .lss (.t 6) (.t 8), none⟩]
def c_r07_has_r3 (F : String → Nat) : List LI := [⟨some 12, .mov (.t 0), none⟩,
  ⟨some 13, .mov (.t 5), none⟩,
  ⟨some 14, .iad 1 (.t 12) (.t 13), none⟩,
  ⟨some 15, .load false 1 (.t 14), none⟩,
  ⟨some 16, .mov (.t 1), none⟩,
  ⟨some 17, .bin .eql (.t 15) (.t 16), none⟩]
def c_r07_has_r4 (F : String → Nat) : List LI := [⟨some 4, .mov (.k (.bool true)), none⟩]
def c_r07_has_r5 (F : String → Nat) : List LI := [⟨some 10, .mov (.t 5), none⟩,
  ⟨some 11, .bin .add (.t 10) (.k (.int .i64 (1))), none⟩,
  ⟨some 5, .mov (.t 11), none⟩]
def c_r07_has_b6 (F : String → Nat) : LC := (.seq (.seq (.reg (c_r07_has_r2 F) [0, 1, 5, 9]) (.cond (.t 9) .skip (.exit 0))) (.seq (.block 1 (.seq (.reg (c_r07_has_r3 F) [0, 1, 5, 17]) (.cond (.t 17) (.seq (.reg (c_r07_has_r4 F) [4]) .ret) .skip))) (.reg (c_r07_has_r5 F) [0, 1, 5])))
def c_r07_has_r7 (F : String → Nat) : List LI := [⟨some 4, .mov (.k (.bool false)), none⟩]
def c_r07_has (F : String → Nat) : LC := (.seq (.reg (c_r07_has_r0 F) [0, 1]) (.seq (.seq (.reg (c_r07_has_r1 F) [0, 1, 5]) (.block 0 (.loop [0, 1, 5] (c_r07_has_b6 F)))) (.seq (.reg (c_r07_has_r7 F) [4]) .ret)))
def h_r07_has : Hints := ⟨[], fun _ => [], tab [(0, [0, 1]), (1, [0, 1, 5]), (2, [0, 1, 5, 9]), (3, [0, 1, 5]), (4, [0, 1, 5, 17]), (5, [4]), (6, [4])], tab [(2, [0, 1, 5])]⟩

/- r07.ascending -/
def c_r07_ascending_r0 (F : String → Nat) : List LI := [⟨some 4, .mov (.k (.int .i64 (0))), none⟩]
def c_r07_ascending_r1 (F : String → Nat) : List LI := [⟨some 5, .mov (.k (.int .i64 (0))), none⟩]
def c_r07_ascending_r2 (F : String → Nat) : List LI := [⟨some 6, .mov (.t 5), none⟩,
  ⟨some 7, .mov (.t 0), none⟩,
  ⟨some 8, .len (.t 7), none⟩,
  ⟨some 9, .bin .lss (.t 6) (.t 8), none⟩]
def c_r07_ascending_r3 (F : String → Nat) : List LI := [⟨some 12, .mov (.t 0), none⟩,
  ⟨some 13, .mov (.t 5), none⟩,
  ⟨some 14, .iad 1 (.t 12) (.t 13), none⟩,
  ⟨some 15, .load false 1 (.t 14), none⟩,
  ⟨some 16, .bin .lss (.t 15) (.k (.int .i64 (0))), none⟩,
  ⟨some 17, .mov (.t 16), none⟩,
  ⟨some 18, .mov (.t 0), some (17, false)⟩,
  ⟨some 19, .mov (.t 5), some (17, false)⟩,
  ⟨some 20, .iad 1 (.t 18) (.t 19), some (17, false)⟩,
  ⟨some 21, .load false 1 (.t 20), some (17, false)⟩,
  ⟨some 22, .mov (.t 1), some (17, false)⟩,
  ⟨some 23, .bin .geq (.t 21) (.t 22), some (17, false)⟩,
  ⟨some 24, .pick (.t 17) (.k (.bool true)) (.t 23), none⟩]
def c_r07_ascending_r4 (F : String → Nat) : List LI := [⟨some 4, .mov (.k (.int .i64 (6))), none⟩]
def c_r07_ascending_r5 (F : String → Nat) : List LI := [⟨some 25, .mov (.t 5), none⟩,
  ⟨some 26, .bin .gtr (.t 25) (.k (.int .i64 (0))), none⟩,
  ⟨some 27, .mov (.t 26), none⟩,
  ⟨some 28, .mov (.t 0), some (27, true)⟩,
  ⟨some 29, .mov (.t 5), some (27, true)⟩,
  ⟨some 30, .iad 1 (.t 28) (.t 29), some (27, true)⟩,
  ⟨some 31, .load false 1 (.t 30), some (27, true)⟩,
  ⟨some 32, .mov (.t 0), some (27, true)⟩,
  ⟨some 33, .mov (.t 5), some (27, true)⟩,
  ⟨some 34, .bin .sub (.t 33) (.k (.int .i64 (1))), some (27, true)⟩,
  ⟨some 35, .iad 1 (.t 32) (.t 34), some (27, true)⟩,
  ⟨some 36, .load false 1 (.t 35), some (27, true)⟩,
  ⟨some 37, .bin .leq (.t 31) (.t 36), some (27, true)⟩,
  ⟨some 38, .pick (.t 27) (.t 37) (.k (.bool false)), none⟩]
def c_r07_ascending_r6 (F : String → Nat) : List LI := [⟨some 4, .mov (.k (.int .i64 (12))), none⟩]
def c_r07_ascending_r7 (F : String → Nat) : List LI := [⟨some 10, .mov (.t 5), none⟩,
  ⟨some 11, .bin .add (.t 10) (.k (.int .i64 (1))), none⟩,
  ⟨some 5, .mov (.t 11), none⟩]
def c_r07_ascending_b8 (F : String → Nat) : LC := (.seq (.seq (.reg (c_r07_ascending_r2 F) [0, 1, 5, 9]) (.cond (.t 9) .skip (.exit 0))) (.seq (.block 1 (.seq (.seq (.reg (c_r07_ascending_r3 F) [0, 1, 5, 24]) (.cond (.t 24) (.seq (.reg (c_r07_ascending_r4 F) [4]) .ret) .skip)) (.seq (.dreg [] (c_r07_ascending_r5 F) [0, 1, 5, 38]) (.cond (.t 38) (.seq (.reg (c_r07_ascending_r6 F) [4]) .ret) .skip)))) (.reg (c_r07_ascending_r7 F) [0, 1, 5])))
def c_r07_ascending_r9 (F : String → Nat) : List LI := [⟨some 4, .mov (.k (.int .i64 (0))), none⟩]
def c_r07_ascending (F : String → Nat) : LC := (.seq (.reg (c_r07_ascending_r0 F) [0, 1]) (.seq (.seq (.reg (c_r07_ascending_r1 F) [0, 1, 5]) (.block 0 (.loop [0, 1, 5] (c_r07_ascending_b8 F)))) (.seq (.reg (c_r07_ascending_r9 F) [4]) .ret)))
def h_r07_ascending : Hints := ⟨[], fun _ => [], tab [(0, [0, 1]), (1, [0, 1, 5]), (2, [0, 1, 5, 9]), (3, [0, 1, 5]), (4, [0, 1, 5, 24]), (5, [4]), (6, [0, 1, 5, 38]), (7, [4]), (8, [4])], tab [(2, [0, 1, 5])]⟩

/- r07.Right -/
def c_r07_Right_r0 (F : String → Nat) : List LI := [⟨some 2, .bx (.t 0), none⟩,
  ⟨some 3, .bx (.t 1), none⟩,
  ⟨some 4, .mov (.k (.int .i64 (0))), none⟩]
def c_r07_Right_r1 (F : String → Nat) : List LI := [⟨some 9, .fad 0 (.t 3), none⟩,
  ⟨some 10, .load false 1 (.t 9), none⟩,
  ⟨some 11, .fad 0 (.t 2), none⟩,
  ⟨some 12, .load false 1 (.t 11), none⟩,
  ⟨some 13, .len (.t 12), none⟩,
  ⟨some 14, .call (F "r07.ascending") [.t 10, .t 13] [], none⟩,
  ⟨some 5, .mov (.t 14), none⟩]
def c_r07_Right_r2 (F : String → Nat) : List LI := [⟨some 15, .mov (.t 5), none⟩,
  ⟨some 16, .bin .neq (.t 15) (.k (.int .i64 (0))), none⟩]
def c_r07_Right_r3 (F : String → Nat) : List LI := [⟨some 17, .mov (.t 5), none⟩,
  ⟨some 4, .mov (.t 17), none⟩]
def c_r07_Right_r4 (F : String → Nat) : List LI := [⟨some 18, .fad 1 (.t 3), none⟩,
  ⟨some 19, .load false 1 (.t 18), none⟩,
  ⟨some 20, .fad 1 (.t 2), none⟩,
  ⟨some 21, .load false 1 (.t 20), none⟩,
  ⟨some 22, .len (.t 21), none⟩,
  ⟨some 23, .call (F "r07.ascending") [.t 19, .t 22] [], none⟩,
  ⟨some 6, .mov (.t 23), none⟩]
def c_r07_Right_r5 (F : String → Nat) : List LI := [⟨some 24, .mov (.t 6), none⟩,
  ⟨some 25, .bin .neq (.t 24) (.k (.int .i64 (0))), none⟩]
def c_r07_Right_r6 (F : String → Nat) : List LI := [⟨some 26, .mov (.t 6), none⟩,
  ⟨some 4, .mov (.t 26), none⟩]
def c_r07_Right_r7 (F : String → Nat) : List LI := [⟨some 7, .mov (.k (.int .i64 (0))), none⟩]
def c_r07_Right_r8 (F : String → Nat) : List LI := [⟨some 27, .mov (.t 7), none⟩,
  ⟨some 28, .fad 1 (.t 3), none⟩,
  ⟨some 29, .load false 1 (.t 28), none⟩,
  ⟨some 30, .len (.t 29), none⟩,
  ⟨some 31, .bin .lss (.t 27) (.t 30), none⟩]
def c_r07_Right_r9 (F : String → Nat) : List LI := [⟨some 34, .fad 1 (.t 2), none⟩,
  ⟨some 35, .load false 1 (.t 34), none⟩,
  ⟨some 36, .fad 1 (.t 3), none⟩,
  ⟨some 37, .load false 1 (.t 36), none⟩,
  ⟨some 38, .mov (.t 7), none⟩,
  ⟨some 39, .iad 1 (.t 37) (.t 38), none⟩,
  ⟨some 40, .load false 1 (.t 39), none⟩,
  ⟨some 41, .iad 3 (.t 35) (.t 40), none⟩,
  ⟨some 42, .load true 3 (.t 41), none⟩,
  ⟨some 8, .alloc [.int .i64 (0), .int .i64 (0), .int .i64 (0)], none⟩,
  ⟨none, .store 3 (.t 8) (.t 42), none⟩]
def c_r07_Right_r10 (F : String → Nat) : List LI := [⟨some 43, .fad 0 (.t 3), none⟩,
  ⟨some 44, .load false 1 (.t 43), none⟩,
  ⟨some 45, .fad 1 (.t 8), none⟩,
  ⟨some 46, .load false 1 (.t 45), none⟩,
  ⟨some 47, .call (F "r07.has") [.t 44, .t 46] [], none⟩,
  ⟨some 48, .not (.t 47), none⟩,
  ⟨some 49, .mov (.t 48), none⟩,
  ⟨some 50, .fad 0 (.t 3), some (49, false)⟩,
  ⟨some 51, .load false 1 (.t 50), some (49, false)⟩,
  ⟨some 52, .fad 2 (.t 8), some (49, false)⟩,
  ⟨some 53, .load false 1 (.t 52), some (49, false)⟩,
  ⟨some 54, .call (F "r07.has") [.t 51, .t 53] [], some (49, false)⟩,
  ⟨some 55, .not (.t 54), some (49, false)⟩,
  ⟨some 56, .pick (.t 49) (.k (.bool true)) (.t 55), none⟩]
def c_r07_Right_r11 (F : String → Nat) : List LI := [⟨some 4, .mov (.k (.int .i64 (14))), none⟩]
def c_r07_Right_r12 (F : String → Nat) : List LI := [⟨some 32, .mov (.t 7), none⟩,
  ⟨some 33, .bin .add (.t 32) (.k (.int .i64 (1))), none⟩,
  ⟨some 7, .mov (.t 33), none⟩]
def c_r07_Right_b13 (F : String → Nat) : LC := (.seq (.seq (.reg (c_r07_Right_r8 F) [2, 3, 7, 31]) (.cond (.t 31) .skip (.exit 0))) (.seq (.block 1 (.seq (.dreg [] (c_r07_Right_r9 F) [2, 3, 7, 8]) (.seq (.reg (c_r07_Right_r10 F) [2, 3, 7, 56]) (.cond (.t 56) (.seq (.reg (c_r07_Right_r11 F) [4]) .ret) .skip)))) (.reg (c_r07_Right_r12 F) [2, 3, 7])))
def c_r07_Right_r14 (F : String → Nat) : List LI := [⟨some 4, .mov (.k (.int .i64 (0))), none⟩]
def c_r07_Right (F : String → Nat) : LC := (.seq (.reg (c_r07_Right_r0 F) [2, 3]) (.seq (.seq (.reg (c_r07_Right_r1 F) [2, 3, 5]) (.seq (.reg (c_r07_Right_r2 F) [2, 3, 5, 16]) (.cond (.t 16) (.seq (.reg (c_r07_Right_r3 F) [4]) .ret) .skip))) (.seq (.seq (.reg (c_r07_Right_r4 F) [2, 3, 6]) (.seq (.reg (c_r07_Right_r5 F) [2, 3, 6, 25]) (.cond (.t 25) (.seq (.reg (c_r07_Right_r6 F) [4]) .ret) .skip))) (.seq (.seq (.reg (c_r07_Right_r7 F) [2, 3, 7]) (.block 0 (.loop [2, 3, 7] (c_r07_Right_b13 F)))) (.seq (.reg (c_r07_Right_r14 F) [4]) .ret)))))
def h_r07_Right : Hints := ⟨[], fun _ => [], tab [(0, [2, 3]), (1, [2, 3, 5]), (2, [2, 3, 5, 16]), (3, [4]), (4, [2, 3, 6]), (5, [2, 3, 6, 25]), (6, [4]), (7, [2, 3, 7]), (8, [2, 3, 7, 31]), (9, [2, 3, 7]), (10, [2, 3, 7, 8]), (11, [2, 3, 7, 56]), (12, [4]), (13, [4])], tab [(8, [2, 3, 7])]⟩

/- r07.Few -/
def c_r07_Few_r0 (F : String → Nat) : List LI := [⟨some 2, .bx (.t 0), none⟩,
  ⟨some 4, .mov (.k (.bool false)), none⟩]
def c_r07_Few_r1 (F : String → Nat) : List LI := [⟨some 5, .fad 0 (.t 2), none⟩,
  ⟨some 6, .load false 1 (.t 5), none⟩,
  ⟨some 7, .len (.t 6), none⟩,
  ⟨some 8, .fad 1 (.t 2), none⟩,
  ⟨some 9, .load false 1 (.t 8), none⟩,
  ⟨some 10, .len (.t 9), none⟩,
  ⟨some 11, .bin .add (.t 7) (.t 10), none⟩,
  ⟨some 12, .mov (.t 1), none⟩,
  ⟨some 13, .bin .leq (.t 11) (.t 12), none⟩,
  ⟨some 4, .mov (.t 13), none⟩]
def c_r07_Few (F : String → Nat) : LC := (.seq (.reg (c_r07_Few_r0 F) [1, 2]) (.seq (.reg (c_r07_Few_r1 F) [4]) .ret))
def h_r07_Few : Hints := ⟨[], fun _ => [], tab [(0, [1, 2]), (1, [4])], tab []⟩

attribute [go_sem] c_r07_has_r0 c_r07_has_r1 c_r07_has_r2 c_r07_has_r3 c_r07_has_r4 c_r07_has_r5 c_r07_has_r7 c_r07_has c_r07_ascending_r0 c_r07_ascending_r1 c_r07_ascending_r2 c_r07_ascending_r3 c_r07_ascending_r4 c_r07_ascending_r5 c_r07_ascending_r6 c_r07_ascending_r7 c_r07_ascending_r9 c_r07_ascending c_r07_Right_r0 c_r07_Right_r1 c_r07_Right_r2 c_r07_Right_r3 c_r07_Right_r4 c_r07_Right_r5 c_r07_Right_r6 c_r07_Right_r7 c_r07_Right_r8 c_r07_Right_r9 c_r07_Right_r10 c_r07_Right_r11 c_r07_Right_r12 c_r07_Right_r14 c_r07_Right c_r07_Few_r0 c_r07_Few_r1 c_r07_Few
section
variable (P : Program) (F : String → Nat)
def K_r07_has : Prop := ∀ (l : List Int) (n : Int), l.length ≤ maxL → FC P (F "r07.has") [.lst 1 (ints l), .int .i64 n] (.bool (decide (n ∈ l))) []
def K_r07_ascending : Prop := ∀ (l : List Int) (n : Int), l.length ≤ maxL → 0 ≤ n → n ≤ 1000000 → FC P (F "r07.ascending") [.lst 1 (ints l), .int .i64 n] (.int .i64 (ascG n none l)) []
def K_r07_Right : Prop := ∀ (g : G) (p : Mo), validG g = 0 → p.n.length ≤ maxL → p.e.length ≤ maxL → FC P (F "r07.Right") [gD g, mD p] (.int .i64 (rightP g p)) []
def K_r07_Few : Prop := ∀ (m : Mo) (n : Int), m.n.length ≤ maxL → m.e.length ≤ maxL → FC P (F "r07.Few") [mD m, .int .i64 n] (.bool (fewM m n)) []
end
section
variable {P : Program} {F : String → Nat} {α : Type}
theorem mem_take {l : List Int} {n : Int} {i : Nat} (h : i < l.length) : n ∈ l.take (i + 1) ↔ n ∈ l.take i ∨ gt l i = n := by
  rw [take_gt h]; simp [eq_comm]
theorem w_r07_has (l : List Int) (n : Int) (hl : l.length ≤ maxL) : W P (c_r07_has F) (Done [.t 4] [] (.bool (decide (n ∈ l))) []) (init [.lst 1 (ints l), .int .i64 n]) := by
  refine W_of ?_
  unfold maxL at hl
  simp (config := { maxSteps := 1000000 }) (disch := first | omega | (simp only [go_sem]; omega)) only [go_sem, ↓reduceIte]
  refine W_loop (fun i : Nat => ⟨[(0, .lst 1 (ints l)), (1, .int .i64 n), (5, .int .i64 i)], [], 0⟩) (fun i => i ≤ l.length ∧ n ∉ l.take i) (fun i => l.length - i) 0 ?_ ?_ ?_
  · simp (config := { maxSteps := 1000000 }) (disch := first | omega | (simp only [go_sem]; omega)) only [go_sem, ↓reduceIte]
    rfl
  · simp
  · rintro i ⟨hi, hn⟩
    simp (config := { maxSteps := 1000000 }) (disch := first | omega | (simp only [go_sem]; omega)) only [go_sem, ↓reduceIte, c_r07_has_b6]
    refine bran_dec (fun c => ?_) (fun c => ?_)
    · have hm := mem_take (n := n) (l := l) (i := i) (by omega)
      simp (config := { maxSteps := 1000000 }) (disch := first | omega | (simp only [go_sem]; omega)) only [go_sem, ↓reduceIte]
      refine bran_dec (fun d => ?_) (fun d => ?_)
      · have : n ∈ l := by rw [← d]; exact gt_mem (by omega) (by omega)
        simp (config := { maxSteps := 1000000 }) (disch := first | omega | (simp only [go_sem]; omega)) only [go_sem, ↓reduceIte]
        simp [this]
      · simp (config := { maxSteps := 1000000 }) (disch := first | omega | (simp only [go_sem]; omega)) only [go_sem, ↓reduceIte]
        exact ⟨i + 1, by simp, ⟨by omega, fun h => by rcases hm.1 h with h | h; exact hn h; exact d h⟩, by omega⟩
    · obtain rfl : i = l.length := by omega
      rw [List.take_length] at hn
      simp (config := { maxSteps := 1000000 }) (disch := first | omega | (simp only [go_sem]; omega)) only [go_sem, ↓reduceIte]
      simp [hn]
theorem w_r07_ascending (l : List Int) (n : Int) (hl : l.length ≤ maxL) (h0 : 0 ≤ n) (h1 : n ≤ 1000000) : W P (c_r07_ascending F) (Done [.t 4] [] (.int .i64 (ascG n none l)) []) (init [.lst 1 (ints l), .int .i64 n]) := by
  refine W_of ?_
  unfold maxL at hl
  simp (config := { maxSteps := 1000000 }) (disch := first | omega | (simp only [go_sem]; omega)) only [go_sem, ↓reduceIte]
  refine W_loop (fun i : Nat => ⟨[(0, .lst 1 (ints l)), (1, .int .i64 n), (5, .int .i64 i)], [], 0⟩) (fun i => i ≤ l.length ∧ ascG n none l = ascG n (prevO l i) (l.drop i)) (fun i => l.length - i) 0 ?_ ?_ ?_
  · simp (config := { maxSteps := 1000000 }) (disch := first | omega | (simp only [go_sem]; omega)) only [go_sem, ↓reduceIte]
    rfl
  · simp [prevO]
  · intro i hi
    simp (config := { maxSteps := 1000000 }) (disch := first | omega | (simp only [go_sem]; omega)) only [go_sem, ↓reduceIte, c_r07_ascending_b8]
    refine bran_dec (fun a => ?_) (fun a => ?_)
    · have hs := asc_step n l i (by omega)
      simp (config := { maxSteps := 1000000 }) (disch := first | omega | (simp only [go_sem]; omega)) only [go_sem, ↓reduceIte]
      refine bran_dec (fun b => ?_) (fun b => ?_)
      · simp (config := { maxSteps := 1000000 }) (disch := first | omega | (simp only [go_sem]; omega)) only [go_sem, ↓reduceIte, b]
        rw [hi.2, hs, if_neg (by omega)]
      · simp (config := { maxSteps := 1000000 }) (disch := first | omega | (simp only [go_sem]; omega)) only [go_sem, ↓reduceIte, b]
        refine bran_dec (fun b2 => ?_) (fun b2 => ?_)
        · simp (config := { maxSteps := 1000000 }) (disch := first | omega | (simp only [go_sem]; omega)) only [go_sem, ↓reduceIte]
          rw [hi.2, hs, if_neg (by omega)]
        · rw [if_pos (by omega)] at hs
          simp (config := { maxSteps := 1000000 }) (disch := first | omega | (simp only [go_sem]; omega)) only [go_sem, ↓reduceIte]
          refine bran_dec (fun c => ?_) (fun c => ?_)
          · simp (config := { maxSteps := 1000000 }) (disch := first | omega | (simp only [go_sem]; omega)) only [go_sem, ↓reduceIte, c]
            refine bran_dec (fun d => ?_) (fun d => ?_)
            · simp (config := { maxSteps := 1000000 }) (disch := first | omega | (simp only [go_sem]; omega)) only [go_sem, ↓reduceIte]
              rw [hi.2, hs, if_pos ⟨by omega, d⟩]
            · simp (config := { maxSteps := 1000000 }) (disch := first | omega | (simp only [go_sem]; omega)) only [go_sem, ↓reduceIte]
              exact ⟨i + 1, by simp, ⟨by omega, by rw [hi.2, hs, if_neg (fun e => d e.2)]⟩, by omega⟩
          · simp (config := { maxSteps := 1000000 }) (disch := first | omega | (simp only [go_sem]; omega)) only [go_sem, ↓reduceIte, c]
            exact ⟨i + 1, by simp, ⟨by omega, by rw [hi.2, hs, if_neg (fun e => by omega)]⟩, by omega⟩
    · simp (config := { maxSteps := 1000000 }) (disch := first | omega | (simp only [go_sem]; omega)) only [go_sem, ↓reduceIte]
      rw [hi.2, List.drop_of_length_le (by omega)]
      rfl
theorem w_r07_Right (hl : K_r07_ascending P F) (hh : K_r07_has P F) (g : G) (p : Mo) (hv : validG g = 0) (h1 : p.n.length ≤ maxL) (h2 : p.e.length ≤ maxL) : W P (c_r07_Right F) (Done [.t 4] [] (.int .i64 (rightP g p)) []) (init [gD g, mD p]) := by
  refine W_of ?_
  have vs := valid_spec hv
  have r1 := hl p.n g.n.length h1 (by omega) (by omega)
  have r2 := hl p.e g.e.length h2 (by omega) (by omega)
  have hR : rightP g p = if ascG g.n.length none p.n ≠ 0 then ascG g.n.length none p.n else if ascG g.e.length none p.e ≠ 0 then ascG g.e.length none p.e else if dangP g p = true then 14 else 0 := rfl
  rw [hR]
  by_cases c1 : ascG g.n.length none p.n = 0
  case neg =>
    rw [if_pos c1]
    generalize ascG g.n.length none p.n = v at *
    simp only [gD, mD] at *
    simp (config := { maxSteps := 1000000 }) (disch := first | omega | (simp only [go_sem]; omega)) only [go_sem, ↓reduceIte]
    refine call_by r1 ?_
    simp (config := { maxSteps := 1000000 }) (disch := first | omega | (simp only [go_sem]; omega)) only [go_sem, ↓reduceIte, c1]
  rw [if_neg (by simp [c1])]
  by_cases c2 : ascG g.e.length none p.e = 0
  case neg =>
    rw [if_pos c2]
    rw [c1] at r1
    generalize ascG g.e.length none p.e = v at *
    simp only [gD, mD] at *
    simp (config := { maxSteps := 1000000 }) (disch := first | omega | (simp only [go_sem]; omega)) only [go_sem, ↓reduceIte]
    refine call_by r1 ?_
    simp (config := { maxSteps := 1000000 }) (disch := first | omega | (simp only [go_sem]; omega)) only [go_sem, ↓reduceIte]
    refine call_by r2 ?_
    simp (config := { maxSteps := 1000000 }) (disch := first | omega | (simp only [go_sem]; omega)) only [go_sem, ↓reduceIte, c2]
  rw [if_neg (by simp [c2])]
  have a1 := ascG_iff.1 c1
  have a2 := ascG_iff.1 c2
  have q1 := asc_len a1
  have q2 := asc_len a2
  rw [c1] at r1
  rw [c2] at r2
  have hD : dangP g p = p.e.any fun x => !(decide ((gt g.e x).f ∈ p.n) && decide ((gt g.e x).o ∈ p.n)) := rfl
  have hx := fun x => hh p.n x (by unfold maxL; omega)
  clear hR c1 c2
  obtain ⟨gn, ge⟩ := g
  obtain ⟨pn, pe⟩ := p
  simp only [gD, mD] at *
  simp (config := { maxSteps := 1000000 }) (disch := first | omega | (simp only [go_sem]; omega)) only [go_sem, ↓reduceIte]
  refine call_by r1 ?_
  simp (config := { maxSteps := 1000000 }) (disch := first | omega | (simp only [go_sem]; omega)) only [go_sem, ↓reduceIte]
  refine call_by r2 ?_
  simp (config := { maxSteps := 1000000 }) (disch := first | omega | (simp only [go_sem]; omega)) only [go_sem, ↓reduceIte]
  refine W_loop (fun i : Nat => ⟨[(2, .pt 0 0), (3, .pt 1 0), (7, .int .i64 i)], [(0, .box [.lst 1 (ints gn), .lst 3 (eds ge)]), (1, .box [.lst 1 (ints pn), .lst 1 (ints pe)])], 2⟩) (fun i => i ≤ pe.length ∧ ∀ k : Nat, k < i → (gt ge (gt pe k)).f ∈ pn ∧ (gt ge (gt pe k)).o ∈ pn) (fun i => pe.length - i) 0 ?_ ?_ ?_
  · simp (config := { maxSteps := 1000000 }) (disch := first | omega | (simp only [go_sem]; omega)) only [go_sem, ↓reduceIte]
    rfl
  · exact ⟨by omega, fun k hk => by omega⟩
  · rintro i ⟨hi, hk⟩
    by_cases c : i < pe.length
    · have g1 : decide ((i : Int) < pe.length) = true := decide_eq_true (by omega)
      have hb := a2.b _ (gt_mem (l := pe) (j := i) (by omega) (by omega))
      have x1 := hx (gt ge (gt pe i)).f
      have x2 := hx (gt ge (gt pe i)).o
      by_cases d1 : (gt ge (gt pe i)).f ∈ pn
      · rw [decide_eq_true d1] at x1
        by_cases d2 : (gt ge (gt pe i)).o ∈ pn
        · rw [decide_eq_true d2] at x2
          simp (config := { maxSteps := 1000000 }) (disch := first | omega | (simp only [go_sem]; omega)) only [go_sem, ↓reduceIte, c_r07_Right_b13, g1]
          refine call_by x1 ?_
          simp (config := { maxSteps := 1000000 }) (disch := first | omega | (simp only [go_sem]; omega)) only [go_sem, ↓reduceIte]
          refine call_by x2 ?_
          simp (config := { maxSteps := 1000000 }) (disch := first | omega | (simp only [go_sem]; omega)) only [go_sem, ↓reduceIte]
          refine ⟨i + 1, by simp, ⟨by omega, fun k h => ?_⟩, by omega⟩
          by_cases e : k = i
          · subst e; exact ⟨d1, d2⟩
          · exact hk k (by omega)
        · rw [decide_eq_false d2] at x2
          have hdt : dangP ⟨gn, ge⟩ ⟨pn, pe⟩ = true := by
            rw [hD, List.any_eq_true]
            exact ⟨_, gt_mem (l := pe) (j := i) (by omega) (by omega), by simp [d2]⟩
          rw [hdt]
          simp (config := { maxSteps := 1000000 }) (disch := first | omega | (simp only [go_sem]; omega)) only [go_sem, ↓reduceIte, c_r07_Right_b13, g1]
          refine call_by x1 ?_
          simp (config := { maxSteps := 1000000 }) (disch := first | omega | (simp only [go_sem]; omega)) only [go_sem, ↓reduceIte]
          refine call_by x2 ?_
          simp (config := { maxSteps := 1000000 }) (disch := first | omega | (simp only [go_sem]; omega)) only [go_sem, ↓reduceIte]
          try rfl
      · rw [decide_eq_false d1] at x1
        have hdt : dangP ⟨gn, ge⟩ ⟨pn, pe⟩ = true := by
          rw [hD, List.any_eq_true]
          exact ⟨_, gt_mem (l := pe) (j := i) (by omega) (by omega), by simp [d1]⟩
        rw [hdt]
        simp (config := { maxSteps := 1000000 }) (disch := first | omega | (simp only [go_sem]; omega)) only [go_sem, ↓reduceIte, c_r07_Right_b13, g1]
        refine call_by x1 ?_
        simp (config := { maxSteps := 1000000 }) (disch := first | omega | (simp only [go_sem]; omega)) only [go_sem, ↓reduceIte]
        try rfl
    · have g1 : decide ((i : Int) < pe.length) = false := decide_eq_false (by omega)
      obtain rfl : i = pe.length := by omega
      have hdt : dangP ⟨gn, ge⟩ ⟨pn, pe⟩ = false := by
        rw [hD, List.any_eq_false]
        intro x hx
        obtain ⟨k, k1, k2⟩ := mem_gt hx
        have := hk k k1
        rw [k2] at this
        simp [this]
      rw [hdt]
      simp (config := { maxSteps := 1000000 }) (disch := first | omega | (simp only [go_sem]; omega)) only [go_sem, ↓reduceIte, c_r07_Right_b13, g1]
      try rfl
theorem w_r07_Few (m : Mo) (n : Int) (h1 : m.n.length ≤ maxL) (h2 : m.e.length ≤ maxL) : W P (c_r07_Few F) (Done [.t 4] [] (.bool (fewM m n)) []) (init [mD m, .int .i64 n]) := by
  refine W_of ?_
  obtain ⟨mn, me⟩ := m
  simp only [maxL] at h1 h2
  simp (config := { maxSteps := 1000000 }) (disch := first | omega | (simp only [go_sem]; omega)) only [go_sem, ↓reduceIte, mD, fewM]
end
end Go.Am
namespace Go.Am
open Go
set_option linter.unusedVariables false
set_option linter.unusedSimpArgs false
/- r05.SameParts -/
def c_r05_SameParts_r0 (F : String → Nat) : List LI := [⟨some 4, .mov (.k (.bool false)), none⟩]
def c_r05_SameParts_r1 (F : String → Nat) : List LI := [⟨some 6, .mov (.t 0), none⟩,
  ⟨some 7, .len (.t 6), none⟩,
  ⟨some 8, .mov (.t 1), none⟩,
  ⟨some 9, .len (.t 8), none⟩,
  ⟨some 10, .bin .neq (.t 7) (.t 9), none⟩]
def c_r05_SameParts_r2 (F : String → Nat) : List LI := [⟨some 4, .mov (.k (.bool false)), none⟩]
def c_r05_SameParts_r3 (F : String → Nat) : List LI := [⟨some 5, .mov (.k (.int .i64 (0))), none⟩]
def c_r05_SameParts_r4 (F : String → Nat) : List LI := [⟨some 11, .mov (.t 5), none⟩,
  ⟨some 12, .mov (.t 0), none⟩,
  ⟨some 13, .len (.t 12), none⟩,
  ⟨some 14, .bin .lss (.t 11) (.t 13), none⟩]
def c_r05_SameParts_r5 (F : String → Nat) : List LI := [⟨some 17, .mov (.t 0), none⟩,
  ⟨some 18, .mov (.t 5), none⟩,
  ⟨some 19, .iad 2 (.t 17) (.t 18), none⟩,
  ⟨some 20, .fad 0 (.t 19), none⟩,
  ⟨some 21, .load false 1 (.t 20), none⟩,
  ⟨some 22, .mov (.t 1), none⟩,
  ⟨some 23, .mov (.t 5), none⟩,
  ⟨some 24, .iad 2 (.t 22) (.t 23), none⟩,
  ⟨some 25, .fad 0 (.t 24), none⟩,
  ⟨some 26, .load false 1 (.t 25), none⟩,
  ⟨some 27, .call (F "r05.SameInts") [.t 21, .t 26] [], none⟩,
  ⟨some 28, .not (.t 27), none⟩,
  ⟨some 29, .mov (.t 28), none⟩,
  ⟨some 30, .mov (.t 0), some (29, false)⟩,
  ⟨some 31, .mov (.t 5), some (29, false)⟩,
  ⟨some 32, .iad 2 (.t 30) (.t 31), some (29, false)⟩,
  ⟨some 33, .fad 1 (.t 32), some (29, false)⟩,
  ⟨some 34, .load false 1 (.t 33), some (29, false)⟩,
  ⟨some 35, .mov (.t 1), some (29, false)⟩,
  ⟨some 36, .mov (.t 5), some (29, false)⟩,
  ⟨some 37, .iad 2 (.t 35) (.t 36), some (29, false)⟩,
  ⟨some 38, .fad 1 (.t 37), some (29, false)⟩,
  ⟨some 39, .load false 1 (.t 38), some (29, false)⟩,
  ⟨some 40, .call (F "r05.SameInts") [.t 34, .t 39] [], some (29, false)⟩,
  ⟨some 41, .not (.t 40), some (29, false)⟩,
  ⟨some 42, .pick (.t 29) (.k (.bool true)) (.t 41), none⟩]
def c_r05_SameParts_r6 (F : String → Nat) : List LI := [⟨some 4, .mov (.k (.bool false)), none⟩]
def c_r05_SameParts_r7 (F : String → Nat) : List LI := [⟨some 15, .mov (.t 5), none⟩,
  ⟨some 16, .bin .add (.t 15) (.k (.int .i64 (1))), none⟩,
  ⟨some 5, .mov (.t 16), none⟩]
def c_r05_SameParts_b8 (F : String → Nat) : LC := (.seq (.seq (.reg (c_r05_SameParts_r4 F) [0, 1, 5, 14]) (.cond (.t 14) .skip (.exit 0))) (.seq (.block 1 (.seq (.dreg [] (c_r05_SameParts_r5 F) [0, 1, 5, 42]) (.cond (.t 42) (.seq (.reg (c_r05_SameParts_r6 F) [4]) .ret) .skip))) (.reg (c_r05_SameParts_r7 F) [0, 1, 5])))
def c_r05_SameParts_r9 (F : String → Nat) : List LI := [⟨some 4, .mov (.k (.bool true)), none⟩]
def c_r05_SameParts (F : String → Nat) : LC := (.seq (.reg (c_r05_SameParts_r0 F) [0, 1]) (.seq (.seq (.reg (c_r05_SameParts_r1 F) [0, 1, 10]) (.cond (.t 10) (.seq (.reg (c_r05_SameParts_r2 F) [4]) .ret) .skip)) (.seq (.seq (.reg (c_r05_SameParts_r3 F) [0, 1, 5]) (.block 0 (.loop [0, 1, 5] (c_r05_SameParts_b8 F)))) (.seq (.reg (c_r05_SameParts_r9 F) [4]) .ret))))
def h_r05_SameParts : Hints := ⟨[], fun _ => [], tab [(0, [0, 1]), (1, [0, 1, 10]), (2, [4]), (3, [0, 1, 5]), (4, [0, 1, 5, 14]), (5, [0, 1, 5]), (6, [0, 1, 5, 42]), (7, [4]), (8, [4])], tab [(4, [0, 1, 5])]⟩

attribute [go_sem] c_r05_SameParts_r0 c_r05_SameParts_r1 c_r05_SameParts_r2 c_r05_SameParts_r3 c_r05_SameParts_r4 c_r05_SameParts_r5 c_r05_SameParts_r6 c_r05_SameParts_r7 c_r05_SameParts_r9 c_r05_SameParts
section
variable (P : Program) (F : String → Nat)
def Small (l : List Mo) : Prop := ∀ m ∈ l, m.n.length ≤ maxL ∧ m.e.length ≤ maxL
def K_r05_SameParts : Prop := ∀ a b : List Mo, a.length ≤ maxL → Small a → FC P (F "r05.SameParts") [.lst 2 (pts a), .lst 2 (pts b)] (.bool (decide (a = b))) []
end
section
variable {P : Program} {F : String → Nat} {α : Type}
theorem w_r05_SameParts (hs : K_r05_SameInts P F) (a b : List Mo) (h1 : a.length ≤ maxL) (h2 : Small a) : W P (c_r05_SameParts F) (Done [.t 4] [] (.bool (decide (a = b))) []) (init [.lst 2 (pts a), .lst 2 (pts b)]) := by
  refine W_of ?_
  unfold maxL at h1
  simp (config := { maxSteps := 1000000 }) (disch := first | omega | (simp only [go_sem]; omega)) only [go_sem, ↓reduceIte]
  refine bran_ndec (fun h => ?_) (fun h => ?_)
  · simp (config := { maxSteps := 1000000 }) (disch := first | omega | (simp only [go_sem]; omega)) only [go_sem, ↓reduceIte]
    have : a ≠ b := fun e => h (by rw [e])
    simp [this]
  · have h' : a.length = b.length := by omega
    simp (config := { maxSteps := 1000000 }) (disch := first | omega | (simp only [go_sem]; omega)) only [go_sem, ↓reduceIte]
    refine W_loop (fun i : Nat => ⟨[(0, .lst 2 (pts a)), (1, .lst 2 (pts b)), (5, .int .i64 i)], [], 0⟩) (fun i => i ≤ a.length ∧ a.take i = b.take i) (fun i => a.length - i) 0 ?_ ?_ ?_
    · simp (config := { maxSteps := 1000000 }) (disch := first | omega | (simp only [go_sem]; omega)) only [go_sem, ↓reduceIte]
      rfl
    · simp
    · intro i hi
      simp (config := { maxSteps := 1000000 }) (disch := first | omega | (simp only [go_sem]; omega)) only [go_sem, ↓reduceIte, c_r05_SameParts_b8]
      refine bran_dec (fun c => ?_) (fun c => ?_)
      · simp (config := { maxSteps := 1000000 }) (disch := first | omega | (simp only [go_sem]; omega)) only [go_sem, ↓reduceIte]
        have hsm := h2 (gt a i) (gt_mem (by omega) (by omega))
        have hmo : gt a (i : Int) = gt b (i : Int) ↔ (gt a (i : Int)).n = (gt b (i : Int)).n ∧ (gt a (i : Int)).e = (gt b (i : Int)).e := by
          generalize gt a (i : Int) = x
          generalize gt b (i : Int) = y
          cases x; cases y; simp
        refine call_by (hs _ _ hsm.1) ?_
        simp (config := { maxSteps := 1000000 }) (disch := first | omega | (simp only [go_sem]; omega)) only [go_sem, ↓reduceIte]
        refine bran_ndec (fun d => ?_) (fun d => ?_)
        · simp (config := { maxSteps := 1000000 }) (disch := first | omega | (simp only [go_sem]; omega)) only [go_sem, ↓reduceIte, decide_eq_false d]
          have : a ≠ b := fun e => d (by rw [e])
          simp [this]
        · simp (config := { maxSteps := 1000000 }) (disch := first | omega | (simp only [go_sem]; omega)) only [go_sem, ↓reduceIte, decide_eq_true d]
          refine call_by (hs _ _ hsm.2) ?_
          simp (config := { maxSteps := 1000000 }) (disch := first | omega | (simp only [go_sem]; omega)) only [go_sem, ↓reduceIte]
          refine bran_ndec (fun f => ?_) (fun f => ?_)
          · simp (config := { maxSteps := 1000000 }) (disch := first | omega | (simp only [go_sem]; omega)) only [go_sem, ↓reduceIte]
            have : a ≠ b := fun e => f (by rw [e])
            simp [this]
          · simp (config := { maxSteps := 1000000 }) (disch := first | omega | (simp only [go_sem]; omega)) only [go_sem, ↓reduceIte]
            exact ⟨i + 1, by simp, ⟨by omega, by rw [take_gt (by omega), take_gt (by omega), hi.2, hmo.2 ⟨d, f⟩]⟩, by omega⟩
      · simp (config := { maxSteps := 1000000 }) (disch := first | omega | (simp only [go_sem]; omega)) only [go_sem, ↓reduceIte]
        obtain rfl : i = a.length := by omega
        have := hi.2
        rw [List.take_length, List.take_of_length_le (by omega)] at this
        simp [this]
end
end Go.Am
namespace Go.Am
open Go
set_option linter.unusedVariables false
set_option linter.unusedSimpArgs false
attribute [local irreducible] W
/- slices.IndexFunc.apiPart -/
def c_slices_IndexFunc_apiPart_r0 (F : String → Nat) : List LI := [⟨some 4, .mov (.k (.int .i64 (0))), none⟩]
def c_slices_IndexFunc_apiPart_r1 (F : String → Nat) : List LI := [⟨some 6, .mov (.t 0), none⟩,
  ⟨some 7, .len (.t 6), none⟩,
  ⟨some 8, .mov (.k (.int .i64 (0))), none⟩]
def c_slices_IndexFunc_apiPart_r2 (F : String → Nat) : List LI := [⟨some 9, .bin .lss (.t 8) (.t 7), none⟩]
def c_slices_IndexFunc_apiPart_r3 (F : String → Nat) : List LI := [⟨some 10, .mov (.t 8), none⟩,
  ⟨some 5, .mov (.t 10), none⟩]
def c_slices_IndexFunc_apiPart_r4 (F : String → Nat) : List LI := [⟨some 11, .mov (.t 1), none⟩,
  ⟨some 12, .mov (.t 0), none⟩,
  ⟨some 13, .mov (.t 5), none⟩,
  ⟨some 14, .iad 2 (.t 12) (.t 13), none⟩,
  ⟨some 15, .load true 2 (.t 14), none⟩,
  ⟨some 16, .callv (.t 11) [.t 15], none⟩]
def c_slices_IndexFunc_apiPart_r5 (F : String → Nat) : List LI := [⟨some 17, .mov (.t 5), none⟩,
  ⟨some 4, .mov (.t 17), none⟩]
def c_slices_IndexFunc_apiPart_r6 (F : String → Nat) : List LI := [⟨some 18, .bin .add (.t 8) (.k (.int .i64 (1))), none⟩,
  ⟨some 8, .mov (.t 18), none⟩]
def c_slices_IndexFunc_apiPart_b7 (F : String → Nat) : LC := (.seq (.reg (c_slices_IndexFunc_apiPart_r2 F) [0, 1, 7, 8, 9]) (.seq (.cond (.t 9) .skip (.exit 0)) (.seq (.block 1 (.seq (.reg (c_slices_IndexFunc_apiPart_r3 F) [0, 1, 5, 7, 8]) (.seq (.reg (c_slices_IndexFunc_apiPart_r4 F) [0, 1, 5, 7, 8, 16]) (.cond (.t 16) (.seq (.reg (c_slices_IndexFunc_apiPart_r5 F) [4]) .ret) .skip)))) (.reg (c_slices_IndexFunc_apiPart_r6 F) [0, 1, 7, 8]))))
def c_slices_IndexFunc_apiPart_r8 (F : String → Nat) : List LI := [⟨some 4, .mov (.k (.int .i64 (-1))), none⟩]
def c_slices_IndexFunc_apiPart (F : String → Nat) : LC := (.seq (.reg (c_slices_IndexFunc_apiPart_r0 F) [0, 1]) (.seq (.seq (.reg (c_slices_IndexFunc_apiPart_r1 F) [0, 1, 7, 8]) (.block 0 (.loop [0, 1, 7, 8] (c_slices_IndexFunc_apiPart_b7 F)))) (.seq (.reg (c_slices_IndexFunc_apiPart_r8 F) [4]) .ret)))
def h_slices_IndexFunc_apiPart : Hints := ⟨[], fun _ => [], tab [(0, [0, 1]), (1, [0, 1, 7, 8]), (2, [0, 1, 7, 8, 9]), (3, [0, 1, 5, 7, 8]), (4, [0, 1, 5, 7, 8, 16]), (5, [4]), (6, [0, 1, 7, 8]), (7, [4])], tab [(2, [0, 1, 7, 8])]⟩

/- slices.ContainsFunc.apiPart -/
def c_slices_ContainsFunc_apiPart_r0 (F : String → Nat) : List LI := [⟨some 4, .mov (.k (.bool false)), none⟩]
def c_slices_ContainsFunc_apiPart_r1 (F : String → Nat) : List LI := [⟨some 5, .mov (.t 0), none⟩,
  ⟨some 6, .mov (.t 1), none⟩,
  ⟨some 7, .call (F "slices.IndexFunc.apiPart") [.t 5, .t 6] [], none⟩,
  ⟨some 8, .bin .geq (.t 7) (.k (.int .i64 (0))), none⟩,
  ⟨some 4, .mov (.t 8), none⟩]
def c_slices_ContainsFunc_apiPart (F : String → Nat) : LC := (.seq (.reg (c_slices_ContainsFunc_apiPart_r0 F) [0, 1]) (.seq (.reg (c_slices_ContainsFunc_apiPart_r1 F) [4]) .ret))
def h_slices_ContainsFunc_apiPart : Hints := ⟨[], fun _ => [], tab [(0, [0, 1]), (1, [4])], tab []⟩

/- l07.small -/
def c_l07_small_r0 (F : String → Nat) : List LI := [⟨some 2, .bx (.t 0), none⟩,
  ⟨some 4, .mov (.k (.bool false)), none⟩]
def c_l07_small_r1 (F : String → Nat) : List LI := [⟨some 5, .load true 2 (.t 2), none⟩,
  ⟨some 6, .call (F "r05.Few") [.t 5] [], none⟩,
  ⟨some 7, .mov (.t 6), none⟩,
  ⟨some 8, .mov (.t 1), some (7, true)⟩,
  ⟨some 9, .call (F "slices.ContainsFunc.apiPart") [.t 8, .k (.clo (F "l07.small.1") [])] [], some (7, true)⟩,
  ⟨some 10, .not (.t 9), some (7, true)⟩,
  ⟨some 11, .pick (.t 7) (.t 10) (.k (.bool false)), none⟩,
  ⟨some 4, .mov (.t 11), none⟩]
def c_l07_small (F : String → Nat) : LC := (.seq (.reg (c_l07_small_r0 F) [1, 2]) (.seq (.reg (c_l07_small_r1 F) [4]) .ret))
def h_l07_small : Hints := ⟨[], fun _ => [], tab [(0, [1, 2]), (1, [4])], tab []⟩

/- l07.small.1 -/
def c_l07_small_1_r0 (F : String → Nat) : List LI := [⟨some 1, .bx (.t 0), none⟩,
  ⟨some 2, .mov (.k (.bool false)), none⟩]
def c_l07_small_1_r1 (F : String → Nat) : List LI := [⟨some 3, .load true 2 (.t 1), none⟩,
  ⟨some 4, .call (F "r07.Few") [.t 3, .k (.int .i64 (150))] [], none⟩,
  ⟨some 5, .not (.t 4), none⟩,
  ⟨some 2, .mov (.t 5), none⟩]
def c_l07_small_1 (F : String → Nat) : LC := (.seq (.reg (c_l07_small_1_r0 F) [1]) (.seq (.reg (c_l07_small_1_r1 F) [2]) .ret))
def h_l07_small_1 : Hints := ⟨[], fun _ => [], tab [(0, [1]), (1, [2])], tab []⟩

attribute [go_sem] c_slices_IndexFunc_apiPart_r0 c_slices_IndexFunc_apiPart_r1 c_slices_IndexFunc_apiPart_r2 c_slices_IndexFunc_apiPart_r3 c_slices_IndexFunc_apiPart_r4 c_slices_IndexFunc_apiPart_r5 c_slices_IndexFunc_apiPart_r6 c_slices_IndexFunc_apiPart_r8 c_slices_IndexFunc_apiPart c_slices_ContainsFunc_apiPart_r0 c_slices_ContainsFunc_apiPart_r1 c_slices_ContainsFunc_apiPart c_l07_small_r0 c_l07_small_r1 c_l07_small c_l07_small_1_r0 c_l07_small_1_r1 c_l07_small_1
def smallL (g : G) (l : List Mo) : Bool := few g && l.all fun m => fewM m 150
section
variable (P : Program) (F : String → Nat)
def K_slices_IndexFunc_apiPart : Prop := ∀ (l : List Mo), l.length ≤ maxL → ∀ (g : Nat) (cs : List D), cs.all okC2 = true → ∀ p : Mo → Bool, (∀ x, x ∈ l → FC P g (mD x :: cs) (.bool (p x)) []) → FC P (F "slices.IndexFunc.apiPart") [.lst 2 (pts l), .clo g cs] (.int .i64 (idx p l 0)) []
def K_slices_ContainsFunc_apiPart : Prop := ∀ (l : List Mo), l.length ≤ maxL → ∀ (g : Nat) (cs : List D), cs.all okC2 = true → ∀ p : Mo → Bool, (∀ x, x ∈ l → FC P g (mD x :: cs) (.bool (p x)) []) → FC P (F "slices.ContainsFunc.apiPart") [.lst 2 (pts l), .clo g cs] (.bool (l.any p)) []
def K_l07_small_1 : Prop := ∀ m : Mo, m.sm → FC P (F "l07.small.1") [mD m] (.bool (!fewM m 150)) []
def K_l07_small : Prop := ∀ (g : G) (l : List Mo), l.length ≤ 1000 → (∀ m ∈ l, m.sm) → FC P (F "l07.small") [gD g, .lst 2 (pts l)] (.bool (smallL g l)) []
end
section
variable {P : Program} {F : String → Nat} {α : Type}
theorem w_slices_IndexFunc_apiPart (l : List Mo) (hl : l.length ≤ maxL) (g : Nat) (cs : List D) (hcs : cs.all okC2 = true) (p : Mo → Bool) (hg : ∀ x, x ∈ l → FC P g (mD x :: cs) (.bool (p x)) []) : W P (c_slices_IndexFunc_apiPart F) (Done [.t 4] [] (.int .i64 (idx p l 0)) []) (init [.lst 2 (pts l), .clo g cs]) := by
  refine W_of ?_
  unfold maxL at hl
  have e1 := caps_lend2 hcs
  have e2 := caps_ren hcs
  have pl := pts_length l
  simp (config := { maxSteps := 1000000 }) (disch := first | omega | (simp only [go_sem]; omega)) only [go_sem, ↓reduceIte, pl]
  refine W_loop (fun i : Nat => ⟨[(0, .lst 2 (pts l)), (1, .clo g cs), (7, .int .i64 l.length), (8, .int .i64 i)], [], 0⟩) (fun i => i ≤ l.length ∧ idx p l 0 = idx p (l.drop i) i) (fun i => l.length - i) 0 ?_ ?_ ?_
  · simp (config := { maxSteps := 1000000 }) (disch := first | omega | (simp only [go_sem]; omega)) only [go_sem, ↓reduceIte, e2, pl]
    rfl
  · simp
  · intro i hi
    by_cases h : i < l.length
    · have d1 : decide ((i : Int) < l.length) = true := decide_eq_true (by omega)
      have hd := idx_drop p l i (by omega)
      have r := hg _ (gt_mem (l := l) (j := (i : Int)) (by omega) (by omega))
      simp only [mD] at r
      simp (config := { maxSteps := 1000000 }) (disch := first | omega | (simp only [go_sem]; omega)) only [go_sem, ↓reduceIte, c_slices_IndexFunc_apiPart_b7, d1, e1, pl]
      refine call_by r ?_
      simp (config := { maxSteps := 1000000 }) (disch := first | omega | (simp only [go_sem]; omega)) only [go_sem, ↓reduceIte]
      refine bran_by (fun h2 => ?_) (fun h2 => ?_)
      · simp (config := { maxSteps := 1000000 }) (disch := first | omega | (simp only [go_sem]; omega)) only [go_sem, ↓reduceIte]
        rw [hi.2, hd, if_pos h2]
      · simp (config := { maxSteps := 1000000 }) (disch := first | omega | (simp only [go_sem]; omega)) only [go_sem, ↓reduceIte, e2]
        exact ⟨i + 1, by simp, ⟨by omega, by rw [hi.2, hd, if_neg (by simp [h2])]⟩, by omega⟩
    · have d1 : decide ((i : Int) < l.length) = false := decide_eq_false (by omega)
      simp (config := { maxSteps := 1000000 }) (disch := first | omega | (simp only [go_sem]; omega)) only [go_sem, ↓reduceIte, c_slices_IndexFunc_apiPart_b7, d1]
      rw [hi.2, List.drop_of_length_le (by omega)]
      rfl
theorem w_slices_ContainsFunc_apiPart (hi : K_slices_IndexFunc_apiPart P F) (l : List Mo) (hl : l.length ≤ maxL) (g : Nat) (cs : List D) (hcs : cs.all okC2 = true) (p : Mo → Bool) (hg : ∀ x, x ∈ l → FC P g (mD x :: cs) (.bool (p x)) []) : W P (c_slices_ContainsFunc_apiPart F) (Done [.t 4] [] (.bool (l.any p)) []) (init [.lst 2 (pts l), .clo g cs]) := by
  refine W_of ?_
  have r := hi l hl g cs hcs p hg
  have hge := idx_ge p l 0 (by omega)
  have e0 := caps_lend hcs
  generalize idx p l 0 = ix at *
  simp (config := { maxSteps := 1000000 }) (disch := first | omega | (simp only [go_sem]; omega)) only [go_sem, ↓reduceIte, e0]
  refine call_by r ?_
  simp (config := { maxSteps := 1000000 }) (disch := first | omega | (simp only [go_sem]; omega)) only [go_sem, ↓reduceIte]
  try rw [hge]
theorem w_l07_small_1 (hf : K_r07_Few P F) (m : Mo) (h : m.sm) : W P (c_l07_small_1 F) (Done [.t 2] [] (.bool (!fewM m 150)) []) (init [mD m]) := by
  refine W_of ?_
  have r1 := hf m 150 h.1 h.2
  generalize fewM m 150 = b at *
  simp only [mD] at *
  simp (config := { maxSteps := 1000000 }) (disch := first | omega | (simp only [go_sem]; omega)) only [go_sem, ↓reduceIte]
  refine call_by r1 ?_
  simp (config := { maxSteps := 1000000 }) (disch := first | omega | (simp only [go_sem]; omega)) only [go_sem, ↓reduceIte]
theorem w_l07_small (hg : K_r05_Few P F) (hc : K_slices_ContainsFunc_apiPart P F) (h1 : K_l07_small_1 P F) (g : G) (l : List Mo) (hl : l.length ≤ 1000) (hm : ∀ m ∈ l, m.sm) : W P (c_l07_small F) (Done [.t 4] [] (.bool (smallL g l)) []) (init [gD g, .lst 2 (pts l)]) := by
  refine W_of ?_
  have r1 := hg g
  have r2 := hc l (by unfold maxL; omega) (F "l07.small.1") [] rfl _ (fun x hx => h1 x (hm x hx))
  have e : smallL g l = (few g && !l.any fun m => !fewM m 150) := by
    unfold smallL
    rw [List.all_eq_not_any_not]
  rw [e]
  generalize few g = b1 at *
  generalize (l.any fun m => !fewM m 150) = b2 at *
  simp only [gD] at *
  cases b1
  · simp (config := { maxSteps := 1000000 }) (disch := first | omega | (simp only [go_sem]; omega)) only [go_sem, ↓reduceIte]
    refine call_by r1 ?_
    simp (config := { maxSteps := 1000000 }) (disch := first | omega | (simp only [go_sem]; omega)) only [go_sem, ↓reduceIte]
    try simp
  · simp (config := { maxSteps := 1000000 }) (disch := first | omega | (simp only [go_sem]; omega)) only [go_sem, ↓reduceIte]
    refine call_by r1 ?_
    simp (config := { maxSteps := 1000000 }) (disch := first | omega | (simp only [go_sem]; omega)) only [go_sem, ↓reduceIte]
    refine call_by r2 ?_
    simp (config := { maxSteps := 1000000 }) (disch := first | omega | (simp only [go_sem]; omega)) only [go_sem, ↓reduceIte]
    try simp
theorem few_len {g : G} (h : few g = true) : g.n.length ≤ 45 ∧ g.e.length ≤ 90 := by
  simp only [few, Bool.and_eq_true, decide_eq_true_eq] at h
  exact h
end
end Go.Am
namespace Go.Am
open Go
set_option linter.unusedVariables false
set_option linter.unusedSimpArgs false
def cmpP (p q : Mo) : Int := if cmpL p.n q.n = 0 then cmpL p.e q.e else cmpL p.n q.n
section
variable {α : Type}
theorem cmpP_cmp : Cmp cmpP where
  neg p q := by
    unfold cmpP
    have h := cmpL_cmp.neg p.n q.n
    by_cases e : cmpL p.n q.n = 0
    · rw [if_pos e, if_pos (by omega)]; exact cmpL_cmp.neg _ _
    · rw [if_neg e, if_neg (by omega)]; exact h
  eq p q h := by
    unfold cmpP at h
    split at h
    · rename_i e; exact mo_extP (cmpL_cmp.eq _ _ e) (cmpL_cmp.eq _ _ h)
    · rename_i e; exact absurd h e
  tr p q r h1 h2 := by
    unfold cmpP at *
    by_cases e1 : cmpL p.n q.n = 0
    · rw [if_pos e1] at h1
      have := cmpL_cmp.eq _ _ e1
      rw [this]
      by_cases e2 : cmpL q.n r.n = 0
      · rw [if_pos e2] at h2 ⊢; exact cmpL_cmp.tr _ _ _ h1 h2
      · rw [if_neg e2] at h2 ⊢; exact h2
    · rw [if_neg e1] at h1
      by_cases e2 : cmpL q.n r.n = 0
      · have := cmpL_cmp.eq _ _ e2
        rw [← this, if_neg e1]; exact h1
      · rw [if_neg e2] at h2
        have := cmpL_cmp.tr _ _ _ h1 h2
        rw [if_neg (by omega)]; exact this
theorem insG_at [Inhabited α] {c : α → α → Int} {p : α} : ∀ {l : List α} {k : Nat}, k ≤ l.length → (∀ j : Nat, j < k → c (gt l j) p < 0) → (k < l.length → ¬ c (gt l k) p < 0) → insG c p l = l.take k ++ p :: l.drop k
  | [], k, h, _, _ => by
    have : k = 0 := by simpa using h
    subst this; rfl
  | q :: l, 0, h, h1, h2 => by
    have := h2 (by simp)
    simp only [gt, Int.toNat_natCast, List.getElem?_cons_zero, Option.getD_some] at this
    simp only [insG]
    rw [if_neg (by simpa [gt] using h2 (by simp))]
    rfl
  | q :: l, k + 1, h, h1, h2 => by
    have hq := h1 0 (by omega)
    rw [gt_cons0] at hq
    simp only [insG]
    rw [if_pos hq, insG_at (l := l) (k := k) (by simpa using h) (fun j hj => by have := h1 (j + 1) (by omega); rwa [gt_cons] at this) (fun hk => by have := h2 (by simpa using hk); rwa [gt_cons] at this)]
    rfl
end
theorem bitsN_congr {n s t : Nat} (h : ∀ i, i < n → s.testBit i = t.testBit i) : bitsN n s = bitsN n t :=
  asc_ext (sel_pair _ _) (sel_pair _ _) fun x => by
    rw [bitsN, bitsN, sel_mem, sel_mem]
    exact ⟨fun ⟨k, k1, k2, k3⟩ => ⟨k, k1, by rw [← h k k1]; exact k2, k3⟩, fun ⟨k, k1, k2, k3⟩ => ⟨k, k1, by rw [h k k1]; exact k2, k3⟩⟩
def setP (n m s : Nat) : Mo := ⟨bitsN n s, bitsN m (s / 2 ^ n)⟩
def allQ (g : G) : Nat → List Mo
  | 0 => []
  | s + 1 => if rightP g (setP g.n.length g.e.length s) = 0 then insG cmpP (setP g.n.length g.e.length s) (allQ g s) else allQ g s
theorem setP_inj {n m s t : Nat} (hs : s < 2 ^ (n + m)) (ht : t < 2 ^ (n + m)) (h : setP n m s = setP n m t) : s = t := by
  simp only [setP, Mo.mk.injEq] at h
  have e1 : s % 2 ^ n = t % 2 ^ n := bitsN_inj (n := n) (Nat.mod_lt _ (Nat.two_pow_pos n)) (Nat.mod_lt _ (Nat.two_pow_pos n)) (by
    rw [bitsN_congr (s := s % 2 ^ n) (t := s), bitsN_congr (s := t % 2 ^ n) (t := t), h.1]
    · intro i hi; rw [Nat.testBit_mod_two_pow]; simp [hi]
    · intro i hi; rw [Nat.testBit_mod_two_pow]; simp [hi])
  rw [Nat.pow_add] at hs ht
  have e2 : s / 2 ^ n = t / 2 ^ n := bitsN_inj (n := m) (Nat.div_lt_of_lt_mul hs) (Nat.div_lt_of_lt_mul ht) h.2
  rw [← Nat.div_add_mod s (2 ^ n), ← Nat.div_add_mod t (2 ^ n), e1, e2]
theorem allQ_mem {g : G} {x : Mo} : ∀ {s : Nat}, x ∈ allQ g s ↔ ∃ t, t < s ∧ setP g.n.length g.e.length t = x ∧ rightP g x = 0
  | 0 => by simp [allQ]
  | s + 1 => by
    rw [allQ]
    have ih := allQ_mem (g := g) (x := x) (s := s)
    split
    · rename_i h
      rw [insG_mem, ih]
      constructor
      · rintro (rfl | ⟨t, h1, h2⟩)
        · exact ⟨s, by omega, rfl, h⟩
        · exact ⟨t, by omega, h2⟩
      · rintro ⟨t, h1, h2, h3⟩
        by_cases e : t = s
        · subst e; exact .inl h2.symm
        · exact .inr ⟨t, by omega, h2, h3⟩
    · rename_i h
      rw [ih]
      constructor
      · rintro ⟨t, h1, h2⟩; exact ⟨t, by omega, h2⟩
      · rintro ⟨t, h1, h2, h3⟩
        by_cases e : t = s
        · subst e; rw [h2] at h; exact absurd h3 h
        · exact ⟨t, by omega, h2, h3⟩
theorem allQ_sorted {g : G} : ∀ {s : Nat}, s ≤ 2 ^ (g.n.length + g.e.length) → (allQ g s).Pairwise (fun a b => cmpP a b < 0)
  | 0, _ => by simp [allQ]
  | s + 1, hs => by
    rw [allQ]
    split
    · refine insG_sorted cmpP_cmp (allQ_sorted (by omega)) fun hm => ?_
      obtain ⟨t, h1, h2, _⟩ := allQ_mem.1 hm
      have := setP_inj (by omega) (by omega) h2
      omega
    · exact allQ_sorted (by omega)
theorem rowA_mem {g : G} {ns : List Int} {l : List (List Int)} {x : Mo} : x ∈ rowA g ns l ↔ x.n = ns ∧ x.e ∈ l ∧ rightP g x = 0 := by
  unfold rowA
  rw [List.mem_filter, List.mem_map]
  constructor
  · rintro ⟨⟨es, h1, rfl⟩, h2⟩; exact ⟨rfl, h1, by simpa using h2⟩
  · rintro ⟨rfl, h1, h2⟩; exact ⟨⟨x.e, h1, rfl⟩, by simpa using h2⟩
theorem allP_mem {g : G} {x : Mo} : x ∈ allP g ↔ x.n ∈ subsL g.n.length ∧ x.e ∈ subsL g.e.length ∧ rightP g x = 0 := by
  unfold allP
  rw [List.mem_flatMap]
  constructor
  · rintro ⟨ns, h1, h2⟩
    obtain ⟨rfl, h3⟩ := rowA_mem.1 h2
    exact ⟨h1, h3⟩
  · rintro ⟨h1, h2⟩
    exact ⟨x.n, h1, rowA_mem.2 ⟨rfl, h2⟩⟩
theorem allP_sorted (g : G) : (allP g).Pairwise (fun a b => cmpP a b < 0) := by
  unfold allP
  rw [List.pairwise_flatMap]
  refine ⟨fun ns hns => ?_, (subs_sorted g.n.length).imp_of_mem fun {a b} ha hb h x hx y hy => ?_⟩
  · unfold rowA
    refine List.Pairwise.filter _ ?_
    rw [List.pairwise_map]
    refine (subs_sorted g.e.length).imp fun {a b} h => ?_
    unfold cmpP
    rw [if_pos]
    · exact h
    · have := cmpL_cmp.neg ns ns
      simp only
      omega
  · obtain ⟨rfl, _⟩ := rowA_mem.1 hx
    obtain ⟨rfl, _⟩ := rowA_mem.1 hy
    unfold cmpP
    rw [if_neg (by omega)]
    exact h
theorem all_same (g : G) : allQ g (2 ^ (g.n.length + g.e.length)) = allP g :=
  srt_one cmpP_cmp (allQ_sorted (Nat.le_refl _)) (allP_sorted g) fun x => by
    rw [allQ_mem, allP_mem, subs_mem, subs_mem]
    constructor
    · rintro ⟨t, h1, rfl, h3⟩
      rw [Nat.pow_add] at h1
      refine ⟨⟨t % 2 ^ g.n.length, Nat.mod_lt _ (Nat.two_pow_pos _), ?_⟩, ⟨t / 2 ^ g.n.length, Nat.div_lt_of_lt_mul h1, rfl⟩, h3⟩
      exact bitsN_congr fun i hi => by rw [Nat.testBit_mod_two_pow]; simp [hi]
    · rintro ⟨⟨s1, a1, a2⟩, ⟨s2, b1, b2⟩, h⟩
      refine ⟨2 ^ g.n.length * s2 + s1, ?_, ?_, h⟩
      · rw [Nat.pow_add]
        calc 2 ^ g.n.length * s2 + s1 < 2 ^ g.n.length * s2 + 2 ^ g.n.length := by omega
          _ = 2 ^ g.n.length * (s2 + 1) := by rw [Nat.mul_add, Nat.mul_one]
          _ ≤ 2 ^ g.n.length * 2 ^ g.e.length := Nat.mul_le_mul_left _ b1
      · refine mo_extP ?_ ?_
        · rw [← a2]
          refine bitsN_congr fun i hi => ?_
          rw [Nat.testBit_two_pow_mul_add _ a1, if_pos hi]
        · rw [← b2]
          simp only [setP]
          rw [Nat.mul_add_div (Nat.two_pow_pos _), Nat.div_eq_of_lt a1, Nat.add_zero]
theorem bitsN_bd {n s : Nat} : ∀ x ∈ bitsN n s, 0 ≤ x ∧ x < n := (sel_asc _ _).b
theorem allQ_len (g : G) : ∀ s, (allQ g s).length ≤ s
  | 0 => by simp [allQ]
  | s + 1 => by
    have ih := allQ_len g s
    have : ∀ (p : Mo) (l : List Mo), (insG cmpP p l).length = l.length + 1 := fun p l => by
      induction l with
      | nil => rfl
      | cons q l ih => simp only [insG]; split <;> simp [ih]
    rw [allQ]
    split
    · rw [this]; omega
    · omega
end Go.Am
namespace Go.Am
open Go
set_option linter.unusedVariables false
set_option linter.unusedSimpArgs false
attribute [local irreducible] W
/- r07.bits -/
def c_r07_bits_r0 (F : String → Nat) : List LI := [⟨some 4, .mov (.k (.nl 1)), none⟩]
def c_r07_bits_r1 (F : String → Nat) : List LI := [⟨some 5, .mov (.k (.nl 1)), none⟩]
def c_r07_bits_r2 (F : String → Nat) : List LI := [⟨some 6, .mov (.k (.int .i64 (0))), none⟩]
def c_r07_bits_r3 (F : String → Nat) : List LI := [⟨some 7, .mov (.t 6), none⟩,
  ⟨some 8, .mov (.t 0), none⟩,
  ⟨some 9, .bin .lss (.t 7) (.t 8), none⟩]
def c_r07_bits_r4 (F : String → Nat) : List LI := [⟨some 12, .mov (.t 1), none⟩,
  ⟨some 13, .mov (.t 6), none⟩,
  ⟨some 14, .bin .shr (.t 12) (.t 13), none⟩,
  ⟨some 15, .bin .and (.t 14) (.k (.int .i64 (1))), none⟩,
  ⟨some 16, .bin .eql (.t 15) (.k (.int .i64 (1))), none⟩]
def c_r07_bits_r5 (F : String → Nat) : List LI := [⟨some 17, .mov (.t 5), none⟩,
  ⟨some 18, .mov (.t 6), none⟩,
  ⟨some 19, .buildSl 1 8 (.int .i64 (0)) 1 [(0, .t 18)], none⟩,
  ⟨some 20, .app 1 8 (.t 17) (.t 19), none⟩,
  ⟨some 5, .mov (.t 20), none⟩]
def c_r07_bits_r6 (F : String → Nat) : List LI := [⟨some 10, .mov (.t 6), none⟩,
  ⟨some 11, .bin .add (.t 10) (.k (.int .i64 (1))), none⟩,
  ⟨some 6, .mov (.t 11), none⟩]
def c_r07_bits_b7 (F : String → Nat) : LC := (.seq (.seq (.reg (c_r07_bits_r3 F) [0, 1, 5, 6, 9]) (.cond (.t 9) .skip (.exit 0))) (.seq (.block 1 (.seq (.reg (c_r07_bits_r4 F) [0, 1, 5, 6, 16]) (.cond (.t 16) (.reg (c_r07_bits_r5 F) [0, 1, 5, 6]) .skip))) (.reg (c_r07_bits_r6 F) [0, 1, 5, 6])))
def c_r07_bits_r8 (F : String → Nat) : List LI := [⟨some 21, .mov (.t 5), none⟩,
  ⟨some 4, .mov (.t 21), none⟩]
def c_r07_bits (F : String → Nat) : LC := (.seq (.reg (c_r07_bits_r0 F) [0, 1]) (.seq (.reg (c_r07_bits_r1 F) [0, 1, 5]) (.seq (.seq (.reg (c_r07_bits_r2 F) [0, 1, 5, 6]) (.block 0 (.loop [0, 1, 5, 6] (c_r07_bits_b7 F)))) (.seq (.reg (c_r07_bits_r8 F) [4]) .ret))))
def h_r07_bits : Hints := ⟨[], fun _ => [], tab [(0, [0, 1]), (1, [0, 1, 5]), (2, [0, 1, 5, 6]), (3, [0, 1, 5, 6, 9]), (4, [0, 1, 5, 6]), (5, [0, 1, 5, 6, 16]), (6, [0, 1, 5, 6]), (7, [4])], tab [(3, [0, 1, 5, 6])]⟩

/- r07.compare -/
def c_r07_compare_r0 (F : String → Nat) : List LI := [⟨some 4, .mov (.k (.int .i64 (0))), none⟩]
def c_r07_compare_r1 (F : String → Nat) : List LI := [⟨some 6, .mov (.t 0), none⟩,
  ⟨some 7, .len (.t 6), none⟩,
  ⟨some 8, .mov (.t 1), none⟩,
  ⟨some 9, .len (.t 8), none⟩,
  ⟨some 10, .bin .neq (.t 7) (.t 9), none⟩]
def c_r07_compare_r2 (F : String → Nat) : List LI := [⟨some 11, .mov (.t 0), none⟩,
  ⟨some 12, .len (.t 11), none⟩,
  ⟨some 13, .mov (.t 1), none⟩,
  ⟨some 14, .len (.t 13), none⟩,
  ⟨some 15, .bin .sub (.t 12) (.t 14), none⟩,
  ⟨some 4, .mov (.t 15), none⟩]
def c_r07_compare_r3 (F : String → Nat) : List LI := [⟨some 5, .mov (.k (.int .i64 (0))), none⟩]
def c_r07_compare_r4 (F : String → Nat) : List LI := [⟨some 16, .mov (.t 5), none⟩,
  ⟨some 17, .mov (.t 0), none⟩,
  ⟨some 18, .len (.t 17), none⟩,
  ⟨some 19, .bin .lss (.t 16) (.t 18), none⟩]
def c_r07_compare_r5 (F : String → Nat) : List LI := [⟨some 22, .mov (.t 0), none⟩,
  ⟨some 23, .mov (.t 5), none⟩,
  ⟨some 24, .iad 1 (.t 22) (.t 23), none⟩,
  ⟨some 25, .load false 1 (.t 24), none⟩,
  ⟨some 26, .mov (.t 1), none⟩,
  ⟨some 27, .mov (.t 5), none⟩,
  ⟨some 28, .iad 1 (.t 26) (.t 27), none⟩,
  ⟨some 29, .load false 1 (.t 28), none⟩,
  ⟨some 30, .bin .neq (.t 25) (.t 29), none⟩]
def c_r07_compare_r6 (F : String → Nat) : List LI := [⟨some 31, .mov (.t 0), none⟩,
  ⟨some 32, .mov (.t 5), none⟩,
  ⟨some 33, .iad 1 (.t 31) (.t 32), none⟩,
  ⟨some 34, .load false 1 (.t 33), none⟩,
  ⟨some 35, .mov (.t 1), none⟩,
  ⟨some 36, .mov (.t 5), none⟩,
  ⟨some 37, .iad 1 (.t 35) (.t 36), none⟩,
  ⟨some 38, .load false 1 (.t 37), none⟩,
  ⟨some 39, .bin .sub (.t 34) (.t 38), none⟩,
  ⟨some 4, .mov (.t 39), none⟩]
def c_r07_compare_r7 (F : String → Nat) : List LI := [⟨some 20, .mov (.t 5), none⟩,
  ⟨some 21, .bin .add (.t 20) (.k (.int .i64 (1))), none⟩,
  ⟨some 5, .mov (.t 21), none⟩]
def c_r07_compare_b8 (F : String → Nat) : LC := (.seq (.seq (.reg (c_r07_compare_r4 F) [0, 1, 5, 19]) (.cond (.t 19) .skip (.exit 0))) (.seq (.block 1 (.seq (.dreg [] (c_r07_compare_r5 F) [0, 1, 5, 30]) (.cond (.t 30) (.seq (.dreg [] (c_r07_compare_r6 F) [4]) .ret) .skip))) (.reg (c_r07_compare_r7 F) [0, 1, 5])))
def c_r07_compare_r9 (F : String → Nat) : List LI := [⟨some 4, .mov (.k (.int .i64 (0))), none⟩]
def c_r07_compare (F : String → Nat) : LC := (.seq (.reg (c_r07_compare_r0 F) [0, 1]) (.seq (.seq (.reg (c_r07_compare_r1 F) [0, 1, 10]) (.cond (.t 10) (.seq (.reg (c_r07_compare_r2 F) [4]) .ret) .skip)) (.seq (.seq (.reg (c_r07_compare_r3 F) [0, 1, 5]) (.block 0 (.loop [0, 1, 5] (c_r07_compare_b8 F)))) (.seq (.reg (c_r07_compare_r9 F) [4]) .ret))))
def h_r07_compare : Hints := ⟨[], fun _ => [], tab [(0, [0, 1]), (1, [0, 1, 10]), (2, [4]), (3, [0, 1, 5]), (4, [0, 1, 5, 19]), (5, [0, 1, 5]), (6, [0, 1, 5, 30]), (7, [4]), (8, [4])], tab [(4, [0, 1, 5])]⟩

/- r07.Compare -/
def c_r07_Compare_r0 (F : String → Nat) : List LI := [⟨some 2, .bx (.t 0), none⟩,
  ⟨some 3, .bx (.t 1), none⟩,
  ⟨some 4, .mov (.k (.int .i64 (0))), none⟩]
def c_r07_Compare_r1 (F : String → Nat) : List LI := [⟨some 6, .fad 0 (.t 2), none⟩,
  ⟨some 7, .load false 1 (.t 6), none⟩,
  ⟨some 8, .fad 0 (.t 3), none⟩,
  ⟨some 9, .load false 1 (.t 8), none⟩,
  ⟨some 10, .call (F "r07.compare") [.t 7, .t 9] [], none⟩,
  ⟨some 5, .mov (.t 10), none⟩]
def c_r07_Compare_r2 (F : String → Nat) : List LI := [⟨some 11, .mov (.t 5), none⟩,
  ⟨some 12, .bin .neq (.t 11) (.k (.int .i64 (0))), none⟩]
def c_r07_Compare_r3 (F : String → Nat) : List LI := [⟨some 13, .mov (.t 5), none⟩,
  ⟨some 4, .mov (.t 13), none⟩]
def c_r07_Compare_r4 (F : String → Nat) : List LI := [⟨some 14, .fad 1 (.t 2), none⟩,
  ⟨some 15, .load false 1 (.t 14), none⟩,
  ⟨some 16, .fad 1 (.t 3), none⟩,
  ⟨some 17, .load false 1 (.t 16), none⟩,
  ⟨some 18, .call (F "r07.compare") [.t 15, .t 17] [], none⟩,
  ⟨some 4, .mov (.t 18), none⟩]
def c_r07_Compare (F : String → Nat) : LC := (.seq (.reg (c_r07_Compare_r0 F) [2, 3]) (.seq (.seq (.reg (c_r07_Compare_r1 F) [2, 3, 5]) (.seq (.reg (c_r07_Compare_r2 F) [2, 3, 5, 12]) (.cond (.t 12) (.seq (.reg (c_r07_Compare_r3 F) [4]) .ret) .skip))) (.seq (.reg (c_r07_Compare_r4 F) [4]) .ret)))
def h_r07_Compare : Hints := ⟨[], fun _ => [], tab [(0, [2, 3]), (1, [2, 3, 5]), (2, [2, 3, 5, 12]), (3, [4]), (4, [4])], tab []⟩

/- r07.All -/
def c_r07_All_r0 (F : String → Nat) : List LI := [⟨some 1, .bx (.t 0), none⟩,
  ⟨some 2, .mov (.k (.nl 2)), none⟩,
  ⟨some 3, .mov (.k (.int .i64 (0))), none⟩]
def c_r07_All_r1 (F : String → Nat) : List LI := [⟨some 11, .load true 2 (.t 1), none⟩,
  ⟨some 12, .call (F "r05.Valid") [.t 11] [], none⟩,
  ⟨some 4, .mov (.t 12), none⟩]
def c_r07_All_r2 (F : String → Nat) : List LI := [⟨some 13, .mov (.t 4), none⟩,
  ⟨some 14, .bin .neq (.t 13) (.k (.int .i64 (0))), none⟩]
def c_r07_All_r3 (F : String → Nat) : List LI := [⟨some 15, .mov (.t 4), none⟩,
  ⟨some 2, .mov (.k (.nl 2)), none⟩,
  ⟨some 3, .mov (.t 15), none⟩]
def c_r07_All_r4 (F : String → Nat) : List LI := [⟨some 16, .fad 0 (.t 1), none⟩,
  ⟨some 17, .load false 1 (.t 16), none⟩,
  ⟨some 18, .len (.t 17), none⟩,
  ⟨some 19, .fad 1 (.t 1), none⟩,
  ⟨some 20, .load false 1 (.t 19), none⟩,
  ⟨some 21, .len (.t 20), none⟩,
  ⟨some 5, .mov (.t 18), none⟩,
  ⟨some 6, .mov (.t 21), none⟩]
def c_r07_All_r5 (F : String → Nat) : List LI := [⟨some 22, .mov (.t 5), none⟩,
  ⟨some 23, .mov (.t 6), none⟩,
  ⟨some 24, .bin .add (.t 22) (.t 23), none⟩,
  ⟨some 25, .bin .gtr (.t 24) (.k (.int .i64 (6))), none⟩]
def c_r07_All_r6 (F : String → Nat) : List LI := [⟨some 2, .mov (.k (.nl 2)), none⟩,
  ⟨some 3, .mov (.k (.int .i64 (3))), none⟩]
def c_r07_All_r7 (F : String → Nat) : List LI := [⟨some 7, .mov (.k (.nl 2)), none⟩]
def c_r07_All_r8 (F : String → Nat) : List LI := [⟨some 8, .mov (.k (.int .i64 (0))), none⟩]
def c_r07_All_r9 (F : String → Nat) : List LI := [⟨some 26, .mov (.t 8), none⟩,
  ⟨some 27, .mov (.t 5), none⟩,
  ⟨some 28, .mov (.t 6), none⟩,
  ⟨some 29, .bin .add (.t 27) (.t 28), none⟩,
  ⟨some 30, .bin .shl (.k (.int .i64 (1))) (.t 29), none⟩,
  ⟨some 31, .bin .lss (.t 26) (.t 30), none⟩]
def c_r07_All_r10 (F : String → Nat) : List LI := [⟨some 34, .mov (.t 5), none⟩,
  ⟨some 35, .mov (.t 8), none⟩,
  ⟨some 36, .call (F "r07.bits") [.t 34, .t 35] [], none⟩,
  ⟨some 37, .mov (.t 6), none⟩,
  ⟨some 38, .mov (.t 8), none⟩,
  ⟨some 39, .mov (.t 5), none⟩,
  ⟨some 40, .bin .shr (.t 38) (.t 39), none⟩,
  ⟨some 41, .call (F "r07.bits") [.t 37, .t 40] [], none⟩,
  ⟨some 42, .build [.nl 1, .nl 1] [(0, 1, .t 36), (1, 1, .t 41)], none⟩,
  ⟨some 9, .alloc [.nl 1, .nl 1], none⟩,
  ⟨none, .store 2 (.t 9) (.t 42), none⟩]
def c_r07_All_r11 (F : String → Nat) : List LI := [⟨some 43, .load true 2 (.t 1), none⟩,
  ⟨some 44, .load true 2 (.t 9), none⟩,
  ⟨some 45, .call (F "r07.Right") [.t 43, .t 44] [], none⟩,
  ⟨some 46, .bin .neq (.t 45) (.k (.int .i64 (0))), none⟩]
def c_r07_All_r12 (F : String → Nat) : List LI := [⟨some 10, .mov (.k (.int .i64 (0))), none⟩]
def c_r07_All_r13 (F : String → Nat) : List LI := [⟨some 47, .mov (.t 10), none⟩,
  ⟨some 48, .mov (.t 7), none⟩,
  ⟨some 49, .len (.t 48), none⟩,
  ⟨some 50, .bin .lss (.t 47) (.t 49), none⟩,
  ⟨some 51, .mov (.t 50), none⟩,
  ⟨some 52, .mov (.t 7), some (51, true)⟩,
  ⟨some 53, .mov (.t 10), some (51, true)⟩,
  ⟨some 54, .iad 2 (.t 52) (.t 53), some (51, true)⟩,
  ⟨some 55, .load true 2 (.t 54), some (51, true)⟩,
  ⟨some 56, .load true 2 (.t 9), some (51, true)⟩,
  ⟨some 57, .call (F "r07.Compare") [.t 55, .t 56] [], some (51, true)⟩,
  ⟨some 58, .bin .lss (.t 57) (.k (.int .i64 (0))), some (51, true)⟩,
  ⟨some 59, .pick (.t 51) (.t 58) (.k (.bool false)), none⟩]
def c_r07_All_r14 (F : String → Nat) : List LI := [⟨some 60, .mov (.t 10), none⟩,
  ⟨some 61, .bin .add (.t 60) (.k (.int .i64 (1))), none⟩,
  ⟨some 10, .mov (.t 61), none⟩]
def c_r07_All_b15 (F : String → Nat) : LC := (.seq (.seq (.dreg [] (c_r07_All_r13 F) [1, 5, 6, 7, 8, 9, 10, 59]) (.cond (.t 59) .skip (.exit 2))) (.block 3 (.reg (c_r07_All_r14 F) [1, 5, 6, 7, 8, 9, 10])))
def c_r07_All_r16 (F : String → Nat) : List LI := [⟨some 62, .buildSl 2 48 (.agg [.lst 1 [], .lst 1 []]) 0 [], none⟩,
  ⟨some 63, .mov (.t 7), none⟩,
  ⟨some 64, .mov (.t 10), none⟩,
  ⟨some 65, .slc 2 (.t 63) none (some (.t 64)), none⟩,
  ⟨some 66, .app 2 48 (.t 62) (.t 65), none⟩,
  ⟨some 67, .load true 2 (.t 9), none⟩,
  ⟨some 68, .buildSl 2 48 (.agg [.lst 1 [], .lst 1 []]) 1 [(0, .t 67)], none⟩,
  ⟨some 69, .app 2 48 (.t 66) (.t 68), none⟩,
  ⟨some 70, .mov (.t 7), none⟩,
  ⟨some 71, .mov (.t 10), none⟩,
  ⟨some 72, .slc 2 (.t 70) (some (.t 71)) none, none⟩,
  ⟨some 73, .app 2 48 (.t 69) (.t 72), none⟩,
  ⟨some 7, .mov (.t 73), none⟩]
def c_r07_All_r17 (F : String → Nat) : List LI := [⟨some 32, .mov (.t 8), none⟩,
  ⟨some 33, .bin .add (.t 32) (.k (.int .i64 (1))), none⟩,
  ⟨some 8, .mov (.t 33), none⟩]
def c_r07_All_b18 (F : String → Nat) : LC := (.seq (.seq (.reg (c_r07_All_r9 F) [1, 5, 6, 7, 8, 31]) (.cond (.t 31) .skip (.exit 0))) (.seq (.block 1 (.seq (.dreg [] (c_r07_All_r10 F) [1, 5, 6, 7, 8, 9]) (.seq (.seq (.reg (c_r07_All_r11 F) [1, 5, 6, 7, 8, 9, 46]) (.cond (.t 46) (.exit 1) .skip)) (.seq (.reg (c_r07_All_r12 F) [1, 5, 6, 7, 8, 9, 10]) (.seq (.block 2 (.loop [1, 5, 6, 7, 8, 9, 10] (c_r07_All_b15 F))) (.dreg [(3, (some 6), [], true), (4, none, [], true), (5, (some 0), [4], false), (6, (some 32), [3, 4], true), (7, none, [], true), (10, (some 768), [4, 6, 7], false)] (c_r07_All_r16 F) [1, 5, 6, 7, 8])))))) (.reg (c_r07_All_r17 F) [1, 5, 6, 7, 8])))
def c_r07_All_r19 (F : String → Nat) : List LI := [⟨some 74, .mov (.t 7), none⟩,
  ⟨some 2, .mov (.t 74), none⟩,
  ⟨some 3, .mov (.k (.int .i64 (0))), none⟩]
def c_r07_All (F : String → Nat) : LC := (.seq (.reg (c_r07_All_r0 F) [1]) (.seq (.seq (.reg (c_r07_All_r1 F) [1, 4]) (.seq (.reg (c_r07_All_r2 F) [1, 4, 14]) (.cond (.t 14) (.seq (.reg (c_r07_All_r3 F) [2, 3]) .ret) .skip))) (.seq (.dreg [] (c_r07_All_r4 F) [1, 5, 6]) (.seq (.seq (.reg (c_r07_All_r5 F) [1, 5, 6, 25]) (.cond (.t 25) (.seq (.reg (c_r07_All_r6 F) [2, 3]) .ret) .skip)) (.seq (.reg (c_r07_All_r7 F) [1, 5, 6, 7]) (.seq (.seq (.reg (c_r07_All_r8 F) [1, 5, 6, 7, 8]) (.block 0 (.loop [1, 5, 6, 7, 8] (c_r07_All_b18 F)))) (.seq (.reg (c_r07_All_r19 F) [2, 3]) .ret)))))))
def h_r07_All : Hints := ⟨[], fun _ => [], tab [(0, [1]), (1, [1, 4]), (2, [1, 4, 14]), (3, [2, 3]), (4, [1, 5, 6]), (5, [1, 5, 6, 25]), (6, [2, 3]), (7, [1, 5, 6, 7]), (8, [1, 5, 6, 7, 8]), (9, [1, 5, 6, 7, 8, 31]), (10, [1, 5, 6, 7, 8]), (11, [1, 5, 6, 7, 8, 9]), (12, [1, 5, 6, 7, 8, 9, 46]), (13, [1, 5, 6, 7, 8, 9, 10]), (14, [1, 5, 6, 7, 8, 9, 10, 59]), (15, [1, 5, 6, 7, 8, 9, 10]), (16, [1, 5, 6, 7, 8]), (17, [2, 3])], tab [(9, [1, 5, 6, 7, 8]), (14, [1, 5, 6, 7, 8, 9, 10])]⟩

attribute [go_sem] c_r07_bits_r0 c_r07_bits_r1 c_r07_bits_r2 c_r07_bits_r3 c_r07_bits_r4 c_r07_bits_r5 c_r07_bits_r6 c_r07_bits_r8 c_r07_bits c_r07_compare_r0 c_r07_compare_r1 c_r07_compare_r2 c_r07_compare_r3 c_r07_compare_r4 c_r07_compare_r5 c_r07_compare_r6 c_r07_compare_r7 c_r07_compare_r9 c_r07_compare c_r07_Compare_r0 c_r07_Compare_r1 c_r07_Compare_r2 c_r07_Compare_r3 c_r07_Compare_r4 c_r07_Compare c_r07_All_r0 c_r07_All_r1 c_r07_All_r2 c_r07_All_r3 c_r07_All_r4 c_r07_All_r5 c_r07_All_r6 c_r07_All_r7 c_r07_All_r8 c_r07_All_r9 c_r07_All_r10 c_r07_All_r11 c_r07_All_r12 c_r07_All_r13 c_r07_All_r14 c_r07_All_r16 c_r07_All_r17 c_r07_All_r19 c_r07_All
section
variable (P : Program) (F : String → Nat)
def K_r07_bits : Prop := ∀ (n s : Nat), n ≤ 60 → s ≤ 1000000 → FC P (F "r07.bits") [.int .i64 n, .int .i64 s] (.arr 1 (ints (bitsN n s))) []
def K_r07_compare : Prop := ∀ (a b : List Int), a.length ≤ 1000 → b.length ≤ 1000 → (∀ x ∈ a, 0 ≤ x ∧ x ≤ 1000) → (∀ x ∈ b, 0 ≤ x ∧ x ≤ 1000) → FC P (F "r07.compare") [.lst 1 (ints a), .lst 1 (ints b)] (.int .i64 (cmpL a b)) []
def Tiny (p : Mo) : Prop := p.n.length ≤ 1000 ∧ p.e.length ≤ 1000 ∧ (∀ x ∈ p.n, 0 ≤ x ∧ x ≤ 1000) ∧ ∀ x ∈ p.e, 0 ≤ x ∧ x ≤ 1000
def K_r07_Compare : Prop := ∀ (p q : Mo), Tiny p → Tiny q → FC P (F "r07.Compare") [mD p, mD q] (.int .i64 (cmpP p q)) []
def K_r07_All : Prop := ∀ g : G, FC P (F "r07.All") [gD g] (.tup [.arr 2 (pts (allR g).1), .int .i64 (allR g).2]) []
end
section
variable {P : Program} {F : String → Nat} {α : Type}
theorem w_r07_bits (n s : Nat) (hn : n ≤ 60) (hs : s ≤ 1000000) : W P (c_r07_bits F) (Done [.t 4] [] (.arr 1 (ints (bitsN n s))) []) (init [.int .i64 n, .int .i64 s]) := by
  refine W_of ?_
  have ss := sel_succ (fun i : Nat => s.testBit i)
  have s0 := sel_zero (fun i : Nat => s.testBit i)
  have sl := sel_len (fun i : Nat => s.testBit i)
  have hb := fun i hi => bit_and s i hs hi
  unfold bitsN
  generalize sel (fun i : Nat => s.testBit i) = S at *
  simp (config := { maxSteps := 1000000 }) (disch := first | omega | (simp only [go_sem]; omega)) only [go_sem, ↓reduceIte]
  refine W_loop (fun i : Nat => ⟨[(0, .int .i64 n), (1, .int .i64 s), (5, .sl 0 0 (S i).length), (6, .int .i64 i)], [(0, .arr 1 (ints (S i)))], 1⟩) (fun i => i ≤ n) (fun i => n - i) 0 ?_ ?_ ?_
  · simp (config := { maxSteps := 1000000 }) (disch := first | omega | (simp only [go_sem]; omega)) only [go_sem, ↓reduceIte, s0]
    rfl
  · simp
  · intro i hi
    have hl := sl i
    by_cases c : i < n
    · have d1 : decide ((i : Int) < n) = true := decide_eq_true (by omega)
      have st := ss i
      have hb := hb i (by omega)
      have n0 : ¬ ((i : Int) < 0) := by omega
      simp (config := { maxSteps := 1000000 }) (disch := first | omega | (simp only [go_sem]; omega)) only [go_sem, ↓reduceIte, c_r07_bits_b7, d1, n0]
      refine bran_dec (fun h => ?_) (fun h => ?_)
      · have hb2 : s.testBit i = true := hb.symm.trans (decide_eq_true h)
        rw [if_pos hb2] at st
        simp (config := { maxSteps := 1000000 }) (disch := first | omega | (simp only [go_sem]; omega)) only [go_sem, ↓reduceIte]
        exact ⟨i + 1, by simp [st], by omega, by omega⟩
      · have hb2 : s.testBit i = false := hb.symm.trans (decide_eq_false h)
        rw [if_neg (by rw [hb2]; simp)] at st
        simp (config := { maxSteps := 1000000 }) (disch := first | omega | (simp only [go_sem]; omega)) only [go_sem, ↓reduceIte]
        exact ⟨i + 1, by simp [st], by omega, by omega⟩
    · have d1 : decide ((i : Int) < n) = false := decide_eq_false (by omega)
      obtain rfl : i = n := by omega
      simp (config := { maxSteps := 1000000 }) (disch := first | omega | (simp only [go_sem]; omega)) only [go_sem, ↓reduceIte, c_r07_bits_b7, d1]
theorem difL_drop {a b : List Int} (h : a.length = b.length) {i : Nat} (hi : i < a.length) : difL (a.drop i) (b.drop i) = if gt a i = gt b i then difL (a.drop (i + 1)) (b.drop (i + 1)) else gt a i - gt b i := by
  rw [drop_gt hi, drop_gt (l := b) (by omega)]
  rfl
theorem w_r07_compare (a b : List Int) (h1 : a.length ≤ 1000) (h2 : b.length ≤ 1000) (h3 : ∀ x ∈ a, 0 ≤ x ∧ x ≤ 1000) (h4 : ∀ x ∈ b, 0 ≤ x ∧ x ≤ 1000) : W P (c_r07_compare F) (Done [.t 4] [] (.int .i64 (cmpL a b)) []) (init [.lst 1 (ints a), .lst 1 (ints b)]) := by
  refine W_of ?_
  unfold cmpL
  by_cases c : a.length = b.length
  case neg =>
    have d0 : decide ((a.length : Int) = b.length) = false := decide_eq_false (by omega)
    rw [if_neg c]
    simp (config := { maxSteps := 1000000 }) (disch := first | omega | (simp only [go_sem]; omega)) only [go_sem, ↓reduceIte, d0]
  have d0 : decide ((a.length : Int) = b.length) = true := decide_eq_true (by omega)
  rw [if_pos c]
  simp (config := { maxSteps := 1000000 }) (disch := first | omega | (simp only [go_sem]; omega)) only [go_sem, ↓reduceIte, d0]
  refine W_loop (fun i : Nat => ⟨[(0, .lst 1 (ints a)), (1, .lst 1 (ints b)), (5, .int .i64 i)], [], 0⟩) (fun i => i ≤ a.length ∧ difL a b = difL (a.drop i) (b.drop i)) (fun i => a.length - i) 0 ?_ ?_ ?_
  · simp (config := { maxSteps := 1000000 }) (disch := first | omega | (simp only [go_sem]; omega)) only [go_sem, ↓reduceIte]
    rfl
  · simp
  · intro i hi
    by_cases e : i < a.length
    · have d1 : decide ((i : Int) < a.length) = true := decide_eq_true (by omega)
      have dd := difL_drop c e
      have b1 := h3 _ (gt_mem (l := a) (j := (i : Int)) (by omega) (by omega))
      have b2 := h4 _ (gt_mem (l := b) (j := (i : Int)) (by omega) (by omega))
      by_cases f : gt a i = gt b i
      · have d2 : decide (gt a i = gt b i) = true := decide_eq_true f
        rw [if_pos f] at dd
        simp (config := { maxSteps := 1000000 }) (disch := first | omega | (simp only [go_sem]; omega)) only [go_sem, ↓reduceIte, c_r07_compare_b8, d1, d2]
        exact ⟨i + 1, by simp, ⟨by omega, by rw [hi.2, dd]⟩, by omega⟩
      · have d2 : decide (gt a i = gt b i) = false := decide_eq_false f
        rw [if_neg f] at dd
        simp (config := { maxSteps := 1000000 }) (disch := first | omega | (simp only [go_sem]; omega)) only [go_sem, ↓reduceIte, c_r07_compare_b8, d1, d2]
        rw [hi.2, dd]
    · have d1 : decide ((i : Int) < a.length) = false := decide_eq_false (by omega)
      simp (config := { maxSteps := 1000000 }) (disch := first | omega | (simp only [go_sem]; omega)) only [go_sem, ↓reduceIte, c_r07_compare_b8, d1]
      rw [hi.2, List.drop_of_length_le (by omega)]
      rfl
theorem w_r07_Compare (hc : K_r07_compare P F) (p q : Mo) (h1 : Tiny p) (h2 : Tiny q) : W P (c_r07_Compare F) (Done [.t 4] [] (.int .i64 (cmpP p q)) []) (init [mD p, mD q]) := by
  refine W_of ?_
  have r1 := hc p.n q.n h1.1 h2.1 h1.2.2.1 h2.2.2.1
  have r2 := hc p.e q.e h1.2.1 h2.2.1 h1.2.2.2 h2.2.2.2
  have e : cmpP p q = if cmpL p.n q.n = 0 then cmpL p.e q.e else cmpL p.n q.n := rfl
  rw [e]
  generalize cmpL p.n q.n = u at *
  generalize cmpL p.e q.e = v at *
  simp only [mD] at *
  simp (config := { maxSteps := 1000000 }) (disch := first | omega | (simp only [go_sem]; omega)) only [go_sem, ↓reduceIte]
  refine call_by r1 ?_
  by_cases c : u = 0
  · have d : decide (u = 0) = true := decide_eq_true c
    simp (config := { maxSteps := 1000000 }) (disch := first | omega | (simp only [go_sem]; omega)) only [go_sem, ↓reduceIte, d]
    refine call_by r2 ?_
    simp (config := { maxSteps := 1000000 }) (disch := first | omega | (simp only [go_sem]; omega)) only [go_sem, ↓reduceIte]
    try rw [if_pos c]
  · have d : decide (u = 0) = false := decide_eq_false c
    simp (config := { maxSteps := 1000000 }) (disch := first | omega | (simp only [go_sem]; omega)) only [go_sem, ↓reduceIte, d]
    try rw [if_neg c]
theorem setP_tiny {n m s : Nat} (h : n + m ≤ 6) : Tiny (setP n m s) :=
  ⟨by have := bitsN_len n s; simp only [setP]; omega, by have := bitsN_len m (s / 2 ^ n); simp only [setP]; omega, fun x hx => by have := bitsN_bd x hx; omega, fun x hx => by have := bitsN_bd x hx; omega⟩
theorem pts_split {l : List Mo} {k : Nat} {p : Mo} : pts (l.take k ++ p :: l.drop k) = (pts l).take k ++ (.agg [.lst 1 (ints p.n), .lst 1 (ints p.e)] :: (pts l).drop k) := by
  simp [pts, mD, List.map_take, List.map_drop]
theorem shr_nat (s n : Nat) (hn : n ≤ 60) : (s : Int).fdiv (2 ^ (min n 64)) = ((s / 2 ^ n : Nat) : Int) := by
  have : min n 64 = n := by omega
  rw [this, Int.fdiv_eq_ediv_of_nonneg _ (Int.le_of_lt (Int.pow_pos (by decide)))]
  simp
set_option maxHeartbeats 400000 in
theorem w_r07_All (hv : K_r05_Valid P F) (hb : K_r07_bits P F) (hr : K_r07_Right P F) (hc : K_r07_Compare P F) (g : G) : W P (c_r07_All F) (Done [.t 2, .t 3] [] (.tup [.arr 2 (pts (allR g).1), .int .i64 (allR g).2]) []) (init [gD g]) := by
  refine W_of ?_
  have r1 := hv g
  have hR : allR g = if validG g ≠ 0 then ([], validG g) else if 6 < g.n.length + g.e.length then ([], 3) else (allP g, 0) := rfl
  by_cases c0 : validG g = 0
  case neg =>
    rw [if_pos c0] at hR
    rw [hR]
    clear hR
    generalize validG g = v at *
    simp only [gD] at *
    simp (config := { maxSteps := 1000000 }) (disch := first | omega | (simp only [go_sem]; omega)) only [go_sem, ↓reduceIte]
    refine call_by r1 ?_
    simp (config := { maxSteps := 1000000 }) (disch := first | omega | (simp only [go_sem]; omega)) only [go_sem, ↓reduceIte]
    refine bran_ndec (fun c => ?_) (fun c => absurd c c0)
    simp (config := { maxSteps := 1000000 }) (disch := first | omega | (simp only [go_sem]; omega)) only [go_sem, ↓reduceIte]
    simp [pts]
  rw [if_neg (by simp [c0])] at hR
  by_cases c1 : 6 < g.n.length + g.e.length
  · rw [if_pos c1] at hR
    rw [hR]
    rw [c0] at r1
    have d1 : decide ((6 : Int) < (g.n.length : Int) + g.e.length) = true := decide_eq_true (by omega)
    have vs := valid_spec c0
    simp only [gD] at *
    simp (config := { maxSteps := 1000000 }) (disch := first | omega | (simp only [go_sem]; omega)) only [go_sem, ↓reduceIte]
    refine call_by r1 ?_
    simp (config := { maxSteps := 1000000 }) (disch := first | omega | (simp only [go_sem]; omega)) only [go_sem, ↓reduceIte, d1]
    simp [pts]
  rw [if_neg c1, ← all_same] at hR
  rw [hR]
  rw [c0] at r1
  have d1 : decide ((6 : Int) < (g.n.length : Int) + g.e.length) = false := decide_eq_false (by omega)
  have rr := fun p : Mo => hr g p c0
  have ql := allQ_len g
  have qs := fun s : Nat => (show allQ g (s + 1) = if rightP g (setP g.n.length g.e.length s) = 0 then insG cmpP (setP g.n.length g.e.length s) (allQ g s) else allQ g s from rfl)
  have qt : ∀ s : Nat, ∀ x ∈ allQ g s, Tiny x := fun s x hx => by
    obtain ⟨t, _, rfl, _⟩ := allQ_mem.1 hx
    exact setP_tiny (by omega)
  have qz : allQ g 0 = [] := rfl
  have p6 := pow6 (k := g.n.length + g.e.length) (by omega)
  clear hR hr hv c0
  generalize allQ g = Q at *
  generalize rightP g = R at *
  obtain ⟨gn, ge⟩ := g
  simp only [gD] at *
  have hn : gn.length ≤ 6 := by omega
  have hm : ge.length ≤ 6 := by omega
  have hsum : gn.length + ge.length ≤ 6 := by omega
  have hsh : IntKind.i64.wrap (1 * 2 ^ min ((gn.length : Int) + ge.length).toNat 64) = ((2 ^ (gn.length + ge.length) : Nat) : Int) := by
    have : min ((gn.length : Int) + ge.length).toNat 64 = gn.length + ge.length := by omega
    rw [this, Int.one_mul, wrap_i64 (by
      have : (0 : Int) < 2 ^ (gn.length + ge.length) := Int.pow_pos (by decide)
      omega) (by
      have : ((2 ^ (gn.length + ge.length) : Nat) : Int) = 2 ^ (gn.length + ge.length) := by simp
      omega)]
    simp
  have n0 : ¬ ((gn.length : Int) + ge.length < 0) := by omega
  have n1 : ¬ ((gn.length : Int) < 0) := by omega
  simp (config := { maxSteps := 1000000 }) (disch := first | omega | (simp only [go_sem]; omega)) only [go_sem, ↓reduceIte]
  refine call_by r1 ?_
  simp (config := { maxSteps := 1000000 }) (disch := first | omega | (simp only [go_sem]; omega)) only [go_sem, ↓reduceIte, d1]
  refine W_loop (fun i : Nat => ⟨[(1, .pt 0 0), (5, .int .i64 gn.length), (6, .int .i64 ge.length), (7, .sl 1 0 (Q i).length), (8, .int .i64 i)], [(0, .box [.lst 1 (ints gn), .lst 3 (eds ge)]), (1, .arr 2 (pts (Q i)))], 2⟩) (fun i => i ≤ 2 ^ (gn.length + ge.length)) (fun i => 2 ^ (gn.length + ge.length) - i) 0 ?_ ?_ ?_
  · simp (config := { maxSteps := 1000000 }) (disch := first | omega | (simp only [go_sem]; omega)) only [go_sem, ↓reduceIte, qz]
    rfl
  · simp
  · intro s hs
    have ls := ql s
    by_cases e : s < 2 ^ (gn.length + ge.length)
    · have d2 : decide ((s : Int) < ((2 ^ (gn.length + ge.length) : Nat) : Int)) = true := decide_eq_true (by omega)
      have hsr := shr_nat s gn.length (by omega)
      have hdl : s / 2 ^ gn.length ≤ s := Nat.div_le_self _ _
      have b1 := hb gn.length s (by omega) (by omega)
      have b2 := hb ge.length (s / 2 ^ gn.length) (by omega) (by omega)
      have st := qs s
      have rP := rr (setP gn.length ge.length s) (by unfold maxL; have := bitsN_len gn.length s; simp only [setP]; omega) (by unfold maxL; have := bitsN_len ge.length (s / 2 ^ gn.length); simp only [setP]; omega)
      have tP := setP_tiny (s := s) hsum
      have tQ := qt s
      generalize hP : setP gn.length ge.length s = p at *
      have e1 : bitsN gn.length s = p.n := by rw [← hP]; rfl
      have e2 : bitsN ge.length (s / 2 ^ gn.length) = p.e := by rw [← hP]; rfl
      rw [e1] at b1
      rw [e2] at b2
      clear e1 e2 hP
      obtain ⟨pn, pe⟩ := p
      simp only [mD] at *
      generalize R ⟨pn, pe⟩ = v at *
      simp (config := { maxSteps := 1000000 }) (disch := first | omega | (simp only [go_sem]; omega)) only [go_sem, ↓reduceIte, c_r07_All_b18, n0, n1, hsh, d2, hsr]
      refine call_by b1 ?_
      simp (config := { maxSteps := 1000000 }) (disch := first | omega | (simp only [go_sem]; omega)) only [go_sem, ↓reduceIte, n1, hsr]
      refine call_by b2 ?_
      simp (config := { maxSteps := 1000000 }) (disch := first | omega | (simp only [go_sem]; omega)) only [go_sem, ↓reduceIte]
      refine call_by rP ?_
      simp (config := { maxSteps := 1000000 }) (disch := first | omega | (simp only [go_sem]; omega)) only [go_sem, ↓reduceIte]
      by_cases f : v = 0
      · have d3 : decide (v = 0) = true := decide_eq_true f
        rw [if_pos f] at st
        simp (config := { maxSteps := 1000000 }) (disch := first | omega | (simp only [go_sem]; omega)) only [go_sem, ↓reduceIte, d3]
        have ia := fun k => @insG_at Mo _ cmpP ⟨pn, pe⟩ (Q s) k
        have cP := fun k (hk : k < (Q s).length) => hc (gt (Q s) (k : Nat)) ⟨pn, pe⟩ (tQ _ (gt_mem (by omega) (by omega))) tP
        simp only [mD] at cP
        refine W_loop (fun k : Nat => ⟨[(1, .pt 0 0), (5, .int .i64 gn.length), (6, .int .i64 ge.length), (7, .sl 1 0 (Q s).length), (8, .int .i64 s), (9, .pt 4 0), (10, .int .i64 k)],
          [(0, .box [.lst 1 (ints gn), .lst 3 (eds ge)]), (1, .arr 2 (pts (Q s))), (2, .arr 1 (ints pn)), (3, .arr 1 (ints pe)), (4, .box [.sl 2 0 pn.length, .sl 3 0 pe.length])], 5⟩) (fun k => k ≤ (Q s).length ∧ ∀ j : Nat, j < k → cmpP (gt (Q s) j) ⟨pn, pe⟩ < 0) (fun k => (Q s).length - k) 0 ?_ ?_ ?_
        · simp (config := { maxSteps := 1000000 }) (disch := first | omega | (simp only [go_sem]; omega)) only [go_sem, ↓reduceIte]
          rfl
        · simp
        · intro k ⟨hk, hj⟩
          have fin : (k < (Q s).length → ¬ cmpP (gt (Q s) k) ⟨pn, pe⟩ < 0) → pts (Q (s + 1)) = (pts (Q s)).take k ++ (.agg [.lst 1 (ints pn), .lst 1 (ints pe)] :: (pts (Q s)).drop k) := fun h => by
            rw [st, ia k hk hj h, pts_split]
          have lp := pts_length (Q s)
          have lq1 := pts_length (Q (s + 1))
          clear st ia tP tQ rP b1 b2 hsr hdl
          by_cases c : k < (Q s).length
          · have d4 : decide ((k : Int) < (Q s).length) = true := decide_eq_true (by omega)
            have r5 := cP k c
            have pg := pts_get c
            generalize hwk : cmpP (gt (Q s) k) ⟨pn, pe⟩ = w at *
            by_cases hw : w < 0
            · have d5 : decide (w < 0) = true := decide_eq_true hw
              simp (config := { maxSteps := 1000000 }) (disch := first | omega | (simp only [go_sem]; omega)) only [go_sem, ↓reduceIte, c_r07_All_b15, d4, pg, lp]
              refine call_by r5 ?_
              simp (config := { maxSteps := 1000000 }) (disch := first | omega | (simp only [go_sem]; omega)) only [go_sem, ↓reduceIte, d5]
              exact ⟨k + 1, by simp, ⟨by omega, fun j hj2 => if e3 : j = k then by rw [e3]; exact hwk ▸ hw else hj j (by omega)⟩, by omega⟩
            · have d5 : decide (w < 0) = false := decide_eq_false hw
              have hfin := fin (fun _ => hw)
              clear fin
              simp (config := { maxSteps := 1000000 }) (disch := first | omega | (simp only [go_sem]; omega)) only [go_sem, ↓reduceIte, c_r07_All_b15, d4, pg, lp]
              refine call_by r5 ?_
              generalize pts (Q s) = X at *
              generalize (Q s).length = L at *
              clear hwk cP hj hw r5 pg qt rr qs ql
              generalize 2 ^ (gn.length + ge.length) = N at *
              clear hsum hn hm d1 d2 d3 c1
              have ek : (X.take k).length = k := by simp; omega
              have ed : (X.drop k).length = L - k := by simp; omega
              have ef : (X.drop k).take (L - k) = X.drop k := List.take_of_length_le (by omega)
              have ql1 : (Q (s + 1)).length = k + 1 + (L - k) := by rw [← lq1, hfin, List.length_append, List.length_cons, ek, ed]; omega
              by_cases k0 : k = 0
              · subst k0
                simp only [List.take_zero, List.drop_zero, List.nil_append] at hfin ek ed ef
                have k1 : ¬ 0 = L := by omega
                have d6 : decide ((0 : Int) < L) = true := decide_eq_true (by omega)
                simp (config := { maxSteps := 1000000 }) (disch := first | omega | (simp only [go_sem]; omega)) only [go_sem, ↓reduceIte, d5, lp, Nat.sub_zero, ek, ed, ef, k1, List.drop_zero, List.take_zero, Nat.zero_add, List.nil_append]
                exact ⟨s + 1, by simp [ql1, hfin] <;> omega, by omega, by omega⟩
              · have k1 : ¬ k = L := by omega
                simp (config := { maxSteps := 1000000 }) (disch := first | omega | (simp only [go_sem]; omega)) only [go_sem, ↓reduceIte, d5, lp, k0, k1, Nat.sub_zero, ek, ed, ef]
                exact ⟨s + 1, by simp [ql1, hfin] <;> omega, by omega, by omega⟩
          · have d4 : decide ((k : Int) < (Q s).length) = false := decide_eq_false (by omega)
            have hfin := fin (fun h => absurd h c)
            clear fin
            generalize pts (Q s) = X at *
            generalize hL : (Q s).length = L at *
            clear cP hj qt rr qs ql
            generalize 2 ^ (gn.length + ge.length) = N at *
            clear hsum hn hm d1 d2 d3 c1
            obtain rfl : k = L := by omega
            have ek : (X.take k) = X := List.take_of_length_le (by omega)
            have ed : X.drop k = [] := List.drop_of_length_le (by omega)
            rw [ek, ed] at hfin
            have ql1 : (Q (s + 1)).length = k + 1 := by rw [← lq1, hfin, List.length_append, lp]; rfl
            by_cases k0 : k = 0
            · have hX : X = [] := List.eq_nil_of_length_eq_zero (by omega)
              subst hX
              subst k0
              simp (config := { maxSteps := 1000000 }) (disch := first | omega | (simp only [go_sem]; omega)) only [go_sem, ↓reduceIte, c_r07_All_b15, d4, lp, Nat.sub_zero]
              exact ⟨s + 1, by simp [ql1, hfin] <;> omega, by omega, by omega⟩
            · simp (config := { maxSteps := 1000000 }) (disch := first | omega | (simp only [go_sem]; omega)) only [go_sem, ↓reduceIte, c_r07_All_b15, d4, lp, Nat.sub_zero, k0, Nat.sub_self, ed]
              exact ⟨s + 1, by simp [ql1, hfin] <;> omega, by omega, by omega⟩
      · have d3 : decide (v = 0) = false := decide_eq_false f
        rw [if_neg f] at st
        simp (config := { maxSteps := 1000000 }) (disch := first | omega | (simp only [go_sem]; omega)) only [go_sem, ↓reduceIte, d3]
        exact ⟨s + 1, by simp [st], by omega, by omega⟩
    · have d2 : decide ((s : Int) < ((2 ^ (gn.length + ge.length) : Nat) : Int)) = false := decide_eq_false (by omega)
      obtain rfl : s = 2 ^ (gn.length + ge.length) := by omega
      simp (config := { maxSteps := 1000000 }) (disch := first | omega | (simp only [go_sem]; omega)) only [go_sem, ↓reduceIte, c_r07_All_b18, n0, hsh, d2]
end
end Go.Am
namespace Go.Am
open Go
set_option linter.unusedVariables false
set_option linter.unusedSimpArgs false
attribute [local irreducible] W
/- l07.SubgraphAll -/
def c_l07_SubgraphAll_r0 (F : String → Nat) : List LI := [⟨some 1, .bx (.t 0), none⟩,
  ⟨some 2, .mov (.k (.bool false)), none⟩]
def c_l07_SubgraphAll_r1 (F : String → Nat) : List LI := [⟨some 9, .call (F "l07.awake") [] [], none⟩,
  ⟨some 10, .not (.t 9), none⟩,
  ⟨some 11, .mov (.t 10), none⟩,
  ⟨some 12, .load true 2 (.t 1), some (11, false)⟩,
  ⟨some 13, .call (F "l07.small") [.t 12, .k (.nl 0)] [], some (11, false)⟩,
  ⟨some 14, .not (.t 13), some (11, false)⟩,
  ⟨some 15, .pick (.t 11) (.k (.bool true)) (.t 14), none⟩]
def c_l07_SubgraphAll_r2 (F : String → Nat) : List LI := [⟨some 16, .call (F "l07.awake") [] [], none⟩,
  ⟨some 2, .mov (.t 16), none⟩]
def c_l07_SubgraphAll_r3 (F : String → Nat) : List LI := [⟨some 18, .load true 2 (.t 1), none⟩,
  ⟨some 19, .call (F "r05.Copied") [.t 18] [], none⟩,
  ⟨some 20, .call (F "subgraph.All") [.t 19] [], none⟩,
  ⟨some 17, .mov (.t 20), none⟩,
  ⟨some 21, .ext (.t 17) 0, none⟩,
  ⟨some 22, .ext (.t 17) 1, none⟩,
  ⟨some 3, .mov (.t 21), none⟩,
  ⟨some 4, .mov (.t 22), none⟩]
def c_l07_SubgraphAll_r4 (F : String → Nat) : List LI := [⟨some 24, .load true 2 (.t 1), none⟩,
  ⟨some 25, .call (F "r07.All") [.t 24] [], none⟩,
  ⟨some 23, .mov (.t 25), none⟩,
  ⟨some 26, .ext (.t 23) 0, none⟩,
  ⟨some 27, .ext (.t 23) 1, none⟩,
  ⟨some 5, .mov (.t 26), none⟩,
  ⟨some 6, .mov (.t 27), none⟩]
def c_l07_SubgraphAll_r5 (F : String → Nat) : List LI := [⟨some 28, .mov (.t 3), none⟩,
  ⟨some 29, .mov (.t 5), none⟩,
  ⟨some 30, .call (F "r05.SameParts") [.t 28, .t 29] [], none⟩,
  ⟨some 31, .not (.t 30), none⟩,
  ⟨some 32, .mov (.t 31), none⟩,
  ⟨some 33, .mov (.t 4), some (32, false)⟩,
  ⟨some 34, .mov (.t 6), some (32, false)⟩,
  ⟨some 35, .bin .neq (.t 33) (.t 34), some (32, false)⟩,
  ⟨some 36, .pick (.t 32) (.k (.bool true)) (.t 35), none⟩]
def c_l07_SubgraphAll_r6 (F : String → Nat) : List LI := [⟨some 2, .mov (.k (.bool false)), none⟩]
def c_l07_SubgraphAll_r7 (F : String → Nat) : List LI := [⟨some 37, .mov (.t 3), none⟩,
  ⟨some 38, .len (.t 37), none⟩,
  ⟨some 39, .mov (.k (.int .i64 (0))), none⟩]
def c_l07_SubgraphAll_r8 (F : String → Nat) : List LI := [⟨some 40, .bin .lss (.t 39) (.t 38), none⟩]
def c_l07_SubgraphAll_r9 (F : String → Nat) : List LI := [⟨some 41, .mov (.t 39), none⟩,
  ⟨some 42, .iad 2 (.t 37) (.t 39), none⟩,
  ⟨some 43, .load true 2 (.t 42), none⟩,
  ⟨some 8, .alloc [.nl 1, .nl 1], none⟩,
  ⟨some 7, .mov (.t 41), none⟩,
  ⟨none, .store 2 (.t 8) (.t 43), none⟩]
def c_l07_SubgraphAll_r10 (F : String → Nat) : List LI := [⟨some 44, .load true 2 (.t 1), none⟩,
  ⟨some 45, .load true 2 (.t 8), none⟩,
  ⟨some 46, .call (F "subgraph.Valid") [.t 44, .t 45] [], none⟩,
  ⟨some 47, .bin .neq (.t 46) (.k (.int .i64 (0))), none⟩,
  ⟨some 48, .mov (.t 47), none⟩,
  ⟨some 49, .mov (.t 7), some (48, false)⟩,
  ⟨some 50, .bin .gtr (.t 49) (.k (.int .i64 (0))), some (48, false)⟩,
  ⟨some 51, .mov (.t 50), some (48, false)⟩,
  ⟨some 52, .mov (.t 3), some (51, true)⟩,
  ⟨some 53, .mov (.t 7), some (51, true)⟩,
  ⟨some 54, .bin .sub (.t 53) (.k (.int .i64 (1))), some (51, true)⟩,
  ⟨some 55, .iad 2 (.t 52) (.t 54), some (51, true)⟩,
  ⟨some 56, .load true 2 (.t 55), some (51, true)⟩,
  ⟨some 57, .load true 2 (.t 8), some (51, true)⟩,
  ⟨some 58, .call (F "r07.Compare") [.t 56, .t 57] [], some (51, true)⟩,
  ⟨some 59, .bin .geq (.t 58) (.k (.int .i64 (0))), some (51, true)⟩,
  ⟨some 60, .pick (.t 51) (.t 59) (.k (.bool false)), some (48, false)⟩,
  ⟨some 61, .pick (.t 48) (.k (.bool true)) (.t 60), none⟩]
def c_l07_SubgraphAll_r11 (F : String → Nat) : List LI := [⟨some 2, .mov (.k (.bool false)), none⟩]
def c_l07_SubgraphAll_r12 (F : String → Nat) : List LI := [⟨some 62, .bin .add (.t 39) (.k (.int .i64 (1))), none⟩,
  ⟨some 39, .mov (.t 62), none⟩]
def c_l07_SubgraphAll_b13 (F : String → Nat) : LC := (.seq (.reg (c_l07_SubgraphAll_r8 F) [1, 3, 37, 38, 39, 40]) (.seq (.cond (.t 40) .skip (.exit 0)) (.seq (.block 1 (.seq (.reg (c_l07_SubgraphAll_r9 F) [1, 3, 7, 8, 37, 38, 39]) (.seq (.dreg [] (c_l07_SubgraphAll_r10 F) [1, 3, 37, 38, 39, 61]) (.cond (.t 61) (.seq (.reg (c_l07_SubgraphAll_r11 F) [2]) .ret) .skip)))) (.reg (c_l07_SubgraphAll_r12 F) [1, 3, 37, 38, 39]))))
def c_l07_SubgraphAll_r14 (F : String → Nat) : List LI := [⟨some 2, .mov (.k (.bool true)), none⟩]
def c_l07_SubgraphAll (F : String → Nat) : LC := (.seq (.reg (c_l07_SubgraphAll_r0 F) [1]) (.seq (.seq (.reg (c_l07_SubgraphAll_r1 F) [1, 15]) (.cond (.t 15) (.seq (.reg (c_l07_SubgraphAll_r2 F) [2]) .ret) .skip)) (.seq (.reg (c_l07_SubgraphAll_r3 F) [1, 3, 4]) (.seq (.reg (c_l07_SubgraphAll_r4 F) [1, 3, 4, 5, 6]) (.seq (.seq (.reg (c_l07_SubgraphAll_r5 F) [1, 3, 36]) (.cond (.t 36) (.seq (.reg (c_l07_SubgraphAll_r6 F) [2]) .ret) .skip)) (.seq (.seq (.reg (c_l07_SubgraphAll_r7 F) [1, 3, 37, 38, 39]) (.block 0 (.loop [1, 3, 37, 38, 39] (c_l07_SubgraphAll_b13 F)))) (.seq (.reg (c_l07_SubgraphAll_r14 F) [2]) .ret)))))))
def h_l07_SubgraphAll : Hints := ⟨[], fun _ => [], tab [(0, [1]), (1, [1, 15]), (2, [2]), (3, [1, 3, 4]), (4, [1, 3, 4, 5, 6]), (5, [1, 3, 36]), (6, [2]), (7, [1, 3, 37, 38, 39]), (8, [1, 3, 37, 38, 39, 40]), (9, [1, 3, 7, 8, 37, 38, 39]), (10, [1, 3, 37, 38, 39, 61]), (11, [2]), (12, [1, 3, 37, 38, 39]), (13, [2])], tab [(8, [1, 3, 37, 38, 39])]⟩

attribute [go_sem] c_l07_SubgraphAll_r0 c_l07_SubgraphAll_r1 c_l07_SubgraphAll_r2 c_l07_SubgraphAll_r3 c_l07_SubgraphAll_r4 c_l07_SubgraphAll_r5 c_l07_SubgraphAll_r6 c_l07_SubgraphAll_r7 c_l07_SubgraphAll_r8 c_l07_SubgraphAll_r9 c_l07_SubgraphAll_r10 c_l07_SubgraphAll_r11 c_l07_SubgraphAll_r12 c_l07_SubgraphAll_r14 c_l07_SubgraphAll
section
variable (P : Program) (F : String → Nat)
def K_l07_SubgraphAll : Prop := ∀ g : G, FC P (F "l07.SubgraphAll") [gD g] (.bool true) []
end
section
variable {P : Program} {F : String → Nat} {α : Type}
end
end Go.Am
namespace Go.Am
open Go
set_option linter.unusedVariables false
set_option linter.unusedSimpArgs false
attribute [local irreducible] W
section
variable {P : Program} {F : String → Nat} {α : Type}
theorem allR_small (g : G) : (∀ m ∈ (allR g).1, m.sm) ∧ (allR g).1.length ≤ 64 := by
  unfold allR
  split
  · simp
  · split
    · simp
    · rename_i h
      refine ⟨fun m hm => ?_, ?_⟩
      · simp only at hm
        obtain ⟨h1, h2, _⟩ := allP_mem.1 hm
        have a1 := subs_bits h1
        have a2 := subs_bits h2
        exact ⟨by unfold maxL; omega, by unfold maxL; omega⟩
      · simp only
        rw [← all_same]
        exact Nat.le_trans (allQ_len g _) (pow6 (by omega))
theorem allR_good (g : G) : ((allR g).1.Pairwise fun a b => cmpP a b < 0) ∧ ∀ m ∈ (allR g).1, validP g m = 0 ∧ Tiny m := by
  unfold allR
  split
  · simp
  · split
    · simp
    · rename_i h0 h
      refine ⟨allP_sorted g, fun m hm => ?_⟩
      simp only at hm
      obtain ⟨h1, h2, h3⟩ := allP_mem.1 hm
      refine ⟨by unfold validP; rw [if_neg h0]; exact h3, ?_⟩
      obtain ⟨s, _, e1⟩ := subs_mem.1 h1
      obtain ⟨t, _, e2⟩ := subs_mem.1 h2
      refine ⟨by have := subs_bits h1; omega, by have := subs_bits h2; omega, fun x hx => ?_, fun x hx => ?_⟩
      · rw [← e1] at hx; have := bitsN_bd x hx; omega
      · rw [← e2] at hx; have := bitsN_bd x hx; omega
set_option maxHeartbeats 1000000 in
theorem w_l07_SubgraphAll (hw : K_l07_awake P F) (hf : K_l07_small P F) (hcp : K_r05_Copied P F) (h1 : K_subgraph_All P F) (h2 : K_r07_All P F) (hs : K_r05_SameParts P F) (hv : K_subgraph_Valid P F) (hc : K_r07_Compare P F) (g : G) : W P (c_l07_SubgraphAll F) (Done [.t 2] [] (.bool true) []) (init [gD g]) := by
  refine W_of ?_
  have r1 := FC.nils (a := [gD g, .nl 0]) (hf g [] (by simp) (by simp)) (by simp [NilW, pts])
  have e1 : smallL g [] = few g := by simp [smallL]
  rw [e1] at r1
  cases c : few g
  · rw [c] at r1
    simp only [gD] at *
    simp (config := { maxSteps := 1000000 }) (disch := first | omega | (simp only [go_sem]; omega)) only [go_sem, ↓reduceIte]
    refine call_by hw ?_
    simp (config := { maxSteps := 1000000 }) (disch := first | omega | (simp only [go_sem]; omega)) only [go_sem, ↓reduceIte]
    refine call_by r1 ?_
    simp (config := { maxSteps := 1000000 }) (disch := first | omega | (simp only [go_sem]; omega)) only [go_sem, ↓reduceIte]
    refine call_by hw ?_
    simp (config := { maxSteps := 1000000 }) (disch := first | omega | (simp only [go_sem]; omega)) only [go_sem, ↓reduceIte]
  rw [c] at r1
  have cl := few_len c
  have r2 := hcp g (by omega) (by omega)
  have r3 := h1 g
  have r4 := h2 g
  obtain ⟨a1, a2⟩ := allR_small g
  obtain ⟨b1, b2⟩ := allR_good g
  have r5 := hs (allR g).1 (allR g).1 (by unfold maxL; omega) a1
  rw [decide_eq_true rfl] at r5
  have r6 := fun m h => hv g m (a1 m h).1 (a1 m h).2
  have pl := pts_length (allR g).1
  rw [List.pairwise_iff_getElem] at b1
  generalize validP g = V at *
  generalize allR g = R at *
  obtain ⟨L, v⟩ := R
  simp only at *
  have r7 : ∀ i : Nat, i < L.length → ¬ i = 0 → cmpP (gt L ((i : Int) - 1)) (gt L i) < 0 ∧ FC P (F "r07.Compare") [mD (gt L ((i : Int) - 1)), mD (gt L i)] (.int .i64 (cmpP (gt L ((i : Int) - 1)) (gt L i))) [] := fun i hi h0 => by
    have e : (i : Int) - 1 = ((i - 1 : Nat) : Int) := by omega
    rw [e]
    refine ⟨?_, hc _ _ (b2 _ (gt_mem (by omega) (by omega))).2 (b2 _ (gt_mem (by omega) (by omega))).2⟩
    rw [gt_nat (by omega), gt_nat (by omega)]
    exact b1 (i - 1) i (by omega) (by omega) (by omega)
  simp only [gD, gA, mD] at *
  simp (config := { maxSteps := 1000000 }) (disch := first | omega | (simp only [go_sem]; omega)) only [go_sem, ↓reduceIte]
  refine call_by hw ?_
  simp (config := { maxSteps := 1000000 }) (disch := first | omega | (simp only [go_sem]; omega)) only [go_sem, ↓reduceIte]
  refine call_by r1 ?_
  simp (config := { maxSteps := 1000000 }) (disch := first | omega | (simp only [go_sem]; omega)) only [go_sem, ↓reduceIte]
  refine call_by r2 ?_
  simp (config := { maxSteps := 1000000 }) (disch := first | omega | (simp only [go_sem]; omega)) only [go_sem, ↓reduceIte]
  refine call_by r3 ?_
  cases hfl : (pts L).all D.flatE
  all_goals
    simp (config := { maxSteps := 1000000 }) (disch := first | omega | (simp only [go_sem]; omega)) only [go_sem, ↓reduceIte, pl, hfl]
    refine call_by r4 ?_
    simp (config := { maxSteps := 1000000 }) (disch := first | omega | (simp only [go_sem]; omega)) only [go_sem, ↓reduceIte, pl, hfl]
    refine call_by r5 ?_
    simp (config := { maxSteps := 1000000 }) (disch := first | omega | (simp only [go_sem]; omega)) only [go_sem, ↓reduceIte, pl]
    refine W_loop (fun i : Nat => ⟨[(1, .pt 0 0), (3, .sl 1 0 L.length), (37, .sl 1 0 L.length), (38, .int .i64 L.length), (39, .int .i64 i)], [(0, .box [.lst 1 (ints g.n), .lst 3 (eds g.e)]), (1, .arr 2 (pts L))], 2⟩) (fun i => i ≤ L.length) (fun i => L.length - i) 0 ?_ ?_ ?_
    · simp (config := { maxSteps := 1000000 }) (disch := first | omega | (simp only [go_sem]; omega)) only [go_sem, ↓reduceIte, pl]
      rfl
    · simp
    · intro i hi
      by_cases e : i < L.length
      · have d1 : decide ((i : Int) < L.length) = true := decide_eq_true (by omega)
        have pg := pts_get e
        have hm := gt_mem (l := L) (j := (i : Int)) (by omega) (by omega)
        have r6 := r6 _ hm
        have b3 := (b2 _ hm).1
        rw [b3] at r6
        by_cases z : i = 0
        · subst z
          have d2 : decide ((0 : Int) < ((0 : Nat) : Int)) = false := rfl
          simp (config := { maxSteps := 1000000 }) (disch := first | omega | (simp only [go_sem]; omega)) only [go_sem, ↓reduceIte, c_l07_SubgraphAll_b13, d1, pg, pl]
          refine call_by r6 ?_
          simp (config := { maxSteps := 1000000 }) (disch := first | omega | (simp only [go_sem]; omega)) only [go_sem, ↓reduceIte, d2]
          exact ⟨0 + 1, by simp, by omega, by omega⟩
        · obtain ⟨c1, r7⟩ := r7 i e z
          have d2 : decide ((0 : Int) < (i : Int)) = true := decide_eq_true (by omega)
          have pg2 := pts_get (a := L) (i := i - 1) (by omega)
          have e2 : ((i - 1 : Nat) : Int) = (i : Int) - 1 := by omega
          rw [e2] at pg2
          have e3 : ((i : Int) - 1).toNat = i - 1 := by omega
          have d3 : decide (0 ≤ cmpP (gt L ((i : Int) - 1)) (gt L i)) = false := decide_eq_false (by omega)
          generalize cmpP (gt L ((i : Int) - 1)) (gt L i) = z at *
          simp (config := { maxSteps := 1000000 }) (disch := first | omega | (simp only [go_sem]; omega)) only [go_sem, ↓reduceIte, c_l07_SubgraphAll_b13, d1, pg, pl]
          refine call_by r6 ?_
          simp (config := { maxSteps := 1000000 }) (disch := first | omega | (simp only [go_sem]; omega)) only [go_sem, ↓reduceIte, d2, e3, pg2, pl]
          refine call_by r7 ?_
          simp (config := { maxSteps := 1000000 }) (disch := first | omega | (simp only [go_sem]; omega)) only [go_sem, ↓reduceIte, d3]
          exact ⟨i + 1, by simp, by omega, by omega⟩
      · have d1 : decide ((i : Int) < L.length) = false := decide_eq_false (by omega)
        simp (config := { maxSteps := 1000000 }) (disch := first | omega | (simp only [go_sem]; omega)) only [go_sem, ↓reduceIte, c_l07_SubgraphAll_b13, d1]
theorem x_l07_SubgraphAll (h : K_l07_SubgraphAll P F) (args : List D) (ha : HasEls [shG] args) : FC P (F "l07.SubgraphAll") args (.bool true) [] := by
  simp only [HasEls] at ha
  obtain ⟨_, _, rfl, h1, rfl⟩ := ha
  obtain ⟨g, rfl⟩ := rd_graph h1
  exact h g
end
end Go.Am
