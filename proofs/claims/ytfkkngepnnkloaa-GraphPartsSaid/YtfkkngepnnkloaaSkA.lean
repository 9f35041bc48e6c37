/- Drafts of graphs; what laws take. -/
import Derived.Test.YtfkkngepnnkloaaSjC
namespace Go.Am
open Go
set_option linter.unusedVariables false
set_option linter.unusedSimpArgs false
/- r05.Made -/
def c_r05_Made_r0 (F : String → Nat) : List LI := [⟨some 1, .bx (.t 0), none⟩,
  ⟨some 2, .alloc [.nl 1, .nl 3], none⟩]
def c_r05_Made_r1 (F : String → Nat) : List LI := [⟨some 3, .alloc [.nl 1, .nl 3], none⟩]
def c_r05_Made_r2 (F : String → Nat) : List LI := [⟨some 4, .mov (.k (.int .i64 (0))), none⟩]
def c_r05_Made_r3 (F : String → Nat) : List LI := [⟨some 7, .mov (.t 4), none⟩,
  ⟨some 8, .fad 0 (.t 1), none⟩,
  ⟨some 9, .load false 1 (.t 8), none⟩,
  ⟨some 10, .len (.t 9), none⟩,
  ⟨some 11, .bin .lss (.t 7) (.t 10), none⟩,
  ⟨some 12, .mov (.t 11), none⟩,
  ⟨some 13, .mov (.t 4), some (12, true)⟩,
  ⟨some 14, .bin .lss (.t 13) (.k (.int .i64 (8))), some (12, true)⟩,
  ⟨some 15, .pick (.t 12) (.t 14) (.k (.bool false)), none⟩]
def c_r05_Made_r4 (F : String → Nat) : List LI := [⟨some 18, .fad 0 (.t 3), none⟩,
  ⟨some 19, .load false 1 (.t 18), none⟩,
  ⟨some 20, .fad 0 (.t 1), none⟩,
  ⟨some 21, .load false 1 (.t 20), none⟩,
  ⟨some 22, .mov (.t 4), none⟩,
  ⟨some 23, .iad 1 (.t 21) (.t 22), none⟩,
  ⟨some 24, .load false 1 (.t 23), none⟩,
  ⟨some 25, .bin .rem (.t 24) (.k (.int .u8 (3))), none⟩,
  ⟨some 26, .conv .i64 (.t 25), none⟩,
  ⟨some 27, .buildSl 1 8 (.int .i64 (0)) 1 [(0, .t 26)], none⟩,
  ⟨some 28, .app 1 8 (.t 19) (.t 27), none⟩,
  ⟨some 29, .fad 0 (.t 3), none⟩,
  ⟨none, .store 1 (.t 29) (.t 28), none⟩]
def c_r05_Made_r5 (F : String → Nat) : List LI := [⟨some 16, .mov (.t 4), none⟩,
  ⟨some 17, .bin .add (.t 16) (.k (.int .i64 (1))), none⟩,
  ⟨some 4, .mov (.t 17), none⟩]
def c_r05_Made_b6 (F : String → Nat) : LC := (.seq (.seq (.reg (c_r05_Made_r3 F) [1, 2, 3, 4, 15]) (.cond (.t 15) .skip (.exit 0))) (.seq (.block 1 (.dreg [(1, none, [], true), (9, none, [1], false)] (c_r05_Made_r4 F) [1, 2, 3, 4])) (.reg (c_r05_Made_r5 F) [1, 2, 3, 4])))
def c_r05_Made_r7 (F : String → Nat) : List LI := [⟨some 30, .fad 0 (.t 3), none⟩,
  ⟨some 31, .load false 1 (.t 30), none⟩,
  ⟨some 32, .len (.t 31), none⟩,
  ⟨some 5, .mov (.t 32), none⟩]
def c_r05_Made_r8 (F : String → Nat) : List LI := [⟨some 6, .mov (.k (.int .i64 (0))), none⟩]
def c_r05_Made_r9 (F : String → Nat) : List LI := [⟨some 33, .mov (.t 6), none⟩,
  ⟨some 34, .fad 1 (.t 1), none⟩,
  ⟨some 35, .load false 1 (.t 34), none⟩,
  ⟨some 36, .len (.t 35), none⟩,
  ⟨some 37, .bin .lss (.t 33) (.t 36), none⟩,
  ⟨some 38, .mov (.t 37), none⟩,
  ⟨some 39, .mov (.t 6), some (38, true)⟩,
  ⟨some 40, .bin .lss (.t 39) (.k (.int .i64 (10))), some (38, true)⟩,
  ⟨some 41, .pick (.t 38) (.t 40) (.k (.bool false)), none⟩,
  ⟨some 42, .mov (.t 41), none⟩,
  ⟨some 43, .mov (.t 5), some (42, true)⟩,
  ⟨some 44, .bin .gtr (.t 43) (.k (.int .i64 (0))), some (42, true)⟩,
  ⟨some 45, .pick (.t 42) (.t 44) (.k (.bool false)), none⟩]
def c_r05_Made_r10 (F : String → Nat) : List LI := [⟨some 48, .fad 1 (.t 3), none⟩,
  ⟨some 49, .load false 1 (.t 48), none⟩,
  ⟨some 50, .fad 1 (.t 1), none⟩,
  ⟨some 51, .load false 1 (.t 50), none⟩,
  ⟨some 52, .mov (.t 6), none⟩,
  ⟨some 53, .iad 3 (.t 51) (.t 52), none⟩,
  ⟨some 54, .iaa 3 1 (.t 53) (.k (.int .i64 (0))), none⟩,
  ⟨some 55, .load false 1 (.t 54), none⟩,
  ⟨some 56, .bin .rem (.t 55) (.k (.int .u8 (2))), none⟩,
  ⟨some 57, .conv .i64 (.t 56), none⟩,
  ⟨some 58, .fad 1 (.t 1), none⟩,
  ⟨some 59, .load false 1 (.t 58), none⟩,
  ⟨some 60, .mov (.t 6), none⟩,
  ⟨some 61, .iad 3 (.t 59) (.t 60), none⟩,
  ⟨some 62, .iaa 3 1 (.t 61) (.k (.int .i64 (1))), none⟩,
  ⟨some 63, .load false 1 (.t 62), none⟩,
  ⟨some 64, .conv .i64 (.t 63), none⟩,
  ⟨some 65, .mov (.t 5), none⟩,
  ⟨some 66, .bin .rem (.t 64) (.t 65), none⟩,
  ⟨some 67, .fad 1 (.t 1), none⟩,
  ⟨some 68, .load false 1 (.t 67), none⟩,
  ⟨some 69, .mov (.t 6), none⟩,
  ⟨some 70, .iad 3 (.t 68) (.t 69), none⟩,
  ⟨some 71, .iaa 3 1 (.t 70) (.k (.int .i64 (2))), none⟩,
  ⟨some 72, .load false 1 (.t 71), none⟩,
  ⟨some 73, .conv .i64 (.t 72), none⟩,
  ⟨some 74, .mov (.t 5), none⟩,
  ⟨some 75, .bin .rem (.t 73) (.t 74), none⟩,
  ⟨some 76, .build [.int .i64 (0), .int .i64 (0), .int .i64 (0)] [(0, 1, .t 57), (1, 1, .t 66), (2, 1, .t 75)], none⟩,
  ⟨some 77, .buildSl 3 24 (.agg [.int .i64 (0), .int .i64 (0), .int .i64 (0)]) 1 [(0, .t 76)], none⟩,
  ⟨some 78, .app 3 24 (.t 49) (.t 77), none⟩,
  ⟨some 79, .fad 1 (.t 3), none⟩,
  ⟨none, .store 1 (.t 79) (.t 78), none⟩]
def c_r05_Made_r11 (F : String → Nat) : List LI := [⟨some 46, .mov (.t 6), none⟩,
  ⟨some 47, .bin .add (.t 46) (.k (.int .i64 (1))), none⟩,
  ⟨some 6, .mov (.t 47), none⟩]
def c_r05_Made_b12 (F : String → Nat) : LC := (.seq (.seq (.reg (c_r05_Made_r9 F) [1, 2, 3, 5, 6, 45]) (.cond (.t 45) .skip (.exit 2))) (.seq (.block 3 (.dreg [(1, none, [], true), (29, none, [1], false)] (c_r05_Made_r10 F) [1, 2, 3, 5, 6])) (.reg (c_r05_Made_r11 F) [1, 2, 3, 5, 6])))
def c_r05_Made_r13 (F : String → Nat) : List LI := [⟨some 80, .load true 2 (.t 3), none⟩,
  ⟨none, .store 2 (.t 2) (.t 80), none⟩]
def c_r05_Made (F : String → Nat) : LC := (.seq (.reg (c_r05_Made_r0 F) [1, 2]) (.seq (.reg (c_r05_Made_r1 F) [1, 2, 3]) (.seq (.seq (.reg (c_r05_Made_r2 F) [1, 2, 3, 4]) (.block 0 (.loop [1, 2, 3, 4] (c_r05_Made_b6 F)))) (.seq (.reg (c_r05_Made_r7 F) [1, 2, 3, 5]) (.seq (.seq (.reg (c_r05_Made_r8 F) [1, 2, 3, 5, 6]) (.block 2 (.loop [1, 2, 3, 5, 6] (c_r05_Made_b12 F)))) (.seq (.reg (c_r05_Made_r13 F) [2]) .ret))))))
def h_r05_Made : Hints := ⟨[], fun _ => [], tab [(0, [1, 2]), (1, [1, 2, 3]), (2, [1, 2, 3, 4]), (3, [1, 2, 3, 4, 15]), (4, [1, 2, 3, 4]), (5, [1, 2, 3, 4]), (6, [1, 2, 3, 5]), (7, [1, 2, 3, 5, 6]), (8, [1, 2, 3, 5, 6, 45]), (9, [1, 2, 3, 5, 6]), (10, [1, 2, 3, 5, 6]), (11, [2])], tab [(3, [1, 2, 3, 4]), (8, [1, 2, 3, 5, 6])]⟩

attribute [go_sem] c_r05_Made_r0 c_r05_Made_r1 c_r05_Made_r2 c_r05_Made_r3 c_r05_Made_r4 c_r05_Made_r5 c_r05_Made_r7 c_r05_Made_r8 c_r05_Made_r9 c_r05_Made_r10 c_r05_Made_r11 c_r05_Made_r13 c_r05_Made
def u8s (l : List Int) : List D := l.map fun x => .int .u8 x
def trs (l : List E) : List D := l.map fun x => .agg [.int .u8 x.t, .int .u8 x.f, .int .u8 x.o]
theorem u8s_length (l : List Int) : (u8s l).length = l.length := by simp [u8s]
theorem trs_length (l : List E) : (trs l).length = l.length := by simp [trs]
theorem u8s_atn {l : List Int} {i : Nat} (h : i < l.length) : (u8s l)[i]? = some (.int .u8 (gt l (i : Int))) := by
  rw [gt_nat h]; simp [u8s, h]
theorem trs_atn {l : List E} {i : Nat} (h : i < l.length) : (trs l)[i]? = some (.agg [.int .u8 (gt l (i : Int)).t, .int .u8 (gt l (i : Int)).f, .int .u8 (gt l (i : Int)).o]) := by
  rw [gt_nat h]; simp [trs, h]
theorem flat_u8s (l : List Int) : (u8s l).all D.flatE = true := by simp [u8s, D.flatE, D.flat0]
theorem flat_trs (l : List E) : (trs l).all D.flatE = true := by simp [trs, D.flatE, D.flat0]
attribute [go_sem] u8s_length trs_length u8s_atn trs_atn flat_u8s flat_trs
/-- A draft: types of nodes, and edges. -/
structure Dr where
  n : List Int
  e : List E
  deriving DecidableEq, Inhabited
def drD (x : Dr) : D := .agg [.lst 1 (u8s x.n), .lst 3 (trs x.e)]
def Byte (x : Int) : Prop := 0 ≤ x ∧ x ≤ 255
def Dr.ok (x : Dr) : Prop := (∀ v ∈ x.n, Byte v) ∧ ∀ v ∈ x.e, Byte v.t ∧ Byte v.f ∧ Byte v.o
def madeN (x : Dr) : List Int := (x.n.take 8).map fun v => v.tmod 3
def madeE (x : Dr) (m : Int) (t : E) : E := ⟨t.t.tmod 2, t.f.tmod m, t.o.tmod m⟩
def madeG (x : Dr) : G := ⟨madeN x, if (madeN x).length = 0 then [] else (x.e.take 10).map (madeE x (madeN x).length)⟩
section
variable (P : Program) (F : String → Nat)
def K_r05_Made : Prop := ∀ x : Dr, x.ok → x.n.length ≤ maxL → x.e.length ≤ maxL → FC P (F "r05.Made") [drD x] (gA (madeG x)) []
end
def shU8 : Sh := .int .u8
def shU8s : Sh := .slc 1 1 shU8
def shTr : Sh := .cat [shU8, shU8, shU8]
def shDr : Sh := .cat [shU8s, .slc 3 3 shTr]
theorem rd_u8 {x : D} (h : HasEl shU8 x) : ∃ n : Int, x = .int .u8 n ∧ Byte n := by
  simp only [shU8, HasEl] at h
  obtain ⟨n, rfl, h1, h2⟩ := h
  exact ⟨n, rfl, h1, h2⟩
theorem rd_u8l : ∀ {xs : List D}, (∀ y ∈ xs, HasEl shU8 y) → ∃ l : List Int, xs = u8s l ∧ ∀ v ∈ l, Byte v
  | [], _ => ⟨[], rfl, by simp⟩
  | x :: xs, h => by
    obtain ⟨l, rfl, hl⟩ := rd_u8l (xs := xs) fun y hy => h y (by simp [hy])
    obtain ⟨n, rfl, hn⟩ := rd_u8 (h x (by simp))
    exact ⟨n :: l, rfl, by simpa [hn] using hl⟩
theorem rd_u8s {x : D} (h : HasEl shU8s x) : ∃ l : List Int, x = .lst 1 (u8s l) ∧ (∀ v ∈ l, Byte v) ∧ l.length ≤ maxL := by
  simp only [shU8s, HasEl] at h
  obtain ⟨xs, rfl, h1, h2⟩ := h
  obtain ⟨l, rfl, hl⟩ := rd_u8l h2
  refine ⟨l, rfl, hl, ?_⟩
  rw [u8s_length] at h1
  unfold reachBytes at h1
  unfold maxL
  omega
theorem rd_tr {x : D} (h : HasEl shTr x) : ∃ e : E, x = .agg [.int .u8 e.t, .int .u8 e.f, .int .u8 e.o] ∧ Byte e.t ∧ Byte e.f ∧ Byte e.o := by
  simp only [shTr, HasEl] at h
  obtain ⟨ds, rfl, h⟩ := h
  simp only [shU8, HasShs, HasEl] at h
  obtain ⟨_, _, rfl, ⟨a, rfl, a1, a2⟩, _, _, rfl, ⟨b, rfl, b1, b2⟩, _, _, rfl, ⟨c, rfl, c1, c2⟩, rfl⟩ := h
  exact ⟨⟨a, b, c⟩, rfl, ⟨a1, a2⟩, ⟨b1, b2⟩, ⟨c1, c2⟩⟩
theorem rd_trl : ∀ {xs : List D}, (∀ y ∈ xs, HasEl shTr y) → ∃ l : List E, xs = trs l ∧ ∀ v ∈ l, Byte v.t ∧ Byte v.f ∧ Byte v.o
  | [], _ => ⟨[], rfl, by simp⟩
  | x :: xs, h => by
    obtain ⟨l, rfl, hl⟩ := rd_trl (xs := xs) fun y hy => h y (by simp [hy])
    obtain ⟨n, rfl, hn⟩ := rd_tr (h x (by simp))
    refine ⟨n :: l, rfl, fun v hv => ?_⟩
    simp only [List.mem_cons] at hv
    rcases hv with rfl | hv
    · exact hn
    · exact hl v hv
theorem rd_draft {x : D} (h : HasEl shDr x) : ∃ g : Dr, x = drD g ∧ g.ok ∧ g.n.length ≤ maxL ∧ g.e.length ≤ maxL := by
  simp only [shDr, HasEl] at h
  obtain ⟨ds, rfl, h⟩ := h
  have h' : ∃ a b, ds = a :: b ∧ HasEl shU8s a ∧ HasShs [.slc 3 3 shTr] b := by simpa only [shU8s, HasShs] using h
  obtain ⟨a, _, rfl, h1, h'⟩ := h'
  obtain ⟨l, rfl, hl, hl2⟩ := rd_u8s h1
  simp only [HasShs, HasEl] at h'
  obtain ⟨_, _, rfl, ⟨xs, rfl, hb, h3⟩, rfl⟩ := h'
  obtain ⟨es, rfl, he⟩ := rd_trl h3
  refine ⟨⟨l, es⟩, rfl, ⟨hl, he⟩, hl2, ?_⟩
  rw [trs_length] at hb
  unfold reachBytes at hb
  simp only [maxL]
  omega
section
variable {P : Program} {F : String → Nat} {α : Type}
theorem tmod_bd {x m : Int} (hx : 0 ≤ x) (hm : 0 < m) : 0 ≤ x.tmod m ∧ x.tmod m < m := ⟨Int.tmod_nonneg _ hx, Int.tmod_lt_of_pos _ hm⟩
theorem w_r05_Made (x : Dr) (hx : x.ok) (h1 : x.n.length ≤ maxL) (h2 : x.e.length ≤ maxL) : W P (c_r05_Made F) (Done [.c 2 true 2] [] (gA (madeG x)) []) (init [drD x]) := by
  refine W_of ?_
  obtain ⟨xn, xe⟩ := x
  obtain ⟨o1, o2⟩ := hx
  simp only at h1 h2 o1 o2
  unfold maxL at h1 h2
  simp (config := { maxSteps := 1000000 }) (disch := first | omega | (simp only [go_sem]; omega)) only [go_sem, ↓reduceIte, drD]
  have ml : ∀ i, ((xn.take i).map fun v => v.tmod 3).length = min i xn.length := fun i => by simp
  refine W_loop (fun i : Nat => ⟨[(1, D.pt 0 0), (2, D.pt 3 0), (3, D.pt 6 0), (4, D.int IntKind.i64 i)],
      [(0, Ent.box [D.lst 1 (u8s xn), D.lst 3 (trs xe)]), (1, Ent.arr 1 []), (2, Ent.arr 3 []), (3, Ent.box [D.sl 1 0 0, D.sl 2 0 0]), (4, Ent.arr 1 (ints ((xn.take i).map fun v => v.tmod 3))), (5, Ent.arr 3 []),
        (6, Ent.box [D.sl 4 0 i, D.sl 5 0 0])], 7⟩) (fun i => i ≤ xn.length ∧ i ≤ 8) (fun i => 8 - i) 0 ?_ ?_ ?_
  · simp (config := { maxSteps := 1000000 }) (disch := first | omega | (simp only [go_sem]; omega)) only [go_sem, ↓reduceIte]
    rfl
  · simp
  · rintro i ⟨hi, hi8⟩
    have hml : ((xn.take i).map fun v => v.tmod 3).length = i := by rw [ml]; omega
    simp (config := { maxSteps := 1000000 }) (disch := first | omega | (simp only [go_sem]; omega)) only [go_sem, ↓reduceIte, c_r05_Made_b6]
    refine bran_dec ?ga ?gb
    case' ga =>
      intro c
      simp (config := { maxSteps := 1000000 }) (disch := first | omega | (simp only [go_sem]; omega)) only [go_sem, ↓reduceIte, c]
      refine bran_dec ?gc ?gd
      case' gc =>
        intro c2
        have ho := o1 _ (gt_mem (l := xn) (j := i) (by omega) (by omega))
        have hb := tmod_bd (m := 3) ho.1 (by omega)
        have hz : ¬ ((3 : Int) = 0) := by omega
        simp (config := { maxSteps := 1000000 }) (disch := first | omega | (simp only [go_sem]; omega)) only [go_sem, ↓reduceIte, hml, hz]
        exact ⟨i + 1, by rw [take_gt (by omega)]; simp, by omega, by omega⟩
      intro c2
      have h8 : i = 8 ∨ i = xn.length := by omega
      simp (config := { maxSteps := 1000000 }) (disch := first | omega | (simp only [go_sem]; omega)) only [go_sem, ↓reduceIte]
    case' gb =>
      intro c
      have h8 : i = 8 ∨ i = xn.length := by omega
      simp (config := { maxSteps := 1000000 }) (disch := first | omega | (simp only [go_sem]; omega)) only [go_sem, ↓reduceIte, c]
    all_goals
      have hmn : madeN ⟨xn, xe⟩ = (xn.take i).map fun v => v.tmod 3 := by
        simp only [madeN]
        rw [show xn.take 8 = xn.take i from List.take_eq_take_iff.2 (by omega)]
      have fin : ∀ j : Nat, (0 < i → j = 10 ∨ j = xe.length) → (i = 0 → j = 0) → j ≤ 10 → madeG ⟨xn, xe⟩ = ⟨(xn.take i).map fun v => v.tmod 3, (xe.take j).map (madeE ⟨xn, xe⟩ i)⟩ := fun j h1 h2 h3 => by
        simp only [madeG, hmn, hml]
        by_cases h0 : i = 0
        · rw [if_pos h0, h2 h0]; simp
        · rw [if_neg h0, show xe.take 10 = xe.take j from List.take_eq_take_iff.2 (by have := h1 (by omega); omega)]
      generalize hns : ((xn.take i).map fun v => v.tmod 3) = ns at hml fin
      clear hmn hns
      refine W_loop (fun j : Nat => ⟨[(1, D.pt 0 0), (2, D.pt 3 0), (3, D.pt 6 0), (5, D.int IntKind.i64 i), (6, D.int IntKind.i64 j)],
        [(0, Ent.box [D.lst 1 (u8s xn), D.lst 3 (trs xe)]), (1, Ent.arr 1 []), (2, Ent.arr 3 []), (3, Ent.box [D.sl 1 0 0, D.sl 2 0 0]), (4, Ent.arr 1 (ints ns)), (5, Ent.arr 3 (eds ((xe.take j).map (madeE ⟨xn, xe⟩ i)))),
          (6, Ent.box [D.sl 4 0 i, D.sl 5 0 j])], 7⟩) (fun j => j ≤ xe.length ∧ j ≤ 10 ∧ (i = 0 → j = 0)) (fun j => 10 - j) 0 ?_ ?_ ?_
      · simp (config := { maxSteps := 1000000 }) (disch := first | omega | (simp only [go_sem]; omega)) only [go_sem, ↓reduceIte]
        rfl
      · simp
      · rintro j ⟨hj, hj10, hj0⟩
        have hel : ((xe.take j).map (madeE ⟨xn, xe⟩ i)).length = j := by simp; omega
        simp (config := { maxSteps := 1000000 }) (disch := first | omega | (simp only [go_sem]; omega)) only [go_sem, ↓reduceIte, c_r05_Made_b12]
        refine bran_dec (fun d => ?_) (fun d => ?_)
        · simp (config := { maxSteps := 1000000 }) (disch := first | omega | (simp only [go_sem]; omega)) only [go_sem, ↓reduceIte, d]
          refine bran_dec (fun d2 => ?_) (fun d2 => ?_)
          · simp (config := { maxSteps := 1000000 }) (disch := first | omega | (simp only [go_sem]; omega)) only [go_sem, ↓reduceIte, d2]
            refine bran_dec (fun d3 => ?_) (fun d3 => ?_)
            · obtain ⟨ot, of, oo⟩ := o2 _ (gt_mem (l := xe) (j := j) (by omega) (by omega))
              have b1 := tmod_bd (x := (gt xe j).t) (m := 2) ot.1 (by omega)
              have b2 := tmod_bd (x := (gt xe j).f) (m := i) of.1 (by omega)
              have b3 := tmod_bd (x := (gt xe j).o) (m := i) oo.1 (by omega)
              have w1 : IntKind.i64.wrap (gt xe j).f = (gt xe j).f := wrap_i64 (by have := of.1; omega) (by have := of.2; omega)
              have w2 : IntKind.i64.wrap (gt xe j).o = (gt xe j).o := wrap_i64 (by have := oo.1; omega) (by have := oo.2; omega)
              have z1 : ¬ ((2 : Int) = 0) := by omega
              have z2 : ¬ ((i : Int) = 0) := by omega
              simp (config := { maxSteps := 1000000 }) (disch := first | omega | (simp only [go_sem]; omega)) only [go_sem, ↓reduceIte, hel, w1, w2, z1, z2, Int.reduceToNat]
              exact ⟨j + 1, by rw [take_gt (by omega)]; simp [madeE], by omega, by omega⟩
            · simp (config := { maxSteps := 1000000 }) (disch := first | omega | (simp only [go_sem]; omega)) only [go_sem, ↓reduceIte, d3, hel, hml]
              rw [fin j (by omega) hj0 hj10]
              simp [gA]
          · simp (config := { maxSteps := 1000000 }) (disch := first | omega | (simp only [go_sem]; omega)) only [go_sem, ↓reduceIte, d2, hel, hml]
            rw [fin j (by omega) hj0 hj10]
            simp [gA]
        · simp (config := { maxSteps := 1000000 }) (disch := first | omega | (simp only [go_sem]; omega)) only [go_sem, ↓reduceIte, d, hel, hml]
          rw [fin j (by omega) hj0 hj10]
          simp [gA]
theorem valid_spec {g : G} (h : validG g = 0) : g.n.length ≤ 40 ∧ g.e.length ≤ 80 ∧ (∀ x, x ∈ g.n → okN x = true) ∧ ∀ x, x ∈ g.e → fitsE g.n.length x = true := by
  unfold validG at h
  split at h
  · simp at h
  · rename_i h1
    split at h
    · rename_i h2
      simp only [Bool.and_eq_true, List.all_eq_true] at h2
      exact ⟨by omega, by omega, h2.1, h2.2⟩
    · simp at h
theorem fits_spec {n : Int} {x : E} (h : fitsE n x = true) : (0 ≤ x.t ∧ x.t ≤ 99) ∧ (0 ≤ x.f ∧ x.f < n) ∧ (0 ≤ x.o ∧ x.o < n) := by
  simp only [fitsE, Bool.and_eq_true, decide_eq_true_eq] at h
  omega
theorem fits_mk {n : Int} {x : E} (h1 : 0 ≤ x.t ∧ x.t ≤ 99) (h2 : 0 ≤ x.f ∧ x.f < n) (h3 : 0 ≤ x.o ∧ x.o < n) : fitsE n x = true := by
  simp only [fitsE, Bool.and_eq_true, decide_eq_true_eq]
  omega
theorem madeN_len (x : Dr) : (madeN x).length ≤ 8 := by simp [madeN]; omega
theorem madeE_len (x : Dr) : (madeG x).e.length ≤ 10 := by
  simp only [madeG]
  split
  · simp
  · simp; omega
theorem madeG_valid {x : Dr} (hx : x.ok) : validG (madeG x) = 0 := by
  have h1 := madeN_len x
  have h2 := madeE_len x
  unfold validG
  rw [if_neg (show ¬ (40 < (madeG x).n.length ∨ 80 < (madeG x).e.length) by simp only [madeG] at h2 ⊢; omega), if_pos]
  simp only [Bool.and_eq_true, List.all_eq_true]
  refine ⟨fun v hv => ?_, fun v hv => ?_⟩
  · simp only [madeG, madeN, List.mem_map] at hv
    obtain ⟨u, hu, rfl⟩ := hv
    have := hx.1 u (List.mem_of_mem_take hu)
    have := tmod_bd (x := u) (m := 3) this.1 (by omega)
    simp only [okN, decide_eq_true_eq]
    omega
  · simp only [madeG] at hv
    split at hv
    · simp at hv
    · rename_i h0
      simp only [List.mem_map] at hv
      obtain ⟨u, hu, rfl⟩ := hv
      obtain ⟨o1, o2, o3⟩ := hx.2 u (List.mem_of_mem_take hu)
      have b1 := tmod_bd (x := u.t) (m := 2) o1.1 (by omega)
      have b2 := tmod_bd (x := u.f) (m := (madeN x).length) o2.1 (by omega)
      have b3 := tmod_bd (x := u.o) (m := (madeN x).length) o3.1 (by omega)
      exact fits_mk (by simp only [madeE]; omega) b2 b3
end
end Go.Am
