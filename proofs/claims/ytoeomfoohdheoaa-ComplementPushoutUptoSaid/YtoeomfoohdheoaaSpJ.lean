/- Graphs of parts. -/
import Derived.Test.YtoeomfoohdheoaaSpI
import Derived.Test.YtoeomfoohdheoaaSoK
import Derived.Test.YtoeomfoohdheoaaSkEa
namespace Go.Am
open Go
set_option linter.unusedVariables false
set_option linter.unusedSimpArgs false
attribute [local irreducible] W
/- subgraph.Extract -/
def c_subgraph_Extract_r0 (F : String → Nat) : List LI := [⟨some 2, .bx (.t 0), none⟩,
  ⟨some 3, .bx (.t 1), none⟩,
  ⟨some 4, .alloc [.nl 1, .nl 3], none⟩,
  ⟨some 5, .alloc [.nl 1, .nl 1], none⟩,
  ⟨some 6, .mov (.k (.int .i64 (0))), none⟩]
def c_subgraph_Extract_r1 (F : String → Nat) : List LI := [⟨some 14, .load true 2 (.t 2), none⟩,
  ⟨some 15, .load true 2 (.t 3), none⟩,
  ⟨some 16, .call (F "subgraph.Valid") [.t 14, .t 15] [], none⟩,
  ⟨some 7, .mov (.t 16), none⟩]
def c_subgraph_Extract_r2 (F : String → Nat) : List LI := [⟨some 17, .mov (.t 7), none⟩,
  ⟨some 18, .bin .neq (.t 17) (.k (.int .i64 (0))), none⟩]
def c_subgraph_Extract_r3 (F : String → Nat) : List LI := [⟨some 19, .build [.nl 1, .nl 3] [], none⟩,
  ⟨some 20, .build [.nl 1, .nl 1] [], none⟩,
  ⟨some 21, .mov (.t 7), none⟩,
  ⟨none, .store 2 (.t 4) (.t 19), none⟩,
  ⟨none, .store 2 (.t 5) (.t 20), none⟩,
  ⟨some 6, .mov (.t 21), none⟩]
def c_subgraph_Extract_r4 (F : String → Nat) : List LI := [⟨some 8, .alloc [.nl 1, .nl 3], none⟩]
def c_subgraph_Extract_r5 (F : String → Nat) : List LI := [⟨some 22, .fad 0 (.t 3), none⟩,
  ⟨some 23, .load false 1 (.t 22), none⟩,
  ⟨some 24, .len (.t 23), none⟩,
  ⟨some 25, .mov (.k (.int .i64 (0))), none⟩]
def c_subgraph_Extract_r6 (F : String → Nat) : List LI := [⟨some 26, .bin .lss (.t 25) (.t 24), none⟩]
def c_subgraph_Extract_r7 (F : String → Nat) : List LI := [⟨some 27, .iad 1 (.t 23) (.t 25), none⟩,
  ⟨some 28, .load false 1 (.t 27), none⟩,
  ⟨some 10, .mov (.t 28), none⟩]
def c_subgraph_Extract_r8 (F : String → Nat) : List LI := [⟨some 29, .fad 0 (.t 8), none⟩,
  ⟨some 30, .load false 1 (.t 29), none⟩,
  ⟨some 31, .fad 0 (.t 2), none⟩,
  ⟨some 32, .load false 1 (.t 31), none⟩,
  ⟨some 33, .mov (.t 10), none⟩,
  ⟨some 34, .iad 1 (.t 32) (.t 33), none⟩,
  ⟨some 35, .load false 1 (.t 34), none⟩,
  ⟨some 36, .buildSl 1 8 (.int .i64 (0)) 1 [(0, .t 35)], none⟩,
  ⟨some 37, .app 1 8 (.t 30) (.t 36), none⟩,
  ⟨some 38, .fad 0 (.t 8), none⟩,
  ⟨none, .store 1 (.t 38) (.t 37), none⟩]
def c_subgraph_Extract_r9 (F : String → Nat) : List LI := [⟨some 39, .bin .add (.t 25) (.k (.int .i64 (1))), none⟩,
  ⟨some 25, .mov (.t 39), none⟩]
def c_subgraph_Extract_b10 (F : String → Nat) : LC := (.seq (.reg (c_subgraph_Extract_r6 F) [2, 3, 4, 5, 8, 23, 24, 25, 26]) (.seq (.cond (.t 26) .skip (.exit 0)) (.seq (.block 1 (.seq (.reg (c_subgraph_Extract_r7 F) [2, 3, 4, 5, 8, 10, 23, 24, 25]) (.dreg [(1, none, [], true), (7, none, [1], false)] (c_subgraph_Extract_r8 F) [2, 3, 4, 5, 8, 23, 24, 25]))) (.reg (c_subgraph_Extract_r9 F) [2, 3, 4, 5, 8, 23, 24, 25]))))
def c_subgraph_Extract_r11 (F : String → Nat) : List LI := [⟨some 40, .fad 1 (.t 3), none⟩,
  ⟨some 41, .load false 1 (.t 40), none⟩,
  ⟨some 42, .len (.t 41), none⟩,
  ⟨some 43, .mov (.k (.int .i64 (0))), none⟩]
def c_subgraph_Extract_r12 (F : String → Nat) : List LI := [⟨some 44, .bin .lss (.t 43) (.t 42), none⟩]
def c_subgraph_Extract_r13 (F : String → Nat) : List LI := [⟨some 45, .iad 1 (.t 41) (.t 43), none⟩,
  ⟨some 46, .load false 1 (.t 45), none⟩,
  ⟨some 12, .mov (.t 46), none⟩]
def c_subgraph_Extract_r14 (F : String → Nat) : List LI := [⟨some 47, .fad 1 (.t 2), none⟩,
  ⟨some 48, .load false 1 (.t 47), none⟩,
  ⟨some 49, .mov (.t 12), none⟩,
  ⟨some 50, .iad 3 (.t 48) (.t 49), none⟩,
  ⟨some 51, .load true 3 (.t 50), none⟩,
  ⟨some 13, .alloc [.int .i64 (0), .int .i64 (0), .int .i64 (0)], none⟩,
  ⟨none, .store 3 (.t 13) (.t 51), none⟩]
def c_subgraph_Extract_r15 (F : String → Nat) : List LI := [⟨some 53, .fad 0 (.t 3), none⟩,
  ⟨some 54, .load false 1 (.t 53), none⟩,
  ⟨some 55, .fad 1 (.t 13), none⟩,
  ⟨some 56, .load false 1 (.t 55), none⟩,
  ⟨some 57, .call (F "slices.BinarySearch.I") [.t 54, .t 56] [], none⟩,
  ⟨some 52, .mov (.t 57), none⟩,
  ⟨some 58, .ext (.t 52) 0, none⟩,
  ⟨some 59, .ext (.t 52) 1, none⟩,
  ⟨some 60, .fad 1 (.t 13), none⟩,
  ⟨none, .store 1 (.t 60) (.t 58), none⟩]
def c_subgraph_Extract_r16 (F : String → Nat) : List LI := [⟨some 62, .fad 0 (.t 3), none⟩,
  ⟨some 63, .load false 1 (.t 62), none⟩,
  ⟨some 64, .fad 2 (.t 13), none⟩,
  ⟨some 65, .load false 1 (.t 64), none⟩,
  ⟨some 66, .call (F "slices.BinarySearch.I") [.t 63, .t 65] [], none⟩,
  ⟨some 61, .mov (.t 66), none⟩,
  ⟨some 67, .ext (.t 61) 0, none⟩,
  ⟨some 68, .ext (.t 61) 1, none⟩,
  ⟨some 69, .fad 2 (.t 13), none⟩,
  ⟨none, .store 1 (.t 69) (.t 67), none⟩]
def c_subgraph_Extract_r17 (F : String → Nat) : List LI := [⟨some 70, .fad 1 (.t 8), none⟩,
  ⟨some 71, .load false 1 (.t 70), none⟩,
  ⟨some 72, .load true 3 (.t 13), none⟩,
  ⟨some 73, .buildSl 3 24 (.agg [.int .i64 (0), .int .i64 (0), .int .i64 (0)]) 1 [(0, .t 72)], none⟩,
  ⟨some 74, .app 3 24 (.t 71) (.t 73), none⟩,
  ⟨some 75, .fad 1 (.t 8), none⟩,
  ⟨none, .store 1 (.t 75) (.t 74), none⟩]
def c_subgraph_Extract_r18 (F : String → Nat) : List LI := [⟨some 76, .bin .add (.t 43) (.k (.int .i64 (1))), none⟩,
  ⟨some 43, .mov (.t 76), none⟩]
def c_subgraph_Extract_b19 (F : String → Nat) : LC := (.seq (.reg (c_subgraph_Extract_r12 F) [2, 3, 4, 5, 8, 41, 42, 43, 44]) (.seq (.cond (.t 44) .skip (.exit 2)) (.seq (.block 3 (.seq (.reg (c_subgraph_Extract_r13 F) [2, 3, 4, 5, 8, 12, 41, 42, 43]) (.seq (.reg (c_subgraph_Extract_r14 F) [2, 3, 4, 5, 8, 13, 41, 42, 43]) (.seq (.reg (c_subgraph_Extract_r15 F) [2, 3, 4, 5, 8, 13, 41, 42, 43]) (.seq (.reg (c_subgraph_Extract_r16 F) [2, 3, 4, 5, 8, 13, 41, 42, 43]) (.reg (c_subgraph_Extract_r17 F) [2, 3, 4, 5, 8, 41, 42, 43])))))) (.reg (c_subgraph_Extract_r18 F) [2, 3, 4, 5, 8, 41, 42, 43]))))
def c_subgraph_Extract_r20 (F : String → Nat) : List LI := [⟨some 77, .load true 2 (.t 8), none⟩,
  ⟨some 78, .fad 0 (.t 3), none⟩,
  ⟨some 79, .load false 1 (.t 78), none⟩,
  ⟨some 80, .call (F "slices.Clone.I") [.t 79] [], none⟩,
  ⟨some 81, .fad 1 (.t 3), none⟩,
  ⟨some 82, .load false 1 (.t 81), none⟩,
  ⟨some 83, .call (F "slices.Clone.I") [.t 82] [], none⟩,
  ⟨some 84, .build [.nl 1, .nl 1] [(0, 1, .t 80), (1, 1, .t 83)], none⟩,
  ⟨none, .store 2 (.t 4) (.t 77), none⟩,
  ⟨none, .store 2 (.t 5) (.t 84), none⟩,
  ⟨some 6, .mov (.k (.int .i64 (0))), none⟩]
def c_subgraph_Extract (F : String → Nat) : LC := (.seq (.reg (c_subgraph_Extract_r0 F) [2, 3, 4, 5]) (.seq (.seq (.reg (c_subgraph_Extract_r1 F) [2, 3, 4, 5, 7]) (.seq (.reg (c_subgraph_Extract_r2 F) [2, 3, 4, 5, 7, 18]) (.cond (.t 18) (.seq (.reg (c_subgraph_Extract_r3 F) [4, 5, 6]) .ret) .skip))) (.seq (.reg (c_subgraph_Extract_r4 F) [2, 3, 4, 5, 8]) (.seq (.seq (.reg (c_subgraph_Extract_r5 F) [2, 3, 4, 5, 8, 23, 24, 25]) (.block 0 (.loop [2, 3, 4, 5, 8, 23, 24, 25] (c_subgraph_Extract_b10 F)))) (.seq (.seq (.reg (c_subgraph_Extract_r11 F) [2, 3, 4, 5, 8, 41, 42, 43]) (.block 2 (.loop [2, 3, 4, 5, 8, 41, 42, 43] (c_subgraph_Extract_b19 F)))) (.seq (.dreg [(0, none, [], true), (3, none, [0], true), (5, (some 16), [3], false), (6, none, [0], false)] (c_subgraph_Extract_r20 F) [4, 5, 6]) .ret))))))
def h_subgraph_Extract : Hints := ⟨[], fun _ => [], tab [(0, [2, 3, 4, 5]), (1, [2, 3, 4, 5, 7]), (2, [2, 3, 4, 5, 7, 18]), (3, [4, 5, 6]), (4, [2, 3, 4, 5, 8]), (5, [2, 3, 4, 5, 8, 23, 24, 25]), (6, [2, 3, 4, 5, 8, 23, 24, 25, 26]), (7, [2, 3, 4, 5, 8, 10, 23, 24, 25]), (8, [2, 3, 4, 5, 8, 23, 24, 25]), (9, [2, 3, 4, 5, 8, 23, 24, 25]), (10, [2, 3, 4, 5, 8, 41, 42, 43]), (11, [2, 3, 4, 5, 8, 41, 42, 43, 44]), (12, [2, 3, 4, 5, 8, 12, 41, 42, 43]), (13, [2, 3, 4, 5, 8, 13, 41, 42, 43]), (14, [2, 3, 4, 5, 8, 13, 41, 42, 43]), (15, [2, 3, 4, 5, 8, 13, 41, 42, 43]), (16, [2, 3, 4, 5, 8, 41, 42, 43]), (17, [2, 3, 4, 5, 8, 41, 42, 43]), (18, [4, 5, 6])], tab [(6, [2, 3, 4, 5, 8, 23, 24, 25]), (11, [2, 3, 4, 5, 8, 41, 42, 43])]⟩

attribute [go_sem] c_subgraph_Extract_r0 c_subgraph_Extract_r1 c_subgraph_Extract_r2 c_subgraph_Extract_r3 c_subgraph_Extract_r4 c_subgraph_Extract_r5 c_subgraph_Extract_r6 c_subgraph_Extract_r7 c_subgraph_Extract_r8 c_subgraph_Extract_r9 c_subgraph_Extract_r11 c_subgraph_Extract_r12 c_subgraph_Extract_r13 c_subgraph_Extract_r14 c_subgraph_Extract_r15 c_subgraph_Extract_r16 c_subgraph_Extract_r17 c_subgraph_Extract_r18 c_subgraph_Extract_r20 c_subgraph_Extract
/-- The edges of a part, over its own nodes. -/
def exL (g : G) (pn pe : List Int) : List E := pe.map fun k => ⟨(gt g.e k).t, (cntB pn (gt g.e k).f : Int), (cntB pn (gt g.e k).o : Int)⟩
/-- The graph of a part. -/
def exG (g : G) (p : Mo) : G := ⟨thr p.n g.n, exL g p.n p.e⟩
def exR (g : G) (p : Mo) : G × Mo × Int := if validP g p ≠ 0 then (g0, m0, validP g p) else (exG g p, p, 0)
section
variable (P : Program) (F : String → Nat)
def K_subgraph_Extract : Prop := ∀ (g : G) (p : Mo), p.sm → FC P (F "subgraph.Extract") [gD g, mD p] (.tup [gA (exR g p).1, mA (exR g p).2.1, .int .i64 (exR g p).2.2]) []
end
section
variable {P : Program} {F : String → Nat} {α : Type}
theorem exL_len (g : G) (pn pe : List Int) : (exL g pn pe).length = pe.length := by simp [exL]
theorem exL_step {g : G} {pn pe : List Int} {i : Nat} (h : i < pe.length) : exL g pn (pe.take (i + 1)) = exL g pn (pe.take i) ++ [⟨(gt g.e (gt pe i)).t, (cntB pn (gt g.e (gt pe i)).f : Int), (cntB pn (gt g.e (gt pe i)).o : Int)⟩] := by
  rw [take_gt h]; simp [exL]
theorem w_subgraph_Extract (hv : K_subgraph_Valid P F) (hb : K_slices_BinarySearch_I P F) (hc : K_slices_Clone_I P F) (g : G) (p : Mo) (h1 : p.sm) : W P (c_subgraph_Extract F) (Done [.c 4 true 2, .c 5 true 2, .t 6] [] (.tup [gA (exR g p).1, mA (exR g p).2.1, .int .i64 (exR g p).2.2]) []) (init [gD g, mD p]) := by
  refine W_of ?_
  have r1 := hv g p h1.1 h1.2
  have hR : exR g p = if validP g p ≠ 0 then (g0, m0, validP g p) else (exG g p, p, 0) := rfl
  have h0 : validP g p = 0 → PK g p := fun h => validP_ok.1 h
  generalize validP g p = v at *
  rw [hR]
  clear hR
  obtain ⟨gn, ge⟩ := g
  obtain ⟨pn, pe⟩ := p
  simp only [gD, mD] at *
  simp (config := { maxSteps := 1000000 }) (disch := first | omega | (simp only [go_sem]; omega)) only [go_sem, ↓reduceIte]
  refine call_by r1 ?_
  simp (config := { maxSteps := 1000000 }) (disch := first | omega | (simp only [go_sem]; omega)) only [go_sem, ↓reduceIte]
  refine bran_ndec (fun c => ?_) (fun c => ?_)
  · simp (config := { maxSteps := 1000000 }) (disch := first | omega | (simp only [go_sem]; omega)) only [go_sem, ↓reduceIte]
    simp [c, mA, gA, m0, g0, ints, eds]
  have hk := h0 c
  have hl := hk.len
  have hs := valid_spec hk.v
  rw [if_neg (by simp [c])]
  clear h0 r1
  simp only [exG, gA, mA] at *
  have rb := fun x => hb pn x hk.n.p (by omega)
  simp (config := { maxSteps := 1000000 }) (disch := first | omega | (simp only [go_sem]; omega)) only [go_sem, ↓reduceIte]
  refine W_loop (fun i : Nat => ⟨[(2, .pt 0 0), (3, .pt 1 0), (4, .pt 4 0), (5, .pt 7 0), (8, .pt 10 0), (23, .lst 1 (ints pn)), (24, .int .i64 pn.length), (25, .int .i64 i)],
    [(0, .box [.lst 1 (ints gn), .lst 3 (eds ge)]), (1, .box [.lst 1 (ints pn), .lst 1 (ints pe)]), (2, .arr 1 []), (3, .arr 3 []), (4, .box [.sl 2 0 0, .sl 3 0 0]), (5, .arr 1 []), (6, .arr 1 []), (7, .box [.sl 5 0 0, .sl 6 0 0]),
     (8, .arr 1 (ints (thr (pn.take i) gn))), (9, .arr 3 []), (10, .box [.sl 8 0 i, .sl 9 0 0])], 11⟩) (fun i => i ≤ pn.length) (fun i => pn.length - i) 0 ?_ ?_ ?_
  · simp (config := { maxSteps := 1000000 }) (disch := first | omega | (simp only [go_sem]; omega)) only [go_sem, ↓reduceIte]
    rfl
  · simp
  · intro i hi
    have tl : (thr (pn.take i) gn).length = i := by rw [thr_len, List.length_take]; omega
    by_cases e : i < pn.length
    · have d1 : decide ((i : Int) < pn.length) = true := decide_eq_true (by omega)
      have hb1 := hk.n.b _ (gt_mem (l := pn) (j := (i : Int)) (by omega) (by omega))
      simp only at hb1
      have hst := thr_step (b := gn) e
      simp (config := { maxSteps := 1000000 }) (disch := first | omega | (simp only [go_sem]; omega)) only [go_sem, ↓reduceIte, c_subgraph_Extract_b10, d1, tl]
      exact ⟨i + 1, by simp [hst], by omega, by omega⟩
    · have d1 : decide ((i : Int) < pn.length) = false := decide_eq_false (by omega)
      obtain rfl : i = pn.length := by omega
      rw [List.take_length] at tl
      simp (config := { maxSteps := 1000000 }) (disch := first | omega | (simp only [go_sem]; omega)) only [go_sem, ↓reduceIte, c_subgraph_Extract_b10, d1, tl]
      refine W_loop (fun i : Nat => ⟨[(2, .pt 0 0), (3, .pt 1 0), (4, .pt 4 0), (5, .pt 7 0), (8, .pt 10 0), (41, .lst 1 (ints pe)), (42, .int .i64 pe.length), (43, .int .i64 i)],
        [(0, .box [.lst 1 (ints gn), .lst 3 (eds ge)]), (1, .box [.lst 1 (ints pn), .lst 1 (ints pe)]), (2, .arr 1 []), (3, .arr 3 []), (4, .box [.sl 2 0 0, .sl 3 0 0]), (5, .arr 1 []), (6, .arr 1 []), (7, .box [.sl 5 0 0, .sl 6 0 0]),
         (8, .arr 1 (ints (thr pn gn))), (9, .arr 3 (eds (exL ⟨gn, ge⟩ pn (pe.take i)))), (10, .box [.sl 8 0 pn.length, .sl 9 0 i])], 11⟩) (fun i => i ≤ pe.length) (fun i => pe.length - i) 0 ?_ ?_ ?_
      · simp (config := { maxSteps := 1000000 }) (disch := first | omega | (simp only [go_sem]; omega)) only [go_sem, ↓reduceIte]
        rfl
      · simp
      · intro i hi
        have el : (exL ⟨gn, ge⟩ pn (pe.take i)).length = i := by rw [exL_len, List.length_take]; omega
        by_cases e : i < pe.length
        · have d1 : decide ((i : Int) < pe.length) = true := decide_eq_true (by omega)
          have hb1 := hk.e.b _ (gt_mem (l := pe) (j := (i : Int)) (by omega) (by omega))
          simp only at hb1
          have hst := exL_step (g := ⟨gn, ge⟩) (pn := pn) e
          simp only at hst
          have rf := rb (gt ge (gt pe i)).f
          have ro := rb (gt ge (gt pe i)).o
          simp (config := { maxSteps := 1000000 }) (disch := first | omega | (simp only [go_sem]; omega)) only [go_sem, ↓reduceIte, c_subgraph_Extract_b19, d1, el]
          refine call_by rf ?_
          simp (config := { maxSteps := 1000000 }) (disch := first | omega | (simp only [go_sem]; omega)) only [go_sem, ↓reduceIte]
          refine call_by ro ?_
          simp (config := { maxSteps := 1000000 }) (disch := first | omega | (simp only [go_sem]; omega)) only [go_sem, ↓reduceIte, el]
          exact ⟨i + 1, by simp [hst], by omega, by omega⟩
        · have d1 : decide ((i : Int) < pe.length) = false := decide_eq_false (by omega)
          obtain rfl : i = pe.length := by omega
          rw [List.take_length] at el
          have rc1 := hc pn (by omega)
          have rc2 := hc pe (by omega)
          simp (config := { maxSteps := 1000000 }) (disch := first | omega | (simp only [go_sem]; omega)) only [go_sem, ↓reduceIte, c_subgraph_Extract_b19, d1, tl, el]
          refine call_by rc1 ?_
          simp (config := { maxSteps := 1000000 }) (disch := first | omega | (simp only [go_sem]; omega)) only [go_sem, ↓reduceIte]
          refine call_by rc2 ?_
          simp (config := { maxSteps := 1000000 }) (disch := first | omega | (simp only [go_sem]; omega)) only [go_sem, ↓reduceIte, tl, el]
          rfl
theorem asc_inj {l : List Int} (h : l.Pairwise (· < ·)) {i j : Nat} (hi : i < l.length) (hj : j < l.length) (e : gt l i = gt l j) : i = j := by
  rcases Nat.lt_trichotomy i j with c | c | c
  · have := pair_gt h c hj; omega
  · exact c
  · have := pair_gt h c hi; omega
theorem cntB_ix {l : List Int} (h : l.Pairwise (· < ·)) {i : Nat} (hi : i < l.length) : cntB l (gt l i) = i :=
  (cntB_eq h (Nat.le_of_lt hi) (fun k hk => pair_gt h hk hi) fun k hk hk2 => by
    by_cases e : i = k
    · rw [e]; omega
    · have := pair_gt h (i := i) (j := k) (by omega) hk2; omega).1
theorem cntB_in {l : List Int} (h : l.Pairwise (· < ·)) {x : Int} (hx : x ∈ l) : ∃ i : Nat, i < l.length ∧ cntB l x = i ∧ gt l i = x := by
  obtain ⟨i, h1, rfl⟩ := mem_gt hx
  exact ⟨i, h1, cntB_ix h h1, rfl⟩
theorem idx_asc {l : List Int} (h : l.Pairwise (· < ·)) {x : Int} (hx : x ∈ l) : idx (fun y => decide (x = y)) l 0 = cntB l x := by
  have hne : idx (fun y => decide (x = y)) l 0 ≠ -1 := fun e => by
    have := idx_none _ l 0 (by omega) e x hx
    simp at this
  obtain ⟨k, h1, h2, h3, _⟩ := idx_some _ l 0 hne
  have hk : x = gt l k := by simpa using h3
  rw [h1, hk, cntB_ix h h2]
  omega
theorem exL_gt {g : G} {pn pe : List Int} {i : Nat} (h : i < pe.length) : gt (exL g pn pe) i = ⟨(gt g.e (gt pe i)).t, (cntB pn (gt g.e (gt pe i)).f : Int), (cntB pn (gt g.e (gt pe i)).o : Int)⟩ := by
  rw [gt_nat (by rw [exL_len]; exact h), gt_nat h]
  simp [exL]
/-- The inclusion of a part is a morphism. -/
theorem ex_ok {g : G} {p : Mo} (h : PK g p) : MOk (exG g p) g p := by
  have hl := h.len
  have vs := valid_spec h.v
  have en : ∀ x ∈ p.n, ∃ i : Nat, i < p.n.length ∧ cntB p.n x = i ∧ gt p.n i = x := fun x hx => cntB_in h.n.p hx
  have ln : (exG g p).n.length = p.n.length := thr_len _ _
  have le : (exG g p).e.length = p.e.length := exL_len _ _ _
  refine ⟨valid_mk (by rw [ln]; omega) (by rw [le]; omega) (fun x hx => ?_) (fun x hx => ?_), h.v, ln.symm, le.symm, fun i hi => ?_, fun i hi => ?_⟩
  · obtain ⟨i, hi, rfl⟩ := mem_gt hx
    rw [ln] at hi
    have hb := h.n.b _ (gt_mem (l := p.n) (j := (i : Int)) (by omega) (by omega))
    simp only [exG]
    rw [thr_gt hi]
    exact vs.2.2.1 _ (gt_mem hb.1 hb.2)
  · obtain ⟨i, hi, rfl⟩ := mem_gt hx
    rw [le] at hi
    have hm := gt_mem (l := p.e) (j := (i : Int)) (by omega) (by omega)
    have hb := h.e.b _ hm
    obtain ⟨e1, e2, e3⟩ := edge_fits h.v hb
    obtain ⟨a, a1, a2, _⟩ := en _ (h.d _ hm).1
    obtain ⟨b, b1, b2, _⟩ := en _ (h.d _ hm).2
    rw [ln]
    simp only [exG]
    rw [exL_gt hi, a2, b2]
    exact fits_mk e1 (by simp only; omega) (by simp only; omega)
  · rw [ln] at hi
    have hb := h.n.b _ (gt_mem (l := p.n) (j := (i : Int)) (by omega) (by omega))
    refine ⟨hb, ?_⟩
    simp only [exG]
    rw [thr_gt hi]
  · rw [le] at hi
    have hm := gt_mem (l := p.e) (j := (i : Int)) (by omega) (by omega)
    have hb := h.e.b _ hm
    obtain ⟨a, a1, a2, a3⟩ := en _ (h.d _ hm).1
    obtain ⟨b, b1, b2, b3⟩ := en _ (h.d _ hm).2
    refine ⟨hb, ?_⟩
    simp only [exG]
    rw [exL_gt hi]
    simp only
    rw [a2, b2, a3, b3]
    exact ⟨trivial, rfl, rfl⟩
/-- What mediates is injective and onto, on one kind of elements. -/
theorem u_inj {U P K H Q : List Int} (u1 : thr P U = H) (u2 : thr K U = Q) (cv : ∀ j : Nat, j < U.length → (∃ i : Nat, i < P.length ∧ gt P i = j) ∨ ∃ i : Nat, i < K.length ∧ gt K i = j)
    (n1 : ∀ i j : Nat, i < P.length → j < P.length → gt H i = gt H j → gt P i = gt P j) (n2 : ∀ i j : Nat, i < P.length → j < K.length → gt H i = gt Q j → gt P i = gt K j) (n3 : ∀ i j : Nat, i < K.length → j < K.length → gt Q i = gt Q j → gt K i = gt K j) : U.Nodup := by
  subst u1 u2
  have e1 : ∀ i : Nat, i < P.length → gt (thr P U) i = gt U (gt P i) := fun i hi => thr_gt hi
  have e2 : ∀ i : Nat, i < K.length → gt (thr K U) i = gt U (gt K i) := fun i hi => thr_gt hi
  refine nodup_ix fun i j hi hj e => ?_
  have key : ((i : Int)) = j := by
    rcases cv i hi with ⟨a, a1, a2⟩ | ⟨a, a1, a2⟩ <;> rcases cv j hj with ⟨b, b1, b2⟩ | ⟨b, b1, b2⟩
    · rw [← a2, ← b2]; exact n1 a b a1 b1 (by rw [e1 a a1, e1 b b1, a2, b2, e])
    · rw [← a2, ← b2]; exact n2 a b a1 b1 (by rw [e1 a a1, e2 b b1, a2, b2, e])
    · rw [← a2, ← b2]; exact (n2 b a b1 a1 (by rw [e1 b b1, e2 a a1, a2, b2, e])).symm
    · rw [← a2, ← b2]; exact n3 a b a1 b1 (by rw [e2 a a1, e2 b b1, a2, b2, e])
  omega
theorem u_cov {U P K H Q : List Int} {n : Nat} (u1 : thr P U = H) (u2 : thr K U = Q) (hP : ∀ i : Nat, i < P.length → 0 ≤ gt P i ∧ gt P i < U.length) (hK : ∀ i : Nat, i < K.length → 0 ≤ gt K i ∧ gt K i < U.length)
    (cv : ∀ j : Nat, j < n → (∃ i : Nat, i < P.length ∧ gt H i = j) ∨ ∃ i : Nat, i < K.length ∧ gt Q i = j) : covers U n = true := by
  subst u1 u2
  refine covers_ix.2 fun j hj => ?_
  rcases cv j hj with ⟨a, a1, a2⟩ | ⟨a, a1, a2⟩
  · obtain ⟨k, h1, h2⟩ := gtI (hP a a1)
    rw [thr_gt a1, h2] at a2
    exact ⟨k, h1, a2⟩
  · obtain ⟨k, h1, h2⟩ := gtI (hK a a1)
    rw [thr_gt a1, h2] at a2
    exact ⟨k, h1, a2⟩
/-- A cocone that puts together no more than the standard pushout and covers its end is a pushout. -/
theorem SOk.chk_same {s : Sp} (hs : SOk s) {x : G} {h k : Mo} (hh : MOk s.b x h) (hk : MOk s.c x k) (e : thenM s.f h = thenM s.g k)
    (n1 : ∀ i j : Nat, i < s.b.n.length → j < s.b.n.length → gt h.n i = gt h.n j → gt (poP s).n i = gt (poP s).n j) (n2 : ∀ i j : Nat, i < s.b.n.length → j < s.c.n.length → gt h.n i = gt k.n j → gt (poP s).n i = gt (poK s).n j)
    (n3 : ∀ i j : Nat, i < s.c.n.length → j < s.c.n.length → gt k.n i = gt k.n j → gt (poK s).n i = gt (poK s).n j)
    (c1 : ∀ j : Nat, j < x.n.length → (∃ i : Nat, i < s.b.n.length ∧ gt h.n i = j) ∨ ∃ i : Nat, i < s.c.n.length ∧ gt k.n i = j)
    (m1 : ∀ i j : Nat, i < s.b.e.length → j < s.b.e.length → gt h.e i = gt h.e j → gt (poP s).e i = gt (poP s).e j) (m2 : ∀ i j : Nat, i < s.b.e.length → j < s.c.e.length → gt h.e i = gt k.e j → gt (poP s).e i = gt (poK s).e j)
    (m3 : ∀ i j : Nat, i < s.c.e.length → j < s.c.e.length → gt k.e i = gt k.e j → gt (poK s).e i = gt (poK s).e j)
    (c2 : ∀ j : Nat, j < x.e.length → (∃ i : Nat, i < s.b.e.length ∧ gt h.e i = j) ∨ ∃ i : Nat, i < s.c.e.length ∧ gt k.e i = j) : chkP s x h k = true := by
  obtain ⟨u, hu, u1, u2⟩ := hs.med hh hk e
  have := hs.chk_grown hu
  rw [u1, u2] at this
  rw [this]
  have v1 : thr (poP s).n u.n = h.n := by rw [← u1]; rfl
  have v2 : thr (poK s).n u.n = k.n := by rw [← u2]; rfl
  have w1 : thr (poP s).e u.e = h.e := by rw [← u1]; rfl
  have w2 : thr (poK s).e u.e = k.e := by rw [← u2]; rfl
  have l1 := hs.p.ln
  have l2 := hs.k.ln
  have l3 := hs.p.le
  have l4 := hs.k.le
  have l5 := hu.ln
  have l6 := hu.le
  rw [Bool.and_eq_true]
  refine ⟨(injM_ok hu).2 ⟨u_inj v1 v2 (by rw [l1, l2, l5]; exact fun j hj => hs.surN hj) (by rw [l1]; exact n1) (by rw [l1, l2]; exact n2) (by rw [l2]; exact n3),
      u_inj w1 w2 (by rw [l3, l4, l6]; exact fun j hj => hs.surE hj) (by rw [l3]; exact m1) (by rw [l3, l4]; exact m2) (by rw [l4]; exact m3)⟩,
    (surM_ok hu).2 ⟨u_cov v1 v2 (by rw [l1, l5]; exact fun i hi => (hs.p.nd i hi).1) (by rw [l2, l5]; exact fun i hi => (hs.k.nd i hi).1) (by rw [l1, l2]; exact c1),
      u_cov w1 w2 (by rw [l3, l6]; exact fun i hi => (hs.p.ed i hi).1) (by rw [l4, l6]; exact fun i hi => (hs.k.ed i hi).1) (by rw [l3, l4]; exact c2)⟩⟩
end
end Go.Am
