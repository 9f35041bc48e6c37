/- Graphs of parts. -/
/- Unions, intersections, images and boundaries of parts, plain. -/
/- Unions, intersections, images and preimages of parts: the walks. -/
/- The reference's Join and Meet; Preimage and Image. -/
/- Parts: deletion of numbers, intersections, images and preimages: the walks. -/
/- What inverses are; what the search finds. -/
/- Chapter 07: helpers of the laws; the laws Valid, Close, Join, Image, Adjoint, Extract, Boundary. -/
import Derived.Test.YtbpjoianghehmaaSpPa
import Derived.Test.YtbpjoianghehmaaSpPb
import Derived.Test.YtbpjoianghehmaaSpPc
import Derived.Test.YtbpjoianghehmaaSpXa
namespace Go.Am
open Go
set_option linter.unusedVariables false
set_option linter.unusedSimpArgs false
attribute [local irreducible] W
/- subgraph.Extract -/
def c_subgraph_Extract_r0 (F : String → Nat) : List LI := [⟨some 2, .bx (.t 0), none⟩,
  ⟨some 3, .bx (.t 1), none⟩,
  ⟨some 4, .alloc [.nl 1, .nl 3], none⟩,
  ⟨some 5, .alloc [.nl 1, .nl 1], none⟩,
  ⟨some 6, .mov (.k (.int .i64 (0))), none⟩]
def c_subgraph_Extract_r1 (F : String → Nat) : List LI := [⟨some 14, .load true 2 (.t 2), none⟩,
  ⟨some 15, .load true 2 (.t 3), none⟩,
  ⟨some 16, .call (F "subgraph.Valid") [.t 14, .t 15] [], none⟩,
  ⟨some 7, .mov (.t 16), none⟩]
def c_subgraph_Extract_r2 (F : String → Nat) : List LI := [⟨some 17, .mov (.t 7), none⟩,
  ⟨some 18, .bin .neq (.t 17) (.k (.int .i64 (0))), none⟩]
def c_subgraph_Extract_r3 (F : String → Nat) : List LI := [⟨some 19, .build [.nl 1, .nl 3] [], none⟩,
  ⟨some 20, .build [.nl 1, .nl 1] [], none⟩,
  ⟨some 21, .mov (.t 7), none⟩,
  ⟨none, .store 2 (.t 4) (.t 19), none⟩,
  ⟨none, .store 2 (.t 5) (.t 20), none⟩,
  ⟨some 6, .mov (.t 21), none⟩]
def c_subgraph_Extract_r4 (F : String → Nat) : List LI := [⟨some 8, .alloc [.nl 1, .nl 3], none⟩]
def c_subgraph_Extract_r5 (F : String → Nat) : List LI := [⟨some 22, .fad 0 (.t 3), none⟩,
  ⟨some 23, .load false 1 (.t 22), none⟩,
  ⟨some 24, .len (.t 23), none⟩,
  ⟨some 25, .mov (.k (.int .i64 (0))), none⟩]
def c_subgraph_Extract_r6 (F : String → Nat) : List LI := [⟨some 26, .bin .lss (.t 25) (.t 24), none⟩]
def c_subgraph_Extract_r7 (F : String → Nat) : List LI := [⟨some 27, .iad 1 (.t 23) (.t 25), none⟩,
  ⟨some 28, .load false 1 (.t 27), none⟩,
  ⟨some 10, .mov (.t 28), none⟩]
def c_subgraph_Extract_r8 (F : String → Nat) : List LI := [⟨some 29, .fad 0 (.t 8), none⟩,
  ⟨some 30, .load false 1 (.t 29), none⟩,
  ⟨some 31, .fad 0 (.t 2), none⟩,
  ⟨some 32, .load false 1 (.t 31), none⟩,
  ⟨some 33, .mov (.t 10), none⟩,
  ⟨some 34, .iad 1 (.t 32) (.t 33), none⟩,
  ⟨some 35, .load false 1 (.t 34), none⟩,
  ⟨some 36, .buildSl 1 8 (.int .i64 (0)) 1 [(0, .t 35)], none⟩,
  ⟨some 37, .app 1 8 (.t 30) (.t 36), none⟩,
  ⟨some 38, .fad 0 (.t 8), none⟩,
  ⟨none, .store 1 (.t 38) (.t 37), none⟩]
def c_subgraph_Extract_r9 (F : String → Nat) : List LI := [⟨some 39, .bin .add (.t 25) (.k (.int .i64 (1))), none⟩,
  ⟨some 25, .mov (.t 39), none⟩]
def c_subgraph_Extract_b10 (F : String → Nat) : LC := (.seq (.reg (c_subgraph_Extract_r6 F) [2, 3, 4, 5, 8, 23, 24, 25, 26]) (.seq (.cond (.t 26) .skip (.exit 0)) (.seq (.block 1 (.seq (.reg (c_subgraph_Extract_r7 F) [2, 3, 4, 5, 8, 10, 23, 24, 25]) (.dreg [(1, none, [], true), (7, none, [1], false)] (c_subgraph_Extract_r8 F) [2, 3, 4, 5, 8, 23, 24, 25]))) (.reg (c_subgraph_Extract_r9 F) [2, 3, 4, 5, 8, 23, 24, 25]))))
def c_subgraph_Extract_r11 (F : String → Nat) : List LI := [⟨some 40, .fad 1 (.t 3), none⟩,
  ⟨some 41, .load false 1 (.t 40), none⟩,
  ⟨some 42, .len (.t 41), none⟩,
  ⟨some 43, .mov (.k (.int .i64 (0))), none⟩]
def c_subgraph_Extract_r12 (F : String → Nat) : List LI := [⟨some 44, .bin .lss (.t 43) (.t 42), none⟩]
def c_subgraph_Extract_r13 (F : String → Nat) : List LI := [⟨some 45, .iad 1 (.t 41) (.t 43), none⟩,
  ⟨some 46, .load false 1 (.t 45), none⟩,
  ⟨some 12, .mov (.t 46), none⟩]
def c_subgraph_Extract_r14 (F : String → Nat) : List LI := [⟨some 47, .fad 1 (.t 2), none⟩,
  ⟨some 48, .load false 1 (.t 47), none⟩,
  ⟨some 49, .mov (.t 12), none⟩,
  ⟨some 50, .iad 3 (.t 48) (.t 49), none⟩,
  ⟨some 51, .load true 3 (.t 50), none⟩,
  ⟨some 13, .alloc [.int .i64 (0), .int .i64 (0), .int .i64 (0)], none⟩,
  ⟨none, .store 3 (.t 13) (.t 51), none⟩]
def c_subgraph_Extract_r15 (F : String → Nat) : List LI := [⟨some 53, .fad 0 (.t 3), none⟩,
  ⟨some 54, .load false 1 (.t 53), none⟩,
  ⟨some 55, .fad 1 (.t 13), none⟩,
  ⟨some 56, .load false 1 (.t 55), none⟩,
  ⟨some 57, .call (F "slices.BinarySearch.I") [.t 54, .t 56] [], none⟩,
  ⟨some 52, .mov (.t 57), none⟩,
  ⟨some 58, .ext (.t 52) 0, none⟩,
  ⟨some 59, .ext (.t 52) 1, none⟩,
  ⟨some 60, .fad 1 (.t 13), none⟩,
  ⟨none, .store 1 (.t 60) (.t 58), none⟩]
def c_subgraph_Extract_r16 (F : String → Nat) : List LI := [⟨some 62, .fad 0 (.t 3), none⟩,
  ⟨some 63, .load false 1 (.t 62), none⟩,
  ⟨some 64, .fad 2 (.t 13), none⟩,
  ⟨some 65, .load false 1 (.t 64), none⟩,
  ⟨some 66, .call (F "slices.BinarySearch.I") [.t 63, .t 65] [], none⟩,
  ⟨some 61, .mov (.t 66), none⟩,
  ⟨some 67, .ext (.t 61) 0, none⟩,
  ⟨some 68, .ext (.t 61) 1, none⟩,
  ⟨some 69, .fad 2 (.t 13), none⟩,
  ⟨none, .store 1 (.t 69) (.t 67), none⟩]
def c_subgraph_Extract_r17 (F : String → Nat) : List LI := [⟨some 70, .fad 1 (.t 8), none⟩,
  ⟨some 71, .load false 1 (.t 70), none⟩,
  ⟨some 72, .load true 3 (.t 13), none⟩,
  ⟨some 73, .buildSl 3 24 (.agg [.int .i64 (0), .int .i64 (0), .int .i64 (0)]) 1 [(0, .t 72)], none⟩,
  ⟨some 74, .app 3 24 (.t 71) (.t 73), none⟩,
  ⟨some 75, .fad 1 (.t 8), none⟩,
  ⟨none, .store 1 (.t 75) (.t 74), none⟩]
def c_subgraph_Extract_r18 (F : String → Nat) : List LI := [⟨some 76, .bin .add (.t 43) (.k (.int .i64 (1))), none⟩,
  ⟨some 43, .mov (.t 76), none⟩]
def c_subgraph_Extract_b19 (F : String → Nat) : LC := (.seq (.reg (c_subgraph_Extract_r12 F) [2, 3, 4, 5, 8, 41, 42, 43, 44]) (.seq (.cond (.t 44) .skip (.exit 2)) (.seq (.block 3 (.seq (.reg (c_subgraph_Extract_r13 F) [2, 3, 4, 5, 8, 12, 41, 42, 43]) (.seq (.reg (c_subgraph_Extract_r14 F) [2, 3, 4, 5, 8, 13, 41, 42, 43]) (.seq (.reg (c_subgraph_Extract_r15 F) [2, 3, 4, 5, 8, 13, 41, 42, 43]) (.seq (.reg (c_subgraph_Extract_r16 F) [2, 3, 4, 5, 8, 13, 41, 42, 43]) (.reg (c_subgraph_Extract_r17 F) [2, 3, 4, 5, 8, 41, 42, 43])))))) (.reg (c_subgraph_Extract_r18 F) [2, 3, 4, 5, 8, 41, 42, 43]))))
def c_subgraph_Extract_r20 (F : String → Nat) : List LI := [⟨some 77, .load true 2 (.t 8), none⟩,
  ⟨some 78, .fad 0 (.t 3), none⟩,
  ⟨some 79, .load false 1 (.t 78), none⟩,
  ⟨some 80, .call (F "slices.Clone.I") [.t 79] [], none⟩,
  ⟨some 81, .fad 1 (.t 3), none⟩,
  ⟨some 82, .load false 1 (.t 81), none⟩,
  ⟨some 83, .call (F "slices.Clone.I") [.t 82] [], none⟩,
  ⟨some 84, .build [.nl 1, .nl 1] [(0, 1, .t 80), (1, 1, .t 83)], none⟩,
  ⟨none, .store 2 (.t 4) (.t 77), none⟩,
  ⟨none, .store 2 (.t 5) (.t 84), none⟩,
  ⟨some 6, .mov (.k (.int .i64 (0))), none⟩]
def c_subgraph_Extract (F : String → Nat) : LC := (.seq (.reg (c_subgraph_Extract_r0 F) [2, 3, 4, 5]) (.seq (.seq (.reg (c_subgraph_Extract_r1 F) [2, 3, 4, 5, 7]) (.seq (.reg (c_subgraph_Extract_r2 F) [2, 3, 4, 5, 7, 18]) (.cond (.t 18) (.seq (.reg (c_subgraph_Extract_r3 F) [4, 5, 6]) .ret) .skip))) (.seq (.reg (c_subgraph_Extract_r4 F) [2, 3, 4, 5, 8]) (.seq (.seq (.reg (c_subgraph_Extract_r5 F) [2, 3, 4, 5, 8, 23, 24, 25]) (.block 0 (.loop [2, 3, 4, 5, 8, 23, 24, 25] (c_subgraph_Extract_b10 F)))) (.seq (.seq (.reg (c_subgraph_Extract_r11 F) [2, 3, 4, 5, 8, 41, 42, 43]) (.block 2 (.loop [2, 3, 4, 5, 8, 41, 42, 43] (c_subgraph_Extract_b19 F)))) (.seq (.dreg [(0, none, [], true), (3, none, [0], true), (5, (some 16), [3], false), (6, none, [0], false)] (c_subgraph_Extract_r20 F) [4, 5, 6]) .ret))))))
def h_subgraph_Extract : Hints := ⟨[], fun _ => [], tab [(0, [2, 3, 4, 5]), (1, [2, 3, 4, 5, 7]), (2, [2, 3, 4, 5, 7, 18]), (3, [4, 5, 6]), (4, [2, 3, 4, 5, 8]), (5, [2, 3, 4, 5, 8, 23, 24, 25]), (6, [2, 3, 4, 5, 8, 23, 24, 25, 26]), (7, [2, 3, 4, 5, 8, 10, 23, 24, 25]), (8, [2, 3, 4, 5, 8, 23, 24, 25]), (9, [2, 3, 4, 5, 8, 23, 24, 25]), (10, [2, 3, 4, 5, 8, 41, 42, 43]), (11, [2, 3, 4, 5, 8, 41, 42, 43, 44]), (12, [2, 3, 4, 5, 8, 12, 41, 42, 43]), (13, [2, 3, 4, 5, 8, 13, 41, 42, 43]), (14, [2, 3, 4, 5, 8, 13, 41, 42, 43]), (15, [2, 3, 4, 5, 8, 13, 41, 42, 43]), (16, [2, 3, 4, 5, 8, 41, 42, 43]), (17, [2, 3, 4, 5, 8, 41, 42, 43]), (18, [4, 5, 6])], tab [(6, [2, 3, 4, 5, 8, 23, 24, 25]), (11, [2, 3, 4, 5, 8, 41, 42, 43])]⟩

attribute [go_sem] c_subgraph_Extract_r0 c_subgraph_Extract_r1 c_subgraph_Extract_r2 c_subgraph_Extract_r3 c_subgraph_Extract_r4 c_subgraph_Extract_r5 c_subgraph_Extract_r6 c_subgraph_Extract_r7 c_subgraph_Extract_r8 c_subgraph_Extract_r9 c_subgraph_Extract_r11 c_subgraph_Extract_r12 c_subgraph_Extract_r13 c_subgraph_Extract_r14 c_subgraph_Extract_r15 c_subgraph_Extract_r16 c_subgraph_Extract_r17 c_subgraph_Extract_r18 c_subgraph_Extract_r20 c_subgraph_Extract
/-- The edges of a part, over its own nodes. -/
def exL (g : G) (pn pe : List Int) : List E := pe.map fun k => ⟨(gt g.e k).t, (cntB pn (gt g.e k).f : Int), (cntB pn (gt g.e k).o : Int)⟩
/-- The graph of a part. -/
def ptG (g : G) (p : Mo) : G := ⟨thr p.n g.n, exL g p.n p.e⟩
def exR (g : G) (p : Mo) : G × Mo × Int := if validP g p ≠ 0 then (g0, m0, validP g p) else (ptG g p, p, 0)
section
variable (P : Program) (F : String → Nat)
def K_subgraph_Extract : Prop := ∀ (g : G) (p : Mo), p.sm → FC P (F "subgraph.Extract") [gD g, mD p] (.tup [gA (exR g p).1, mA (exR g p).2.1, .int .i64 (exR g p).2.2]) []
end
section
variable {P : Program} {F : String → Nat} {α : Type}
theorem exL_len (g : G) (pn pe : List Int) : (exL g pn pe).length = pe.length := by simp [exL]
theorem exL_step {g : G} {pn pe : List Int} {i : Nat} (h : i < pe.length) : exL g pn (pe.take (i + 1)) = exL g pn (pe.take i) ++ [⟨(gt g.e (gt pe i)).t, (cntB pn (gt g.e (gt pe i)).f : Int), (cntB pn (gt g.e (gt pe i)).o : Int)⟩] := by
  rw [take_gt h]; simp [exL]
theorem w_subgraph_Extract (hv : K_subgraph_Valid P F) (hb : K_slices_BinarySearch_I P F) (hc : K_slices_Clone_I P F) (g : G) (p : Mo) (h1 : p.sm) : W P (c_subgraph_Extract F) (Done [.c 4 true 2, .c 5 true 2, .t 6] [] (.tup [gA (exR g p).1, mA (exR g p).2.1, .int .i64 (exR g p).2.2]) []) (init [gD g, mD p]) := by
  refine W_of ?_
  have r1 := hv g p h1.1 h1.2
  have hR : exR g p = if validP g p ≠ 0 then (g0, m0, validP g p) else (ptG g p, p, 0) := rfl
  have h0 : validP g p = 0 → PK g p := fun h => validP_ok.1 h
  generalize validP g p = v at *
  rw [hR]
  clear hR
  obtain ⟨gn, ge⟩ := g
  obtain ⟨pn, pe⟩ := p
  simp only [gD, mD] at *
  simp (config := { maxSteps := 1000000 }) (disch := first | omega | (simp only [go_sem]; omega)) only [go_sem, ↓reduceIte]
  refine call_by r1 ?_
  simp (config := { maxSteps := 1000000 }) (disch := first | omega | (simp only [go_sem]; omega)) only [go_sem, ↓reduceIte]
  refine bran_ndec (fun c => ?_) (fun c => ?_)
  · simp (config := { maxSteps := 1000000 }) (disch := first | omega | (simp only [go_sem]; omega)) only [go_sem, ↓reduceIte]
    simp [c, mA, gA, m0, g0, ints, eds]
  have hk := h0 c
  have hl := hk.len
  have hs := valid_spec hk.v
  rw [if_neg (by simp [c])]
  clear h0 r1
  simp only [ptG, gA, mA] at *
  have rb := fun x => hb pn x hk.n.p (by omega)
  simp (config := { maxSteps := 1000000 }) (disch := first | omega | (simp only [go_sem]; omega)) only [go_sem, ↓reduceIte]
  refine W_loop (fun i : Nat => ⟨[(2, .pt 0 0), (3, .pt 1 0), (4, .pt 4 0), (5, .pt 7 0), (8, .pt 10 0), (23, .lst 1 (ints pn)), (24, .int .i64 pn.length), (25, .int .i64 i)],
    [(0, .box [.lst 1 (ints gn), .lst 3 (eds ge)]), (1, .box [.lst 1 (ints pn), .lst 1 (ints pe)]), (2, .arr 1 []), (3, .arr 3 []), (4, .box [.sl 2 0 0, .sl 3 0 0]), (5, .arr 1 []), (6, .arr 1 []), (7, .box [.sl 5 0 0, .sl 6 0 0]),
     (8, .arr 1 (ints (thr (pn.take i) gn))), (9, .arr 3 []), (10, .box [.sl 8 0 i, .sl 9 0 0])], 11⟩) (fun i => i ≤ pn.length) (fun i => pn.length - i) 0 ?_ ?_ ?_
  · simp (config := { maxSteps := 1000000 }) (disch := first | omega | (simp only [go_sem]; omega)) only [go_sem, ↓reduceIte]
    rfl
  · simp
  · intro i hi
    have tl : (thr (pn.take i) gn).length = i := by rw [thr_len, List.length_take]; omega
    by_cases e : i < pn.length
    · have d1 : decide ((i : Int) < pn.length) = true := decide_eq_true (by omega)
      have hb1 := hk.n.b _ (gt_mem (l := pn) (j := (i : Int)) (by omega) (by omega))
      simp only at hb1
      have hst := thr_step (b := gn) e
      simp (config := { maxSteps := 1000000 }) (disch := first | omega | (simp only [go_sem]; omega)) only [go_sem, ↓reduceIte, c_subgraph_Extract_b10, d1, tl]
      exact ⟨i + 1, by simp [hst], by omega, by omega⟩
    · have d1 : decide ((i : Int) < pn.length) = false := decide_eq_false (by omega)
      obtain rfl : i = pn.length := by omega
      rw [List.take_length] at tl
      simp (config := { maxSteps := 1000000 }) (disch := first | omega | (simp only [go_sem]; omega)) only [go_sem, ↓reduceIte, c_subgraph_Extract_b10, d1, tl]
      refine W_loop (fun i : Nat => ⟨[(2, .pt 0 0), (3, .pt 1 0), (4, .pt 4 0), (5, .pt 7 0), (8, .pt 10 0), (41, .lst 1 (ints pe)), (42, .int .i64 pe.length), (43, .int .i64 i)],
        [(0, .box [.lst 1 (ints gn), .lst 3 (eds ge)]), (1, .box [.lst 1 (ints pn), .lst 1 (ints pe)]), (2, .arr 1 []), (3, .arr 3 []), (4, .box [.sl 2 0 0, .sl 3 0 0]), (5, .arr 1 []), (6, .arr 1 []), (7, .box [.sl 5 0 0, .sl 6 0 0]),
         (8, .arr 1 (ints (thr pn gn))), (9, .arr 3 (eds (exL ⟨gn, ge⟩ pn (pe.take i)))), (10, .box [.sl 8 0 pn.length, .sl 9 0 i])], 11⟩) (fun i => i ≤ pe.length) (fun i => pe.length - i) 0 ?_ ?_ ?_
      · simp (config := { maxSteps := 1000000 }) (disch := first | omega | (simp only [go_sem]; omega)) only [go_sem, ↓reduceIte]
        rfl
      · simp
      · intro i hi
        have el : (exL ⟨gn, ge⟩ pn (pe.take i)).length = i := by rw [exL_len, List.length_take]; omega
        by_cases e : i < pe.length
        · have d1 : decide ((i : Int) < pe.length) = true := decide_eq_true (by omega)
          have hb1 := hk.e.b _ (gt_mem (l := pe) (j := (i : Int)) (by omega) (by omega))
          simp only at hb1
          have hst := exL_step (g := ⟨gn, ge⟩) (pn := pn) e
          simp only at hst
          have rf := rb (gt ge (gt pe i)).f
          have ro := rb (gt ge (gt pe i)).o
          simp (config := { maxSteps := 1000000 }) (disch := first | omega | (simp only [go_sem]; omega)) only [go_sem, ↓reduceIte, c_subgraph_Extract_b19, d1, el]
          refine call_by rf ?_
          simp (config := { maxSteps := 1000000 }) (disch := first | omega | (simp only [go_sem]; omega)) only [go_sem, ↓reduceIte]
          refine call_by ro ?_
          simp (config := { maxSteps := 1000000 }) (disch := first | omega | (simp only [go_sem]; omega)) only [go_sem, ↓reduceIte, el]
          exact ⟨i + 1, by simp [hst], by omega, by omega⟩
        · have d1 : decide ((i : Int) < pe.length) = false := decide_eq_false (by omega)
          obtain rfl : i = pe.length := by omega
          rw [List.take_length] at el
          have rc1 := hc pn (by omega)
          have rc2 := hc pe (by omega)
          simp (config := { maxSteps := 1000000 }) (disch := first | omega | (simp only [go_sem]; omega)) only [go_sem, ↓reduceIte, c_subgraph_Extract_b19, d1, tl, el]
          refine call_by rc1 ?_
          simp (config := { maxSteps := 1000000 }) (disch := first | omega | (simp only [go_sem]; omega)) only [go_sem, ↓reduceIte]
          refine call_by rc2 ?_
          simp (config := { maxSteps := 1000000 }) (disch := first | omega | (simp only [go_sem]; omega)) only [go_sem, ↓reduceIte, tl, el]
          rfl
theorem cntB_ix {l : List Int} (h : l.Pairwise (· < ·)) {i : Nat} (hi : i < l.length) : cntB l (gt l i) = i :=
  (cntB_eq h (Nat.le_of_lt hi) (fun k hk => pair_gt h hk hi) fun k hk hk2 => by
    by_cases e : i = k
    · rw [e]; omega
    · have := pair_gt h (i := i) (j := k) (by omega) hk2; omega).1
theorem cntB_in {l : List Int} (h : l.Pairwise (· < ·)) {x : Int} (hx : x ∈ l) : ∃ i : Nat, i < l.length ∧ cntB l x = i ∧ gt l i = x := by
  obtain ⟨i, h1, rfl⟩ := mem_gt hx
  exact ⟨i, h1, cntB_ix h h1, rfl⟩
theorem exL_gt {g : G} {pn pe : List Int} {i : Nat} (h : i < pe.length) : gt (exL g pn pe) i = ⟨(gt g.e (gt pe i)).t, (cntB pn (gt g.e (gt pe i)).f : Int), (cntB pn (gt g.e (gt pe i)).o : Int)⟩ := by
  rw [gt_nat (by rw [exL_len]; exact h), gt_nat h]
  simp [exL]
/-- The inclusion of a part is a morphism. -/
theorem ex_ok {g : G} {p : Mo} (h : PK g p) : MOk (ptG g p) g p := by
  have hl := h.len
  have vs := valid_spec h.v
  have en : ∀ x ∈ p.n, ∃ i : Nat, i < p.n.length ∧ cntB p.n x = i ∧ gt p.n i = x := fun x hx => cntB_in h.n.p hx
  have ln : (ptG g p).n.length = p.n.length := thr_len _ _
  have le : (ptG g p).e.length = p.e.length := exL_len _ _ _
  refine ⟨valid_mk (by rw [ln]; omega) (by rw [le]; omega) (fun x hx => ?_) (fun x hx => ?_), h.v, ln.symm, le.symm, fun i hi => ?_, fun i hi => ?_⟩
  · obtain ⟨i, hi, rfl⟩ := mem_gt hx
    rw [ln] at hi
    have hb := h.n.b _ (gt_mem (l := p.n) (j := (i : Int)) (by omega) (by omega))
    simp only [ptG]
    rw [thr_gt hi]
    exact vs.2.2.1 _ (gt_mem hb.1 hb.2)
  · obtain ⟨i, hi, rfl⟩ := mem_gt hx
    rw [le] at hi
    have hm := gt_mem (l := p.e) (j := (i : Int)) (by omega) (by omega)
    have hb := h.e.b _ hm
    obtain ⟨e1, e2, e3⟩ := edge_fits h.v hb
    obtain ⟨a, a1, a2, _⟩ := en _ (h.d _ hm).1
    obtain ⟨b, b1, b2, _⟩ := en _ (h.d _ hm).2
    rw [ln]
    simp only [ptG]
    rw [exL_gt hi, a2, b2]
    exact fits_mk e1 (by simp only; omega) (by simp only; omega)
  · rw [ln] at hi
    have hb := h.n.b _ (gt_mem (l := p.n) (j := (i : Int)) (by omega) (by omega))
    refine ⟨hb, ?_⟩
    simp only [ptG]
    rw [thr_gt hi]
  · rw [le] at hi
    have hm := gt_mem (l := p.e) (j := (i : Int)) (by omega) (by omega)
    have hb := h.e.b _ hm
    obtain ⟨a, a1, a2, a3⟩ := en _ (h.d _ hm).1
    obtain ⟨b, b1, b2, b3⟩ := en _ (h.d _ hm).2
    refine ⟨hb, ?_⟩
    simp only [ptG]
    rw [exL_gt hi]
    simp only
    rw [a2, b2, a3, b3]
    exact ⟨trivial, rfl, rfl⟩
end
end Go.Am
namespace Go.Am
open Go
set_option linter.unusedVariables false
set_option linter.unusedSimpArgs false
def imR (a b : G) (m : Mo) : Mo × Int := if validM a b m ≠ 0 then (m0, validM a b m) else (⟨imgs m.n, imgs m.e⟩, 0)
def preE (a b : G) (m p : Mo) : Int := if validM a b m ≠ 0 then validM a b m else rightP b p
def preR (a b : G) (m p : Mo) : Mo × Int := if preE a b m p ≠ 0 then (m0, preE a b m p) else (⟨intoL m.n p.n, intoL m.e p.e⟩, 0)
section
theorem into_mem {l p : List Int} {k : Nat} : (k : Int) ∈ intoL l p ↔ k < l.length ∧ gt l k ∈ p := by
  unfold intoL
  rw [sel_memN]
  simp
theorem into_len {l p : List Int} : (intoL l p).length = l.length ↔ ∀ x ∈ l, x ∈ p := by
  constructor
  · intro h x hx
    obtain ⟨i, hi, rfl⟩ := mem_gt hx
    refine Decidable.byContradiction fun hn => ?_
    have key : ∀ n : Nat, i < n → (sel (fun i : Nat => decide (gt l i ∈ p)) n).length < n := fun n => by
      induction n with
      | zero => intro h; omega
      | succ n ih =>
        intro hin
        have hle := sel_len (fun i : Nat => decide (gt l i ∈ p)) n
        rw [sel_succ]
        by_cases e : i = n
        · subst e
          rw [if_neg (by simpa using hn)]
          omega
        · have := ih (by omega)
          split
          · rw [List.length_append]; simp only [List.length_cons, List.length_nil]; omega
          · omega
    have := key l.length hi
    unfold intoL at h
    omega
  · exact into_full
theorem inP_iff {p q : Mo} : inP p q = true ↔ (∀ x ∈ p.n, x ∈ q.n) ∧ ∀ x ∈ p.e, x ∈ q.e := by
  unfold inP
  rw [Bool.and_eq_true, decide_eq_true_eq, decide_eq_true_eq, ← into_len, ← into_len]
  omega
/-- The image of a part lies in another one exactly if the part lies in the preimage. -/
theorem adjoint {x : Cx} {a b : Mo} (hm : MOk x.l x.g x.m) (ha : PK x.l a) : inP ⟨imgs (thr a.n x.m.n), imgs (thr a.e x.m.e)⟩ b = inP a ⟨intoL x.m.n b.n, intoL x.m.e b.e⟩ := by
  rw [Bool.eq_iff_iff, inP_iff, inP_iff]
  simp only
  have key : ∀ {p im q : List Int} {n : Nat}, AscL p n → im.length = n → ((∀ y ∈ imgs (thr p im), y ∈ q) ↔ ∀ y ∈ p, y ∈ intoL im q) := fun {p im q n} hp hl => by
    constructor
    · intro h y hy
      obtain ⟨k, rfl⟩ : ∃ k : Nat, y = (k : Int) := ⟨y.toNat, by have := hp.b y hy; omega⟩
      refine into_mem.2 ⟨by have := hp.b _ hy; omega, h _ (imgs_mem.2 ?_)⟩
      exact List.mem_map.2 ⟨_, hy, rfl⟩
    · intro h y hy
      obtain ⟨z, hz, rfl⟩ := List.mem_map.1 (imgs_mem.1 hy)
      obtain ⟨k, rfl⟩ : ∃ k : Nat, z = (k : Int) := ⟨z.toNat, by have := hp.b z hz; omega⟩
      exact (into_mem.1 (h _ hz)).2
  rw [key ha.n hm.ln, key ha.e hm.le]
end
end Go.Am
namespace Go.Am
open Go
set_option linter.unusedVariables false
set_option linter.unusedSimpArgs false
attribute [local irreducible] W
/- subgraph.back -/
def c_subgraph_back_r0 (F : String → Nat) : List LI := [⟨some 4, .mov (.k (.nl 1)), none⟩]
def c_subgraph_back_r1 (F : String → Nat) : List LI := [⟨some 5, .mov (.k (.nl 1)), none⟩]
def c_subgraph_back_r2 (F : String → Nat) : List LI := [⟨some 8, .mov (.t 0), none⟩,
  ⟨some 9, .len (.t 8), none⟩,
  ⟨some 10, .mov (.k (.int .i64 (0))), none⟩]
def c_subgraph_back_r3 (F : String → Nat) : List LI := [⟨some 11, .bin .lss (.t 10) (.t 9), none⟩]
def c_subgraph_back_r4 (F : String → Nat) : List LI := [⟨some 12, .mov (.t 10), none⟩,
  ⟨some 13, .iad 1 (.t 8) (.t 10), none⟩,
  ⟨some 14, .load false 1 (.t 13), none⟩,
  ⟨some 6, .mov (.t 12), none⟩,
  ⟨some 7, .mov (.t 14), none⟩]
def c_subgraph_back_r5 (F : String → Nat) : List LI := [⟨some 15, .mov (.t 1), none⟩,
  ⟨some 16, .mov (.t 7), none⟩,
  ⟨some 17, .call (F "subgraph.has") [.t 15, .t 16] [], none⟩]
def c_subgraph_back_r6 (F : String → Nat) : List LI := [⟨some 18, .mov (.t 5), none⟩,
  ⟨some 19, .mov (.t 6), none⟩,
  ⟨some 20, .buildSl 1 8 (.int .i64 (0)) 1 [(0, .t 19)], none⟩,
  ⟨some 21, .app 1 8 (.t 18) (.t 20), none⟩,
  ⟨some 5, .mov (.t 21), none⟩]
def c_subgraph_back_r7 (F : String → Nat) : List LI := [⟨some 22, .bin .add (.t 10) (.k (.int .i64 (1))), none⟩,
  ⟨some 10, .mov (.t 22), none⟩]
def c_subgraph_back_b8 (F : String → Nat) : LC := (.seq (.reg (c_subgraph_back_r3 F) [1, 5, 8, 9, 10, 11]) (.seq (.cond (.t 11) .skip (.exit 0)) (.seq (.block 1 (.seq (.reg (c_subgraph_back_r4 F) [1, 5, 6, 7, 8, 9, 10]) (.seq (.reg (c_subgraph_back_r5 F) [1, 5, 6, 8, 9, 10, 17]) (.cond (.t 17) (.reg (c_subgraph_back_r6 F) [1, 5, 8, 9, 10]) .skip)))) (.reg (c_subgraph_back_r7 F) [1, 5, 8, 9, 10]))))
def c_subgraph_back_r9 (F : String → Nat) : List LI := [⟨some 23, .mov (.t 5), none⟩,
  ⟨some 4, .mov (.t 23), none⟩]
def c_subgraph_back (F : String → Nat) : LC := (.seq (.reg (c_subgraph_back_r0 F) [0, 1]) (.seq (.reg (c_subgraph_back_r1 F) [0, 1, 5]) (.seq (.seq (.reg (c_subgraph_back_r2 F) [1, 5, 8, 9, 10]) (.block 0 (.loop [1, 5, 8, 9, 10] (c_subgraph_back_b8 F)))) (.seq (.reg (c_subgraph_back_r9 F) [4]) .ret))))
def h_subgraph_back : Hints := ⟨[], fun _ => [], tab [(0, [0, 1]), (1, [0, 1, 5]), (2, [1, 5, 8, 9, 10]), (3, [1, 5, 8, 9, 10, 11]), (4, [1, 5, 6, 7, 8, 9, 10]), (5, [1, 5, 6, 8, 9, 10, 17]), (6, [1, 5, 8, 9, 10]), (7, [1, 5, 8, 9, 10]), (8, [4])], tab [(3, [1, 5, 8, 9, 10])]⟩

attribute [go_sem] c_subgraph_back_r0 c_subgraph_back_r1 c_subgraph_back_r2 c_subgraph_back_r3 c_subgraph_back_r4 c_subgraph_back_r5 c_subgraph_back_r6 c_subgraph_back_r7 c_subgraph_back_r9 c_subgraph_back
section
variable (P : Program) (F : String → Nat)
def K_subgraph_back : Prop := ∀ (l p : List Int), l.length ≤ 10000 → p.Pairwise (· < ·) → p.length ≤ 1000000 → FC P (F "subgraph.back") [.lst 1 (ints l), .lst 1 (ints p)] (.arr 1 (ints (intoL l p))) []
end
section
variable {P : Program} {F : String → Nat} {α : Type}
theorem w_subgraph_back (hh : K_subgraph_has P F) (l p : List Int) (hl : l.length ≤ 10000) (hp : p.Pairwise (· < ·)) (hp2 : p.length ≤ 1000000) : W P (c_subgraph_back F) (Done [.t 4] [] (.arr 1 (ints (intoL l p))) []) (init [.lst 1 (ints l), .lst 1 (ints p)]) := by
  refine W_of ?_
  have ss := sel_succ (fun i : Nat => decide (gt l i ∈ p))
  have s0 := sel_zero (fun i : Nat => decide (gt l i ∈ p))
  have sl := sel_len (fun i : Nat => decide (gt l i ∈ p))
  have rh := fun x => hh p x hp hp2
  unfold intoL
  generalize sel (fun i : Nat => decide (gt l i ∈ p)) = S at *
  simp (config := { maxSteps := 1000000 }) (disch := first | omega | (simp only [go_sem]; omega)) only [go_sem, ↓reduceIte]
  refine W_loop (fun i : Nat => ⟨[(1, .lst 1 (ints p)), (5, .sl 0 0 (S i).length), (8, .lst 1 (ints l)), (9, .int .i64 l.length), (10, .int .i64 i)], [(0, .arr 1 (ints (S i)))], 1⟩) (fun i => i ≤ l.length) (fun i => l.length - i) 0 ?_ ?_ ?_
  · simp (config := { maxSteps := 1000000 }) (disch := first | omega | (simp only [go_sem]; omega)) only [go_sem, ↓reduceIte, s0]
    rfl
  · simp
  · intro i hi
    have hl2 := sl i
    by_cases c : i < l.length
    · have d1 : decide ((i : Int) < l.length) = true := decide_eq_true (by omega)
      have r1 := rh (gt l i)
      have st := ss i
      generalize decide (gt l i ∈ p) = u at *
      simp (config := { maxSteps := 1000000 }) (disch := first | omega | (simp only [go_sem]; omega)) only [go_sem, ↓reduceIte, c_subgraph_back_b8, d1]
      refine call_by r1 ?_
      cases u
      all_goals
        simp only [if_true, if_false, Bool.false_eq_true] at st
        simp (config := { maxSteps := 1000000 }) (disch := first | omega | (simp only [go_sem]; omega)) only [go_sem, ↓reduceIte]
        exact ⟨i + 1, by simp [st], by omega, by omega⟩
    · have d1 : decide ((i : Int) < l.length) = false := decide_eq_false (by omega)
      obtain rfl : i = l.length := by omega
      simp (config := { maxSteps := 1000000 }) (disch := first | omega | (simp only [go_sem]; omega)) only [go_sem, ↓reduceIte, c_subgraph_back_b8, d1]
end
end Go.Am
namespace Go.Am
open Go
set_option linter.unusedVariables false
set_option linter.unusedSimpArgs false
attribute [local irreducible] W
/- subgraph.Preimage -/
def c_subgraph_Preimage_r0 (F : String → Nat) : List LI := [⟨some 4, .bx (.t 0), none⟩,
  ⟨some 5, .bx (.t 1), none⟩,
  ⟨some 6, .bx (.t 2), none⟩,
  ⟨some 7, .bx (.t 3), none⟩,
  ⟨some 8, .alloc [.nl 1, .nl 1], none⟩,
  ⟨some 9, .mov (.k (.int .i64 (0))), none⟩]
def c_subgraph_Preimage_r1 (F : String → Nat) : List LI := [⟨some 12, .load true 2 (.t 4), none⟩,
  ⟨some 13, .load true 2 (.t 5), none⟩,
  ⟨some 14, .load true 2 (.t 6), none⟩,
  ⟨some 15, .call (F "morphism.Valid") [.t 12, .t 13, .t 14] [], none⟩,
  ⟨some 10, .mov (.t 15), none⟩]
def c_subgraph_Preimage_r2 (F : String → Nat) : List LI := [⟨some 16, .mov (.t 10), none⟩,
  ⟨some 17, .bin .neq (.t 16) (.k (.int .i64 (0))), none⟩]
def c_subgraph_Preimage_r3 (F : String → Nat) : List LI := [⟨some 18, .build [.nl 1, .nl 1] [], none⟩,
  ⟨some 19, .mov (.t 10), none⟩,
  ⟨none, .store 2 (.t 8) (.t 18), none⟩,
  ⟨some 9, .mov (.t 19), none⟩]
def c_subgraph_Preimage_r4 (F : String → Nat) : List LI := [⟨some 20, .load true 2 (.t 5), none⟩,
  ⟨some 21, .load true 2 (.t 7), none⟩,
  ⟨some 22, .call (F "subgraph.part") [.t 20, .t 21] [], none⟩,
  ⟨some 11, .mov (.t 22), none⟩]
def c_subgraph_Preimage_r5 (F : String → Nat) : List LI := [⟨some 23, .mov (.t 11), none⟩,
  ⟨some 24, .bin .neq (.t 23) (.k (.int .i64 (0))), none⟩]
def c_subgraph_Preimage_r6 (F : String → Nat) : List LI := [⟨some 25, .build [.nl 1, .nl 1] [], none⟩,
  ⟨some 26, .mov (.t 11), none⟩,
  ⟨none, .store 2 (.t 8) (.t 25), none⟩,
  ⟨some 9, .mov (.t 26), none⟩]
def c_subgraph_Preimage_r7 (F : String → Nat) : List LI := [⟨some 27, .fad 0 (.t 6), none⟩,
  ⟨some 28, .load false 1 (.t 27), none⟩,
  ⟨some 29, .fad 0 (.t 7), none⟩,
  ⟨some 30, .load false 1 (.t 29), none⟩,
  ⟨some 31, .call (F "subgraph.back") [.t 28, .t 30] [], none⟩,
  ⟨some 32, .fad 1 (.t 6), none⟩,
  ⟨some 33, .load false 1 (.t 32), none⟩,
  ⟨some 34, .fad 1 (.t 7), none⟩,
  ⟨some 35, .load false 1 (.t 34), none⟩,
  ⟨some 36, .call (F "subgraph.back") [.t 33, .t 35] [], none⟩,
  ⟨some 37, .build [.nl 1, .nl 1] [(0, 1, .t 31), (1, 1, .t 36)], none⟩,
  ⟨none, .store 2 (.t 8) (.t 37), none⟩,
  ⟨some 9, .mov (.k (.int .i64 (0))), none⟩]
def c_subgraph_Preimage (F : String → Nat) : LC := (.seq (.reg (c_subgraph_Preimage_r0 F) [4, 5, 6, 7, 8]) (.seq (.seq (.reg (c_subgraph_Preimage_r1 F) [5, 6, 7, 8, 10]) (.seq (.reg (c_subgraph_Preimage_r2 F) [5, 6, 7, 8, 10, 17]) (.cond (.t 17) (.seq (.reg (c_subgraph_Preimage_r3 F) [8, 9]) .ret) .skip))) (.seq (.seq (.reg (c_subgraph_Preimage_r4 F) [6, 7, 8, 11]) (.seq (.reg (c_subgraph_Preimage_r5 F) [6, 7, 8, 11, 24]) (.cond (.t 24) (.seq (.reg (c_subgraph_Preimage_r6 F) [8, 9]) .ret) .skip))) (.seq (.dreg [(4, none, [], true), (6, (some 32), [4], false), (8, (some 128), [4], false)] (c_subgraph_Preimage_r7 F) [8, 9]) .ret))))
def h_subgraph_Preimage : Hints := ⟨[], fun _ => [], tab [(0, [4, 5, 6, 7, 8]), (1, [5, 6, 7, 8, 10]), (2, [5, 6, 7, 8, 10, 17]), (3, [8, 9]), (4, [6, 7, 8, 11]), (5, [6, 7, 8, 11, 24]), (6, [8, 9]), (7, [8, 9])], tab []⟩

/- subgraph.Image -/
def c_subgraph_Image_r0 (F : String → Nat) : List LI := [⟨some 3, .bx (.t 0), none⟩,
  ⟨some 4, .bx (.t 1), none⟩,
  ⟨some 5, .bx (.t 2), none⟩,
  ⟨some 6, .alloc [.nl 1, .nl 1], none⟩,
  ⟨some 7, .mov (.k (.int .i64 (0))), none⟩]
def c_subgraph_Image_r1 (F : String → Nat) : List LI := [⟨some 9, .load true 2 (.t 3), none⟩,
  ⟨some 10, .load true 2 (.t 4), none⟩,
  ⟨some 11, .load true 2 (.t 5), none⟩,
  ⟨some 12, .call (F "morphism.Valid") [.t 9, .t 10, .t 11] [], none⟩,
  ⟨some 8, .mov (.t 12), none⟩]
def c_subgraph_Image_r2 (F : String → Nat) : List LI := [⟨some 13, .mov (.t 8), none⟩,
  ⟨some 14, .bin .neq (.t 13) (.k (.int .i64 (0))), none⟩]
def c_subgraph_Image_r3 (F : String → Nat) : List LI := [⟨some 15, .build [.nl 1, .nl 1] [], none⟩,
  ⟨some 16, .mov (.t 8), none⟩,
  ⟨none, .store 2 (.t 6) (.t 15), none⟩,
  ⟨some 7, .mov (.t 16), none⟩]
def c_subgraph_Image_r4 (F : String → Nat) : List LI := [⟨some 17, .fad 0 (.t 5), none⟩,
  ⟨some 18, .load false 1 (.t 17), none⟩,
  ⟨some 19, .call (F "slices.Clone.I") [.t 18] [], none⟩,
  ⟨some 20, .call (F "subgraph.sorted") [.t 19] [.ow], none⟩,
  ⟨some 21, .fad 1 (.t 5), none⟩,
  ⟨some 22, .load false 1 (.t 21), none⟩,
  ⟨some 23, .call (F "slices.Clone.I") [.t 22] [], none⟩,
  ⟨some 24, .call (F "subgraph.sorted") [.t 23] [.ow], none⟩,
  ⟨some 25, .build [.nl 1, .nl 1] [(0, 1, .t 20), (1, 1, .t 24)], none⟩,
  ⟨none, .store 2 (.t 6) (.t 25), none⟩,
  ⟨some 7, .mov (.k (.int .i64 (0))), none⟩]
def c_subgraph_Image (F : String → Nat) : LC := (.seq (.reg (c_subgraph_Image_r0 F) [3, 4, 5, 6]) (.seq (.seq (.reg (c_subgraph_Image_r1 F) [5, 6, 8]) (.seq (.reg (c_subgraph_Image_r2 F) [5, 6, 8, 14]) (.cond (.t 14) (.seq (.reg (c_subgraph_Image_r3 F) [6, 7]) .ret) .skip))) (.seq (.dreg [(2, none, [], true), (3, none, [], true), (5, (some 16), [2, 3], false)] (c_subgraph_Image_r4 F) [6, 7]) .ret)))
def h_subgraph_Image : Hints := ⟨[], fun _ => [], tab [(0, [3, 4, 5, 6]), (1, [5, 6, 8]), (2, [5, 6, 8, 14]), (3, [6, 7]), (4, [6, 7])], tab []⟩

attribute [go_sem] c_subgraph_Preimage_r0 c_subgraph_Preimage_r1 c_subgraph_Preimage_r2 c_subgraph_Preimage_r3 c_subgraph_Preimage_r4 c_subgraph_Preimage_r5 c_subgraph_Preimage_r6 c_subgraph_Preimage_r7 c_subgraph_Preimage c_subgraph_Image_r0 c_subgraph_Image_r1 c_subgraph_Image_r2 c_subgraph_Image_r3 c_subgraph_Image_r4 c_subgraph_Image
section
variable (P : Program) (F : String → Nat)
def K_subgraph_Preimage : Prop := ∀ (a b : G) (m p : Mo), p.sm → FC P (F "subgraph.Preimage") [gD a, gD b, mD m, mD p] (.tup [mA (preR a b m p).1, .int .i64 (preR a b m p).2]) []
def K_subgraph_Image : Prop := ∀ (a b : G) (m : Mo), FC P (F "subgraph.Image") [gD a, gD b, mD m] (.tup [mA (imR a b m).1, .int .i64 (imR a b m).2]) []
end
section
variable {P : Program} {F : String → Nat} {α : Type}
theorem w_subgraph_Preimage (hv : K_morphism_Valid P F) (hp : K_subgraph_part P F) (hb : K_subgraph_back P F) (a b : G) (m p : Mo) (h1 : p.sm) : W P (c_subgraph_Preimage F) (Done [.c 8 true 2, .t 9] [] (.tup [mA (preR a b m p).1, .int .i64 (preR a b m p).2]) []) (init [gD a, gD b, mD m, mD p]) := by
  refine W_of ?_
  have r1 := hv a b m
  have hR : preR a b m p = if preE a b m p ≠ 0 then (m0, preE a b m p) else (⟨intoL m.n p.n, intoL m.e p.e⟩, 0) := rfl
  have hE : preE a b m p = if validM a b m ≠ 0 then validM a b m else rightP b p := rfl
  by_cases c : validM a b m = 0
  case neg =>
    rw [if_pos c] at hE
    rw [hR, hE]
    clear hR hE
    generalize validM a b m = v at *
    simp only [gD, mD] at *
    simp (config := { maxSteps := 1000000 }) (disch := first | omega | (simp only [go_sem]; omega)) only [go_sem, ↓reduceIte]
    refine call_by r1 ?_
    simp (config := { maxSteps := 1000000 }) (disch := first | omega | (simp only [go_sem]; omega)) only [go_sem, ↓reduceIte]
    refine bran_ndec (fun c1 => ?_) (fun c1 => absurd c1 c)
    simp (config := { maxSteps := 1000000 }) (disch := first | omega | (simp only [go_sem]; omega)) only [go_sem, ↓reduceIte]
    simp [c, mA, m0, ints]
  rw [if_neg (by simp [c])] at hE
  rw [hR, hE]
  clear hR hE
  have hm := mok.1 c
  have r2 := hp b p hm.vb h1.1 h1.2
  have va := valid_spec hm.va
  have hk : rightP b p = 0 → PK b p := fun h => (validP_ok (g := b) (p := p)).1 (by unfold validP; rw [if_neg (by rw [hm.vb]; simp)]; exact h)
  have r3 : rightP b p = 0 → _ := fun h => hb m.n p.n (by have := hm.ln; omega) (hk h).n.p (by have := (hk h).len; omega)
  have r4 : rightP b p = 0 → _ := fun h => hb m.e p.e (by have := hm.le; omega) (hk h).e.p (by have := (hk h).len; omega)
  clear hk va hm
  generalize validM a b m = v0 at *
  generalize rightP b p = v at *
  generalize intoL m.n p.n = y1 at *
  generalize intoL m.e p.e = y2 at *
  simp only [gD, mD] at *
  simp (config := { maxSteps := 1000000 }) (disch := first | omega | (simp only [go_sem]; omega)) only [go_sem, ↓reduceIte]
  refine call_by r1 ?_
  simp (config := { maxSteps := 1000000 }) (disch := first | omega | (simp only [go_sem]; omega)) only [go_sem, ↓reduceIte]
  refine bran_ndec (fun c1 => absurd c c1) (fun _ => ?_)
  simp (config := { maxSteps := 1000000 }) (disch := first | omega | (simp only [go_sem]; omega)) only [go_sem, ↓reduceIte]
  refine call_by r2 ?_
  simp (config := { maxSteps := 1000000 }) (disch := first | omega | (simp only [go_sem]; omega)) only [go_sem, ↓reduceIte]
  refine bran_ndec (fun c1 => ?_) (fun c1 => ?_)
  · simp (config := { maxSteps := 1000000 }) (disch := first | omega | (simp only [go_sem]; omega)) only [go_sem, ↓reduceIte]
    simp [c1, mA, m0, ints]
  · have r3 := r3 c1
    have r4 := r4 c1
    simp (config := { maxSteps := 1000000 }) (disch := first | omega | (simp only [go_sem]; omega)) only [go_sem, ↓reduceIte]
    refine call_by r3 ?_
    simp (config := { maxSteps := 1000000 }) (disch := first | omega | (simp only [go_sem]; omega)) only [go_sem, ↓reduceIte]
    refine call_by r4 ?_
    simp (config := { maxSteps := 1000000 }) (disch := first | omega | (simp only [go_sem]; omega)) only [go_sem, ↓reduceIte]
    simp [c1, mA]
end
end Go.Am
namespace Go.Am
open Go
set_option linter.unusedVariables false
set_option linter.unusedSimpArgs false
attribute [local irreducible] W
section
variable (P : Program) (F : String → Nat)
end
section
variable {P : Program} {F : String → Nat} {α : Type}
theorem w_subgraph_Image (hv : K_morphism_Valid P F) (hc : K_slices_Clone_I P F) (hs : K_subgraph_sorted P F) (a b : G) (m : Mo) : W P (c_subgraph_Image F) (Done [.c 6 true 2, .t 7] [] (.tup [mA (imR a b m).1, .int .i64 (imR a b m).2]) []) (init [gD a, gD b, mD m]) := by
  refine W_of ?_
  have r1 := hv a b m
  have hR : imR a b m = if validM a b m ≠ 0 then (m0, validM a b m) else (⟨imgs m.n, imgs m.e⟩, 0) := rfl
  have hl : validM a b m = 0 → _ := fun h => validM_len h
  generalize validM a b m = v at *
  rw [hR]
  clear hR
  obtain ⟨mn, me⟩ := m
  simp only [gD, mD, mA, m0] at *
  simp (config := { maxSteps := 1000000 }) (disch := first | omega | (simp only [go_sem]; omega)) only [go_sem, ↓reduceIte]
  refine call_by r1 ?_
  simp (config := { maxSteps := 1000000 }) (disch := first | omega | (simp only [go_sem]; omega)) only [go_sem, ↓reduceIte]
  refine bran_ndec (fun c => ?_) (fun c => ?_)
  · simp (config := { maxSteps := 1000000 }) (disch := first | omega | (simp only [go_sem]; omega)) only [go_sem, ↓reduceIte]
    simp [c, mA, m0, ints]
  · have l := hl c
    have r2 := hc mn (by omega)
    have r3 := hs mn (by unfold maxL; omega)
    have r4 := hc me (by omega)
    have r5 := hs me (by unfold maxL; omega)
    rw [if_neg (by simp [c])]
    generalize imgs mn = y1 at *
    generalize imgs me = y2 at *
    simp (config := { maxSteps := 1000000 }) (disch := first | omega | (simp only [go_sem]; omega)) only [go_sem, ↓reduceIte]
    refine call_by r2 ?_
    simp (config := { maxSteps := 1000000 }) (disch := first | omega | (simp only [go_sem]; omega)) only [go_sem, ↓reduceIte]
    refine call_by r3 ?_
    simp (config := { maxSteps := 1000000 }) (disch := first | omega | (simp only [go_sem]; omega)) only [go_sem, ↓reduceIte]
    refine call_by r4 ?_
    simp (config := { maxSteps := 1000000 }) (disch := first | omega | (simp only [go_sem]; omega)) only [go_sem, ↓reduceIte]
    refine call_by r5 ?_
    simp (config := { maxSteps := 1000000 }) (disch := first | omega | (simp only [go_sem]; omega)) only [go_sem, ↓reduceIte]
    try rfl
end
end Go.Am
namespace Go.Am
open Go
set_option linter.unusedVariables false
set_option linter.unusedSimpArgs false
section
theorem comM_ok {a b c : G} {m n : Mo} (hm : MOk a b m) (hn : MOk b c n) : comM a b c m n = (thenM m n, 0) := by
  unfold comM
  rw [if_neg (by rw [mok.2 hm]; simp), if_neg (by rw [mok.2 hn]; simp)]
end
end Go.Am
namespace Go.Am
open Go
set_option linter.unusedVariables false
set_option linter.unusedSimpArgs false
attribute [local irreducible] W
/- l07.Arrow.small -/
def c_l07_Arrow_small_r0 (F : String → Nat) : List LI := [⟨some 1, .bx (.t 0), none⟩,
  ⟨some 2, .mov (.k (.bool false)), none⟩]
def c_l07_Arrow_small_r1 (F : String → Nat) : List LI := [⟨some 3, .fad 0 (.t 1), none⟩,
  ⟨some 4, .load true 2 (.t 3), none⟩,
  ⟨some 5, .call (F "r05.Few") [.t 4] [], none⟩,
  ⟨some 6, .mov (.t 5), none⟩,
  ⟨some 7, .fad 2 (.t 1), some (6, true)⟩,
  ⟨some 8, .load true 2 (.t 7), some (6, true)⟩,
  ⟨some 9, .call (F "r05.Few") [.t 8] [], some (6, true)⟩,
  ⟨some 10, .pick (.t 6) (.t 9) (.k (.bool false)), none⟩,
  ⟨some 11, .mov (.t 10), none⟩,
  ⟨some 12, .fad 4 (.t 1), some (11, true)⟩,
  ⟨some 13, .load true 2 (.t 12), some (11, true)⟩,
  ⟨some 14, .call (F "r06.Few") [.t 13, .k (.int .i64 (150))] [], some (11, true)⟩,
  ⟨some 15, .pick (.t 11) (.t 14) (.k (.bool false)), none⟩,
  ⟨some 2, .mov (.t 15), none⟩]
def c_l07_Arrow_small (F : String → Nat) : LC := (.seq (.reg (c_l07_Arrow_small_r0 F) [1]) (.seq (.reg (c_l07_Arrow_small_r1 F) [2]) .ret))
def h_l07_Arrow_small : Hints := ⟨[], fun _ => [], tab [(0, [1]), (1, [2])], tab []⟩

/- l07.SubgraphAdjoint -/
def c_l07_SubgraphAdjoint_r0 (F : String → Nat) : List LI := [⟨some 3, .bx (.t 0), none⟩,
  ⟨some 6, .mov (.k (.bool false)), none⟩]
def c_l07_SubgraphAdjoint_r1 (F : String → Nat) : List LI := [⟨some 18, .call (F "l07.awake") [] [], none⟩,
  ⟨some 19, .not (.t 18), none⟩,
  ⟨some 20, .mov (.t 19), none⟩,
  ⟨some 21, .load true 6 (.t 3), some (20, false)⟩,
  ⟨some 22, .call (F "l07.Arrow.small") [.t 21] [], some (20, false)⟩,
  ⟨some 23, .not (.t 22), some (20, false)⟩,
  ⟨some 24, .pick (.t 20) (.k (.bool true)) (.t 23), none⟩,
  ⟨some 25, .mov (.t 24), none⟩,
  ⟨some 26, .fad 0 (.t 3), some (25, false)⟩,
  ⟨some 27, .load true 2 (.t 26), some (25, false)⟩,
  ⟨some 28, .fad 2 (.t 3), some (25, false)⟩,
  ⟨some 29, .load true 2 (.t 28), some (25, false)⟩,
  ⟨some 30, .fad 4 (.t 3), some (25, false)⟩,
  ⟨some 31, .load true 2 (.t 30), some (25, false)⟩,
  ⟨some 32, .call (F "r06.Valid") [.t 27, .t 29, .t 31] [], some (25, false)⟩,
  ⟨some 33, .bin .neq (.t 32) (.k (.int .i64 (0))), some (25, false)⟩,
  ⟨some 34, .pick (.t 25) (.k (.bool true)) (.t 33), none⟩]
def c_l07_SubgraphAdjoint_r2 (F : String → Nat) : List LI := [⟨some 35, .call (F "l07.awake") [] [], none⟩,
  ⟨some 6, .mov (.t 35), none⟩]
def c_l07_SubgraphAdjoint_r3 (F : String → Nat) : List LI := [⟨some 36, .fad 0 (.t 3), none⟩,
  ⟨some 37, .load true 2 (.t 36), none⟩,
  ⟨some 38, .mov (.t 1), none⟩,
  ⟨some 39, .call (F "r07.Made") [.t 37, .t 38] [], none⟩,
  ⟨some 40, .fad 2 (.t 3), none⟩,
  ⟨some 41, .load true 2 (.t 40), none⟩,
  ⟨some 42, .mov (.t 2), none⟩,
  ⟨some 43, .call (F "r07.Made") [.t 41, .t 42] [], none⟩,
  ⟨some 7, .alloc [.nl 1, .nl 1], none⟩,
  ⟨some 8, .alloc [.nl 1, .nl 1], none⟩,
  ⟨none, .store 2 (.t 7) (.t 39), none⟩,
  ⟨none, .store 2 (.t 8) (.t 43), none⟩]
def c_l07_SubgraphAdjoint_r4 (F : String → Nat) : List LI := [⟨some 45, .fad 0 (.t 3), none⟩,
  ⟨some 46, .load true 2 (.t 45), none⟩,
  ⟨some 47, .load true 2 (.t 7), none⟩,
  ⟨some 48, .call (F "subgraph.Extract") [.t 46, .t 47] [], none⟩,
  ⟨some 44, .mov (.t 48), none⟩,
  ⟨some 49, .ext (.t 44) 0, none⟩,
  ⟨some 50, .ext (.t 44) 1, none⟩,
  ⟨some 51, .ext (.t 44) 2, none⟩,
  ⟨some 9, .alloc [.nl 1, .nl 3], none⟩,
  ⟨some 10, .alloc [.nl 1, .nl 1], none⟩,
  ⟨none, .store 2 (.t 9) (.t 49), none⟩,
  ⟨none, .store 2 (.t 10) (.t 50), none⟩,
  ⟨some 11, .mov (.t 51), none⟩]
def c_l07_SubgraphAdjoint_r5 (F : String → Nat) : List LI := [⟨some 52, .mov (.t 11), none⟩,
  ⟨some 53, .bin .neq (.t 52) (.k (.int .i64 (0))), none⟩]
def c_l07_SubgraphAdjoint_r6 (F : String → Nat) : List LI := [⟨some 6, .mov (.k (.bool false)), none⟩]
def c_l07_SubgraphAdjoint_r7 (F : String → Nat) : List LI := [⟨some 55, .load true 2 (.t 9), none⟩,
  ⟨some 56, .fad 0 (.t 3), none⟩,
  ⟨some 57, .load true 2 (.t 56), none⟩,
  ⟨some 58, .fad 2 (.t 3), none⟩,
  ⟨some 59, .load true 2 (.t 58), none⟩,
  ⟨some 60, .load true 2 (.t 10), none⟩,
  ⟨some 61, .fad 4 (.t 3), none⟩,
  ⟨some 62, .load true 2 (.t 61), none⟩,
  ⟨some 63, .call (F "r06.Compose") [.t 55, .t 57, .t 59, .t 60, .t 62] [], none⟩,
  ⟨some 54, .mov (.t 63), none⟩,
  ⟨some 64, .ext (.t 54) 0, none⟩,
  ⟨some 65, .ext (.t 54) 1, none⟩,
  ⟨some 12, .alloc [.nl 1, .nl 1], none⟩,
  ⟨none, .store 2 (.t 12) (.t 64), none⟩,
  ⟨some 13, .mov (.t 65), none⟩]
def c_l07_SubgraphAdjoint_r8 (F : String → Nat) : List LI := [⟨some 67, .load true 2 (.t 9), none⟩,
  ⟨some 68, .fad 2 (.t 3), none⟩,
  ⟨some 69, .load true 2 (.t 68), none⟩,
  ⟨some 70, .load true 2 (.t 12), none⟩,
  ⟨some 71, .call (F "subgraph.Image") [.t 67, .t 69, .t 70] [], none⟩,
  ⟨some 66, .mov (.t 71), none⟩,
  ⟨some 72, .ext (.t 66) 0, none⟩,
  ⟨some 73, .ext (.t 66) 1, none⟩,
  ⟨some 14, .alloc [.nl 1, .nl 1], none⟩,
  ⟨none, .store 2 (.t 14) (.t 72), none⟩,
  ⟨some 15, .mov (.t 73), none⟩]
def c_l07_SubgraphAdjoint_r9 (F : String → Nat) : List LI := [⟨some 75, .fad 0 (.t 3), none⟩,
  ⟨some 76, .load true 2 (.t 75), none⟩,
  ⟨some 77, .fad 2 (.t 3), none⟩,
  ⟨some 78, .load true 2 (.t 77), none⟩,
  ⟨some 79, .fad 4 (.t 3), none⟩,
  ⟨some 80, .load true 2 (.t 79), none⟩,
  ⟨some 81, .load true 2 (.t 8), none⟩,
  ⟨some 82, .call (F "subgraph.Preimage") [.t 76, .t 78, .t 80, .t 81] [], none⟩,
  ⟨some 74, .mov (.t 82), none⟩,
  ⟨some 83, .ext (.t 74) 0, none⟩,
  ⟨some 84, .ext (.t 74) 1, none⟩,
  ⟨some 16, .alloc [.nl 1, .nl 1], none⟩,
  ⟨none, .store 2 (.t 16) (.t 83), none⟩,
  ⟨some 17, .mov (.t 84), none⟩]
def c_l07_SubgraphAdjoint_r10 (F : String → Nat) : List LI := [⟨some 85, .mov (.t 13), none⟩,
  ⟨some 86, .bin .eql (.t 85) (.k (.int .i64 (0))), none⟩,
  ⟨some 87, .mov (.t 86), none⟩,
  ⟨some 88, .mov (.t 15), some (87, true)⟩,
  ⟨some 89, .bin .eql (.t 88) (.k (.int .i64 (0))), some (87, true)⟩,
  ⟨some 90, .pick (.t 87) (.t 89) (.k (.bool false)), none⟩,
  ⟨some 91, .mov (.t 90), none⟩,
  ⟨some 92, .mov (.t 17), some (91, true)⟩,
  ⟨some 93, .bin .eql (.t 92) (.k (.int .i64 (0))), some (91, true)⟩,
  ⟨some 94, .pick (.t 91) (.t 93) (.k (.bool false)), none⟩,
  ⟨some 95, .mov (.t 94), none⟩,
  ⟨some 96, .load true 2 (.t 14), some (95, true)⟩,
  ⟨some 97, .load true 2 (.t 8), some (95, true)⟩,
  ⟨some 98, .call (F "r07.In") [.t 96, .t 97] [], some (95, true)⟩,
  ⟨some 99, .load true 2 (.t 7), some (95, true)⟩,
  ⟨some 100, .load true 2 (.t 16), some (95, true)⟩,
  ⟨some 101, .call (F "r07.In") [.t 99, .t 100] [], some (95, true)⟩,
  ⟨some 102, .eqB false (.t 98) (.t 101), some (95, true)⟩,
  ⟨some 103, .pick (.t 95) (.t 102) (.k (.bool false)), none⟩,
  ⟨some 6, .mov (.t 103), none⟩]
def c_l07_SubgraphAdjoint (F : String → Nat) : LC := (.seq (.reg (c_l07_SubgraphAdjoint_r0 F) [1, 2, 3]) (.seq (.seq (.reg (c_l07_SubgraphAdjoint_r1 F) [1, 2, 3, 34]) (.cond (.t 34) (.seq (.reg (c_l07_SubgraphAdjoint_r2 F) [6]) .ret) .skip)) (.seq (.dreg [(3, none, [], true), (5, (some 16), [3], false)] (c_l07_SubgraphAdjoint_r3 F) [3, 7, 8]) (.seq (.reg (c_l07_SubgraphAdjoint_r4 F) [3, 7, 8, 9, 10, 11]) (.seq (.seq (.reg (c_l07_SubgraphAdjoint_r5 F) [3, 7, 8, 9, 10, 53]) (.cond (.t 53) (.seq (.reg (c_l07_SubgraphAdjoint_r6 F) [6]) .ret) .skip)) (.seq (.reg (c_l07_SubgraphAdjoint_r7 F) [3, 7, 8, 9, 12, 13]) (.seq (.reg (c_l07_SubgraphAdjoint_r8 F) [3, 7, 8, 13, 14, 15]) (.seq (.reg (c_l07_SubgraphAdjoint_r9 F) [7, 8, 13, 14, 15, 16, 17]) (.seq (.dreg [(13, none, [], true), (14, (some 2047), [13], false), (15, (some 2047), [13], false)] (c_l07_SubgraphAdjoint_r10 F) [6]) .ret)))))))))
def h_l07_SubgraphAdjoint : Hints := ⟨[], fun _ => [], tab [(0, [1, 2, 3]), (1, [1, 2, 3, 34]), (2, [6]), (3, [3, 7, 8]), (4, [3, 7, 8, 9, 10, 11]), (5, [3, 7, 8, 9, 10, 53]), (6, [6]), (7, [3, 7, 8, 9, 12, 13]), (8, [3, 7, 8, 13, 14, 15]), (9, [7, 8, 13, 14, 15, 16, 17]), (10, [6])], tab []⟩

attribute [go_sem] c_l07_Arrow_small_r0 c_l07_Arrow_small_r1 c_l07_Arrow_small c_l07_SubgraphAdjoint_r0 c_l07_SubgraphAdjoint_r1 c_l07_SubgraphAdjoint_r2 c_l07_SubgraphAdjoint_r3 c_l07_SubgraphAdjoint_r4 c_l07_SubgraphAdjoint_r5 c_l07_SubgraphAdjoint_r6 c_l07_SubgraphAdjoint_r7 c_l07_SubgraphAdjoint_r8 c_l07_SubgraphAdjoint_r9 c_l07_SubgraphAdjoint_r10 c_l07_SubgraphAdjoint
/-- A morphism with its graphs. -/
structure Ar where
  a : G
  b : G
  m : Mo
def arD (x : Ar) : D := .agg [.lst 1 (ints x.a.n), .lst 3 (eds x.a.e), .lst 1 (ints x.b.n), .lst 3 (eds x.b.e), .lst 1 (ints x.m.n), .lst 1 (ints x.m.e)]
def fewAr (x : Ar) : Bool := few x.a && (few x.b && fewM x.m 150)
section
variable (P : Program) (F : String → Nat)
def K_l07_Arrow_small : Prop := ∀ x : Ar, x.m.sm → FC P (F "l07.Arrow.small") [arD x] (.bool (fewAr x)) []
def K_l07_SubgraphAdjoint : Prop := ∀ (x : Ar) (s t : Int), x.m.sm → FC P (F "l07.SubgraphAdjoint") [arD x, .int .u64 s, .int .u64 t] (.bool true) []
end
section
variable {P : Program} {F : String → Nat} {α : Type}
theorem w_l07_Arrow_small (hg : K_r05_Few P F) (hm : K_r06_Few P F) (x : Ar) (h : x.m.sm) : W P (c_l07_Arrow_small F) (Done [.t 2] [] (.bool (fewAr x)) []) (init [arD x]) := by
  refine W_of ?_
  have r1 := hg x.a
  have r2 := hg x.b
  have r3 := hm x.m 150 h.1 h.2
  have e : fewAr x = (few x.a && (few x.b && fewM x.m 150)) := rfl
  rw [e]
  generalize few x.a = b1 at *
  generalize few x.b = b2 at *
  generalize fewM x.m 150 = b3 at *
  simp only [gD, mD, arD] at *
  cases b1
  · simp (config := { maxSteps := 1000000 }) (disch := first | omega | (simp only [go_sem]; omega)) only [go_sem, ↓reduceIte]
    refine call_by r1 ?_
    simp (config := { maxSteps := 1000000 }) (disch := first | omega | (simp only [go_sem]; omega)) only [go_sem, ↓reduceIte]
    try simp
  cases b2
  · simp (config := { maxSteps := 1000000 }) (disch := first | omega | (simp only [go_sem]; omega)) only [go_sem, ↓reduceIte]
    refine call_by r1 ?_
    simp (config := { maxSteps := 1000000 }) (disch := first | omega | (simp only [go_sem]; omega)) only [go_sem, ↓reduceIte]
    refine call_by r2 ?_
    simp (config := { maxSteps := 1000000 }) (disch := first | omega | (simp only [go_sem]; omega)) only [go_sem, ↓reduceIte]
    try simp
  · simp (config := { maxSteps := 1000000 }) (disch := first | omega | (simp only [go_sem]; omega)) only [go_sem, ↓reduceIte]
    refine call_by r1 ?_
    simp (config := { maxSteps := 1000000 }) (disch := first | omega | (simp only [go_sem]; omega)) only [go_sem, ↓reduceIte]
    refine call_by r2 ?_
    simp (config := { maxSteps := 1000000 }) (disch := first | omega | (simp only [go_sem]; omega)) only [go_sem, ↓reduceIte]
    refine call_by r3 ?_
    simp (config := { maxSteps := 1000000 }) (disch := first | omega | (simp only [go_sem]; omega)) only [go_sem, ↓reduceIte]
    try simp
set_option maxHeartbeats 2000000 in
theorem w_l07_SubgraphAdjoint (hw : K_l07_awake P F) (hf : K_l07_Arrow_small P F) (hv : K_r06_Valid P F) (hm : K_r07_Made P F) (he : K_subgraph_Extract P F) (hc : K_r06_Compose P F) (h1 : K_subgraph_Image P F) (h3 : K_subgraph_Preimage P F) (hi : K_r07_In P F)
    (x : Ar) (s t : Int) (hx : x.m.sm) : W P (c_l07_SubgraphAdjoint F) (Done [.t 6] [] (.bool true) []) (init [arD x, .int .u64 s, .int .u64 t]) := by
  refine W_of ?_
  have r1 := hf x hx
  cases c : fewAr x
  · rw [c] at r1
    simp only [arD] at *
    simp (config := { maxSteps := 1000000 }) (disch := first | omega | (simp only [go_sem]; omega)) only [go_sem, ↓reduceIte]
    refine call_by hw ?_
    simp (config := { maxSteps := 1000000 }) (disch := first | omega | (simp only [go_sem]; omega)) only [go_sem, ↓reduceIte]
    refine call_by r1 ?_
    simp (config := { maxSteps := 1000000 }) (disch := first | omega | (simp only [go_sem]; omega)) only [go_sem, ↓reduceIte]
    refine call_by hw ?_
    simp (config := { maxSteps := 1000000 }) (disch := first | omega | (simp only [go_sem]; omega)) only [go_sem, ↓reduceIte]
  rw [c] at r1
  have r2 := hv x.a x.b x.m
  by_cases d : validM x.a x.b x.m = 0
  case neg =>
    clear c
    generalize validM x.a x.b x.m = v at *
    simp only [arD, gD, mD] at *
    simp (config := { maxSteps := 1000000 }) (disch := first | omega | (simp only [go_sem]; omega)) only [go_sem, ↓reduceIte]
    refine call_by hw ?_
    simp (config := { maxSteps := 1000000 }) (disch := first | omega | (simp only [go_sem]; omega)) only [go_sem, ↓reduceIte]
    refine call_by r1 ?_
    simp (config := { maxSteps := 1000000 }) (disch := first | omega | (simp only [go_sem]; omega)) only [go_sem, ↓reduceIte]
    refine call_by r2 ?_
    simp (config := { maxSteps := 1000000 }) (disch := first | omega | (simp only [go_sem]; omega)) only [go_sem, ↓reduceIte, d]
    refine call_by hw ?_
    simp (config := { maxSteps := 1000000 }) (disch := first | omega | (simp only [go_sem]; omega)) only [go_sem, ↓reduceIte]
  have hM := mok.1 d
  have ka := partP_ok (s := s) hM.va
  have kb := partP_ok (s := t) hM.vb
  have r3 := hm x.a s hM.va
  have r4 := hm x.b t hM.vb
  generalize partP x.a s = p at *
  generalize partP x.b t = q at *
  have r5 := he x.a p ka.sm
  have hE : exR x.a p = (ptG x.a p, p, 0) := by unfold exR; rw [if_neg (by simp [validP_ok.2 ka])]
  rw [hE] at r5
  have hin := ex_ok ka
  have hth := then_okP hin hM
  have r6 := hc (ptG x.a p) x.a x.b p x.m
  rw [comM_ok hin hM] at r6
  have r7 := h1 (ptG x.a p) x.b (thenM p x.m)
  have hI : imR (ptG x.a p) x.b (thenM p x.m) = (⟨imgs (thr p.n x.m.n), imgs (thr p.e x.m.e)⟩, 0) := by
    unfold imR
    rw [if_neg (by simp [mok.2 hth])]
    rfl
  rw [hI] at r7
  have r8 := h3 x.a x.b x.m q kb.sm
  have hP : preR x.a x.b x.m q = (⟨intoL x.m.n q.n, intoL x.m.e q.e⟩, 0) := by
    have : rightP x.b q = 0 := by
      have := validP_ok.2 kb
      unfold validP at this
      rw [if_neg (by simp [hM.vb])] at this
      exact this
    unfold preR
    rw [show preE x.a x.b x.m q = 0 by unfold preE; rw [if_neg (by simp [d]), this]]
    rw [if_neg (by simp)]
  rw [hP] at r8
  have hadj := adjoint (x := ⟨x.a, x.b, p, x.m⟩) (b := q) hM ka
  simp only at hadj
  have la := ka.len
  have lt1 : (thr p.n x.m.n).length = p.n.length := thr_len _ _
  have lt2 : (thr p.e x.m.e).length = p.e.length := thr_len _ _
  have li1 := imgs_len (thr p.n x.m.n)
  have li2 := imgs_len (thr p.e x.m.e)
  have r9 := hi ⟨imgs (thr p.n x.m.n), imgs (thr p.e x.m.e)⟩ q (by simp only; omega) (by simp only; omega) kb.sm
  have ln1 : (intoL x.m.n q.n).length ≤ x.m.n.length := sel_len _ _
  have ln2 : (intoL x.m.e q.e).length ≤ x.m.e.length := sel_len _ _
  have lm := validM_len d
  have r10 := hi p ⟨intoL x.m.n q.n, intoL x.m.e q.e⟩ (by omega) (by omega) ⟨by simp only; unfold maxL; omega, by simp only; unfold maxL; omega⟩
  rw [hadj] at r9
  rw [d] at r2
  clear hadj la lt1 lt2 li1 li2 ln1 ln2 lm hP hI hth hin hE ka kb hM d c
  generalize inP p ⟨intoL x.m.n q.n, intoL x.m.e q.e⟩ = bb at *
  generalize intoL x.m.n q.n = y1 at *
  generalize intoL x.m.e q.e = y2 at *
  generalize imgs (thr p.n x.m.n) = y3 at *
  generalize imgs (thr p.e x.m.e) = y4 at *
  generalize ptG x.a p = sub at *
  generalize thenM p x.m = th at *
  obtain ⟨sn, se⟩ := sub
  obtain ⟨tn, te⟩ := th
  obtain ⟨pn, pe⟩ := p
  obtain ⟨qn, qe⟩ := q
  simp only [arD, gD, gA, mD, mA] at *
  simp (config := { maxSteps := 1000000 }) (disch := first | omega | (simp only [go_sem]; omega)) only [go_sem, ↓reduceIte]
  refine call_by hw ?_
  simp (config := { maxSteps := 1000000 }) (disch := first | omega | (simp only [go_sem]; omega)) only [go_sem, ↓reduceIte]
  refine call_by r1 ?_
  simp (config := { maxSteps := 1000000 }) (disch := first | omega | (simp only [go_sem]; omega)) only [go_sem, ↓reduceIte]
  refine call_by r2 ?_
  simp (config := { maxSteps := 1000000 }) (disch := first | omega | (simp only [go_sem]; omega)) only [go_sem, ↓reduceIte]
  refine call_by r3 ?_
  simp (config := { maxSteps := 1000000 }) (disch := first | omega | (simp only [go_sem]; omega)) only [go_sem, ↓reduceIte]
  refine call_by r4 ?_
  simp (config := { maxSteps := 1000000 }) (disch := first | omega | (simp only [go_sem]; omega)) only [go_sem, ↓reduceIte]
  refine call_by r5 ?_
  simp (config := { maxSteps := 1000000 }) (disch := first | omega | (simp only [go_sem]; omega)) only [go_sem, ↓reduceIte]
  refine call_by r6 ?_
  simp (config := { maxSteps := 1000000 }) (disch := first | omega | (simp only [go_sem]; omega)) only [go_sem, ↓reduceIte]
  refine call_by r7 ?_
  simp (config := { maxSteps := 1000000 }) (disch := first | omega | (simp only [go_sem]; omega)) only [go_sem, ↓reduceIte]
  refine call_by r8 ?_
  simp (config := { maxSteps := 1000000 }) (disch := first | omega | (simp only [go_sem]; omega)) only [go_sem, ↓reduceIte]
  refine call_by r9 ?_
  simp (config := { maxSteps := 1000000 }) (disch := first | omega | (simp only [go_sem]; omega)) only [go_sem, ↓reduceIte]
  refine call_by r10 ?_
  simp (config := { maxSteps := 1000000 }) (disch := first | omega | (simp only [go_sem]; omega)) only [go_sem, ↓reduceIte]
  try simp
def shAr : Sh := .cat [shG, shG, shM]
theorem rd_ar {x : D} (h : HasEl shAr x) : ∃ c : Ar, x = arD c ∧ c.m.sm := by
  simp only [shAr, HasEl] at h
  obtain ⟨ds, rfl, h⟩ := h
  obtain ⟨_, _, rfl, h1, h⟩ := hasShs_cat h
  obtain ⟨_, _, rfl, h2, h⟩ := hasShs_cat h
  obtain ⟨_, _, rfl, h4, h⟩ := hasShs_cat h
  obtain rfl := hasShs_nil h
  obtain ⟨l, rfl⟩ := rd_gl h1
  obtain ⟨g, rfl⟩ := rd_gl h2
  obtain ⟨m, rfl, h6⟩ := rd_ml h4
  exact ⟨⟨l, g, m⟩, rfl, h6⟩
theorem x_l07_SubgraphAdjoint (h : K_l07_SubgraphAdjoint P F) (args : List D) (ha : HasEls [shAr, shU64, shU64] args) : FC P (F "l07.SubgraphAdjoint") args (.bool true) [] := by
  simp only [HasEls] at ha
  obtain ⟨_, _, rfl, h1, _, _, rfl, h2, _, _, rfl, h3, rfl⟩ := ha
  obtain ⟨x, rfl, k⟩ := rd_ar h1
  obtain ⟨s, rfl⟩ := rd_u64 h2
  obtain ⟨t, rfl⟩ := rd_u64 h3
  exact h x s t k
end
end Go.Am
