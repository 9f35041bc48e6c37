/- Parts: graphs of parts, boundaries, what elements close to: the walks. -/
/- Connected components: as many passes as nodes reach the end. -/
/- Incident, the reference's Components, and their law. -/
/- Chapter 07: helpers of the laws; the laws Valid, Close, Join, Image, Adjoint, Extract, Boundary. -/
/- The order of parts, and all parts of a small graph, plain. -/
/- All parts of a small graph: the reference's walk. -/
/- All parts of a small graph: the program's walk; the example of chapter 07; the law All. -/
/- All parts of a small graph; the example of chapter 07; the law All. -/
import Derived.Test.YtbpjoianghehmaaAmZc
import Derived.Test.YtbpjoianghehmaaSpPa
import Derived.Test.YtbpjoianghehmaaSpPb
namespace Go.Am
open Go
set_option linter.unusedVariables false
set_option linter.unusedSimpArgs false
attribute [local irreducible] W
/- subgraph.Boundary -/
def c_subgraph_Boundary_r0 (F : String → Nat) : List LI := [⟨some 2, .bx (.t 0), none⟩,
  ⟨some 3, .bx (.t 1), none⟩,
  ⟨some 4, .mov (.k (.nl 1)), none⟩,
  ⟨some 5, .mov (.k (.int .i64 (0))), none⟩]
def c_subgraph_Boundary_r1 (F : String → Nat) : List LI := [⟨some 10, .load true 2 (.t 2), none⟩,
  ⟨some 11, .load true 2 (.t 3), none⟩,
  ⟨some 12, .call (F "subgraph.Valid") [.t 10, .t 11] [], none⟩,
  ⟨some 6, .mov (.t 12), none⟩]
def c_subgraph_Boundary_r2 (F : String → Nat) : List LI := [⟨some 13, .mov (.t 6), none⟩,
  ⟨some 14, .bin .neq (.t 13) (.k (.int .i64 (0))), none⟩]
def c_subgraph_Boundary_r3 (F : String → Nat) : List LI := [⟨some 15, .mov (.t 6), none⟩,
  ⟨some 4, .mov (.k (.nl 1)), none⟩,
  ⟨some 5, .mov (.t 15), none⟩]
def c_subgraph_Boundary_r4 (F : String → Nat) : List LI := [⟨some 7, .mov (.k (.nl 1)), none⟩]
def c_subgraph_Boundary_r5 (F : String → Nat) : List LI := [⟨some 16, .fad 1 (.t 2), none⟩,
  ⟨some 17, .load false 1 (.t 16), none⟩,
  ⟨some 18, .len (.t 17), none⟩,
  ⟨some 19, .mov (.k (.int .i64 (0))), none⟩]
def c_subgraph_Boundary_r6 (F : String → Nat) : List LI := [⟨some 20, .bin .lss (.t 19) (.t 18), none⟩]
def c_subgraph_Boundary_r7 (F : String → Nat) : List LI := [⟨some 21, .mov (.t 19), none⟩,
  ⟨some 22, .iad 3 (.t 17) (.t 19), none⟩,
  ⟨some 23, .load true 3 (.t 22), none⟩,
  ⟨some 9, .alloc [.int .i64 (0), .int .i64 (0), .int .i64 (0)], none⟩,
  ⟨some 8, .mov (.t 21), none⟩,
  ⟨none, .store 3 (.t 9) (.t 23), none⟩]
def c_subgraph_Boundary_r8 (F : String → Nat) : List LI := [⟨some 24, .fad 1 (.t 3), none⟩,
  ⟨some 25, .load false 1 (.t 24), none⟩,
  ⟨some 26, .mov (.t 8), none⟩,
  ⟨some 27, .call (F "subgraph.has") [.t 25, .t 26] [], none⟩,
  ⟨some 28, .not (.t 27), none⟩]
def c_subgraph_Boundary_r9 (F : String → Nat) : List LI := [⟨some 29, .mov (.t 7), none⟩,
  ⟨some 30, .fad 1 (.t 9), none⟩,
  ⟨some 31, .load false 1 (.t 30), none⟩,
  ⟨some 32, .fad 2 (.t 9), none⟩,
  ⟨some 33, .load false 1 (.t 32), none⟩,
  ⟨some 34, .buildSl 1 8 (.int .i64 (0)) 2 [(0, .t 31), (1, .t 33)], none⟩,
  ⟨some 35, .app 1 8 (.t 29) (.t 34), none⟩,
  ⟨some 7, .mov (.t 35), none⟩]
def c_subgraph_Boundary_r10 (F : String → Nat) : List LI := [⟨some 36, .bin .add (.t 19) (.k (.int .i64 (1))), none⟩,
  ⟨some 19, .mov (.t 36), none⟩]
def c_subgraph_Boundary_b11 (F : String → Nat) : LC := (.seq (.reg (c_subgraph_Boundary_r6 F) [3, 7, 17, 18, 19, 20]) (.seq (.cond (.t 20) .skip (.exit 0)) (.seq (.block 1 (.seq (.reg (c_subgraph_Boundary_r7 F) [3, 7, 8, 9, 17, 18, 19]) (.seq (.reg (c_subgraph_Boundary_r8 F) [3, 7, 9, 17, 18, 19, 28]) (.cond (.t 28) (.reg (c_subgraph_Boundary_r9 F) [3, 7, 17, 18, 19]) .skip)))) (.reg (c_subgraph_Boundary_r10 F) [3, 7, 17, 18, 19]))))
def c_subgraph_Boundary_r12 (F : String → Nat) : List LI := [⟨some 37, .mov (.t 7), none⟩,
  ⟨some 38, .call (F "subgraph.sorted") [.t 37] [.ow], none⟩,
  ⟨some 39, .fad 0 (.t 3), none⟩,
  ⟨some 40, .load false 1 (.t 39), none⟩,
  ⟨some 41, .call (F "subgraph.common") [.t 38, .t 40] [], none⟩,
  ⟨some 4, .mov (.t 41), none⟩,
  ⟨some 5, .mov (.k (.int .i64 (0))), none⟩]
def c_subgraph_Boundary (F : String → Nat) : LC := (.seq (.reg (c_subgraph_Boundary_r0 F) [2, 3]) (.seq (.seq (.reg (c_subgraph_Boundary_r1 F) [2, 3, 6]) (.seq (.reg (c_subgraph_Boundary_r2 F) [2, 3, 6, 14]) (.cond (.t 14) (.seq (.reg (c_subgraph_Boundary_r3 F) [4, 5]) .ret) .skip))) (.seq (.reg (c_subgraph_Boundary_r4 F) [2, 3, 7]) (.seq (.seq (.reg (c_subgraph_Boundary_r5 F) [3, 7, 17, 18, 19]) (.block 0 (.loop [3, 7, 17, 18, 19] (c_subgraph_Boundary_b11 F)))) (.seq (.dreg [(1, none, [], true), (3, (some 4), [1], false)] (c_subgraph_Boundary_r12 F) [4, 5]) .ret)))))
def h_subgraph_Boundary : Hints := ⟨[], fun _ => [], tab [(0, [2, 3]), (1, [2, 3, 6]), (2, [2, 3, 6, 14]), (3, [4, 5]), (4, [2, 3, 7]), (5, [3, 7, 17, 18, 19]), (6, [3, 7, 17, 18, 19, 20]), (7, [3, 7, 8, 9, 17, 18, 19]), (8, [3, 7, 9, 17, 18, 19, 28]), (9, [3, 7, 17, 18, 19]), (10, [3, 7, 17, 18, 19]), (11, [4, 5])], tab [(6, [3, 7, 17, 18, 19])]⟩

/- subgraph.Close.1 -/
def c_subgraph_Close_1_r0 (F : String → Nat) : List LI := [⟨some 1, .bx (.t 0), none⟩,
  ⟨some 2, .mov (.k (.undef)), none⟩]
def c_subgraph_Close_1_r1 (F : String → Nat) : List LI := [⟨some 3, .mkf (F "subgraph.Close.1.1") [.t 1], none⟩,
  ⟨some 2, .mov (.t 3), none⟩]
def c_subgraph_Close_1 (F : String → Nat) : LC := (.seq (.reg (c_subgraph_Close_1_r0 F) [1]) (.seq (.reg (c_subgraph_Close_1_r1 F) [2]) .ret))
def h_subgraph_Close_1 : Hints := ⟨[], fun _ => [], tab [(0, [1]), (1, [2])], tab []⟩

/- subgraph.Close.1.1 -/
def c_subgraph_Close_1_1_r0 (F : String → Nat) : List LI := [⟨some 3, .mov (.k (.bool false)), none⟩]
def c_subgraph_Close_1_1_r1 (F : String → Nat) : List LI := [⟨some 4, .mov (.t 0), none⟩,
  ⟨some 5, .bin .lss (.t 4) (.k (.int .i64 (0))), none⟩,
  ⟨some 6, .mov (.t 5), none⟩,
  ⟨some 7, .mov (.t 0), some (6, false)⟩,
  ⟨some 8, .load false 1 (.t 1), some (6, false)⟩,
  ⟨some 9, .bin .geq (.t 7) (.t 8), some (6, false)⟩,
  ⟨some 10, .pick (.t 6) (.k (.bool true)) (.t 9), none⟩,
  ⟨some 3, .mov (.t 10), none⟩]
def c_subgraph_Close_1_1 (F : String → Nat) : LC := (.seq (.reg (c_subgraph_Close_1_1_r0 F) [0, 1]) (.seq (.reg (c_subgraph_Close_1_1_r1 F) [3]) .ret))
def h_subgraph_Close_1_1 : Hints := ⟨[], fun _ => [], tab [(0, [0, 1]), (1, [3])], tab []⟩

/- subgraph.Close -/
def c_subgraph_Close_r0 (F : String → Nat) : List LI := [⟨some 3, .bx (.t 0), none⟩,
  ⟨some 6, .alloc [.nl 1, .nl 1], none⟩,
  ⟨some 7, .mov (.k (.int .i64 (0))), none⟩]
def c_subgraph_Close_r1 (F : String → Nat) : List LI := [⟨some 13, .load true 2 (.t 3), none⟩,
  ⟨some 14, .call (F "graph.Valid") [.t 13] [], none⟩,
  ⟨some 8, .mov (.t 14), none⟩]
def c_subgraph_Close_r2 (F : String → Nat) : List LI := [⟨some 15, .mov (.t 8), none⟩,
  ⟨some 16, .bin .neq (.t 15) (.k (.int .i64 (0))), none⟩]
def c_subgraph_Close_r3 (F : String → Nat) : List LI := [⟨some 17, .build [.nl 1, .nl 1] [], none⟩,
  ⟨some 18, .mov (.t 8), none⟩,
  ⟨none, .store 2 (.t 6) (.t 17), none⟩,
  ⟨some 7, .mov (.t 18), none⟩]
def c_subgraph_Close_r4 (F : String → Nat) : List LI := [⟨some 9, .mov (.k (.clo (F "subgraph.Close.1") [])), none⟩]
def c_subgraph_Close_r5 (F : String → Nat) : List LI := [⟨some 19, .mov (.t 1), none⟩,
  ⟨some 20, .mov (.t 9), none⟩,
  ⟨some 21, .fad 0 (.t 3), none⟩,
  ⟨some 22, .load false 1 (.t 21), none⟩,
  ⟨some 23, .len (.t 22), none⟩,
  ⟨some 24, .callv (.t 20) [.t 23], none⟩,
  ⟨some 25, .call (F "slices.ContainsFunc.I") [.t 19, .t 24] [], none⟩,
  ⟨some 26, .mov (.t 25), none⟩,
  ⟨some 27, .mov (.t 2), some (26, false)⟩,
  ⟨some 28, .mov (.t 9), some (26, false)⟩,
  ⟨some 29, .fad 1 (.t 3), some (26, false)⟩,
  ⟨some 30, .load false 1 (.t 29), some (26, false)⟩,
  ⟨some 31, .len (.t 30), some (26, false)⟩,
  ⟨some 32, .callv (.t 28) [.t 31], some (26, false)⟩,
  ⟨some 33, .call (F "slices.ContainsFunc.I") [.t 27, .t 32] [], some (26, false)⟩,
  ⟨some 34, .pick (.t 26) (.k (.bool true)) (.t 33), none⟩]
def c_subgraph_Close_r6 (F : String → Nat) : List LI := [⟨some 35, .build [.nl 1, .nl 1] [], none⟩,
  ⟨none, .store 2 (.t 6) (.t 35), none⟩,
  ⟨some 7, .mov (.k (.int .i64 (6))), none⟩]
def c_subgraph_Close_r7 (F : String → Nat) : List LI := [⟨some 36, .mov (.t 1), none⟩,
  ⟨some 37, .call (F "slices.Clone.I") [.t 36] [], none⟩,
  ⟨some 10, .mov (.t 37), none⟩]
def c_subgraph_Close_r8 (F : String → Nat) : List LI := [⟨some 38, .mov (.t 2), none⟩,
  ⟨some 39, .len (.t 38), none⟩,
  ⟨some 40, .mov (.k (.int .i64 (0))), none⟩]
def c_subgraph_Close_r9 (F : String → Nat) : List LI := [⟨some 41, .bin .lss (.t 40) (.t 39), none⟩]
def c_subgraph_Close_r10 (F : String → Nat) : List LI := [⟨some 42, .iad 1 (.t 38) (.t 40), none⟩,
  ⟨some 43, .load false 1 (.t 42), none⟩,
  ⟨some 12, .mov (.t 43), none⟩]
def c_subgraph_Close_r11 (F : String → Nat) : List LI := [⟨some 44, .mov (.t 10), none⟩,
  ⟨some 45, .fad 1 (.t 3), none⟩,
  ⟨some 46, .load false 1 (.t 45), none⟩,
  ⟨some 47, .mov (.t 12), none⟩,
  ⟨some 48, .iad 3 (.t 46) (.t 47), none⟩,
  ⟨some 49, .fad 1 (.t 48), none⟩,
  ⟨some 50, .load false 1 (.t 49), none⟩,
  ⟨some 51, .fad 1 (.t 3), none⟩,
  ⟨some 52, .load false 1 (.t 51), none⟩,
  ⟨some 53, .mov (.t 12), none⟩,
  ⟨some 54, .iad 3 (.t 52) (.t 53), none⟩,
  ⟨some 55, .fad 2 (.t 54), none⟩,
  ⟨some 56, .load false 1 (.t 55), none⟩,
  ⟨some 57, .buildSl 1 8 (.int .i64 (0)) 2 [(0, .t 50), (1, .t 56)], none⟩,
  ⟨some 58, .app 1 8 (.t 44) (.t 57), none⟩,
  ⟨some 10, .mov (.t 58), none⟩]
def c_subgraph_Close_r12 (F : String → Nat) : List LI := [⟨some 59, .bin .add (.t 40) (.k (.int .i64 (1))), none⟩,
  ⟨some 40, .mov (.t 59), none⟩]
def c_subgraph_Close_b13 (F : String → Nat) : LC := (.seq (.reg (c_subgraph_Close_r9 F) [2, 3, 6, 10, 38, 39, 40, 41]) (.seq (.cond (.t 41) .skip (.exit 0)) (.seq (.block 1 (.seq (.reg (c_subgraph_Close_r10 F) [2, 3, 6, 10, 12, 38, 39, 40]) (.dreg [] (c_subgraph_Close_r11 F) [2, 3, 6, 10, 38, 39, 40]))) (.reg (c_subgraph_Close_r12 F) [2, 3, 6, 10, 38, 39, 40]))))
def c_subgraph_Close_r14 (F : String → Nat) : List LI := [⟨some 60, .mov (.t 10), none⟩,
  ⟨some 61, .call (F "subgraph.sorted") [.t 60] [.ow], none⟩,
  ⟨some 62, .mov (.t 2), none⟩,
  ⟨some 63, .call (F "slices.Clone.I") [.t 62] [], none⟩,
  ⟨some 64, .call (F "subgraph.sorted") [.t 63] [.ow], none⟩,
  ⟨some 65, .build [.nl 1, .nl 1] [(0, 1, .t 61), (1, 1, .t 64)], none⟩,
  ⟨none, .store 2 (.t 6) (.t 65), none⟩,
  ⟨some 7, .mov (.k (.int .i64 (0))), none⟩]
def c_subgraph_Close (F : String → Nat) : LC := (.seq (.reg (c_subgraph_Close_r0 F) [1, 2, 3, 6]) (.seq (.seq (.reg (c_subgraph_Close_r1 F) [1, 2, 3, 6, 8]) (.seq (.reg (c_subgraph_Close_r2 F) [1, 2, 3, 6, 8, 16]) (.cond (.t 16) (.seq (.reg (c_subgraph_Close_r3 F) [6, 7]) .ret) .skip))) (.seq (.reg (c_subgraph_Close_r4 F) [1, 2, 3, 6, 9]) (.seq (.seq (.reg (c_subgraph_Close_r5 F) [1, 2, 3, 6, 34]) (.cond (.t 34) (.seq (.reg (c_subgraph_Close_r6 F) [6, 7]) .ret) .skip)) (.seq (.reg (c_subgraph_Close_r7 F) [2, 3, 6, 10]) (.seq (.seq (.reg (c_subgraph_Close_r8 F) [2, 3, 6, 10, 38, 39, 40]) (.block 0 (.loop [2, 3, 6, 10, 38, 39, 40] (c_subgraph_Close_b13 F)))) (.seq (.reg (c_subgraph_Close_r14 F) [6, 7]) .ret)))))))
def h_subgraph_Close : Hints := ⟨[], fun _ => [], tab [(0, [1, 2, 3, 6]), (1, [1, 2, 3, 6, 8]), (2, [1, 2, 3, 6, 8, 16]), (3, [6, 7]), (4, [1, 2, 3, 6, 9]), (5, [1, 2, 3, 6, 34]), (6, [6, 7]), (7, [2, 3, 6, 10]), (8, [2, 3, 6, 10, 38, 39, 40]), (9, [2, 3, 6, 10, 38, 39, 40, 41]), (10, [2, 3, 6, 10, 12, 38, 39, 40]), (11, [2, 3, 6, 10, 38, 39, 40]), (12, [2, 3, 6, 10, 38, 39, 40]), (13, [6, 7])], tab [(9, [2, 3, 6, 10, 38, 39, 40])]⟩

attribute [go_sem] c_subgraph_Boundary_r0 c_subgraph_Boundary_r1 c_subgraph_Boundary_r2 c_subgraph_Boundary_r3 c_subgraph_Boundary_r4 c_subgraph_Boundary_r5 c_subgraph_Boundary_r6 c_subgraph_Boundary_r7 c_subgraph_Boundary_r8 c_subgraph_Boundary_r9 c_subgraph_Boundary_r10 c_subgraph_Boundary_r12 c_subgraph_Boundary c_subgraph_Close_1_r0 c_subgraph_Close_1_r1 c_subgraph_Close_1 c_subgraph_Close_1_1_r0 c_subgraph_Close_1_1_r1 c_subgraph_Close_1_1 c_subgraph_Close_r0 c_subgraph_Close_r1 c_subgraph_Close_r2 c_subgraph_Close_r3 c_subgraph_Close_r4 c_subgraph_Close_r5 c_subgraph_Close_r6 c_subgraph_Close_r7 c_subgraph_Close_r8 c_subgraph_Close_r9 c_subgraph_Close_r10 c_subgraph_Close_r11 c_subgraph_Close_r12 c_subgraph_Close_r14 c_subgraph_Close
section
variable (P : Program) (F : String → Nat)
def K_subgraph_Boundary : Prop := ∀ (g : G) (p : Mo), p.sm → FC P (F "subgraph.Boundary") [gD g, mD p] (.tup [.arr 1 (ints (bdR g p).1), .int .i64 (bdR g p).2]) []
def K_subgraph_Close_1 : Prop := ∀ n : Int, FC P (F "subgraph.Close.1") [.int .i64 n] (.clo (F "subgraph.Close.1.1") [.ref [.int .i64 n]]) []
def K_subgraph_Close_1_1 : Prop := ∀ x n : Int, FC P (F "subgraph.Close.1.1") [.int .i64 x, .ref [.int .i64 n]] (.bool (decide (x < 0) || decide (n ≤ x))) []
def K_subgraph_Close : Prop := ∀ (g : G) (ns es : List Int), ns.length ≤ 1000 → es.length ≤ 1000 → FC P (F "subgraph.Close") [gD g, .lst 1 (ints ns), .lst 1 (ints es)] (.tup [mA (closeR g ns es).1, .int .i64 (closeR g ns es).2]) []
end
section
variable {P : Program} {F : String → Nat} {α : Type}
theorem outE_len (g : G) (pe : List Int) : ∀ n, (outE g pe n).length ≤ 2 * n
  | 0 => by simp [outE]
  | n + 1 => by
    have := outE_len g pe n
    rw [outE]
    split
    · omega
    · rw [List.length_append]; simp only [List.length_cons, List.length_nil]; omega
theorem w_subgraph_Boundary (hv : K_subgraph_Valid P F) (hh : K_subgraph_has P F) (hs : K_subgraph_sorted P F) (hc : K_subgraph_common P F) (g : G) (p : Mo) (h1 : p.sm) : W P (c_subgraph_Boundary F) (Done [.t 4, .t 5] [] (.tup [.arr 1 (ints (bdR g p).1), .int .i64 (bdR g p).2]) []) (init [gD g, mD p]) := by
  refine W_of ?_
  have r1 := hv g p h1.1 h1.2
  have hR : bdR g p = if validP g p ≠ 0 then ([], validP g p) else (comL (imgs (outE g p.e g.e.length)) p.n, 0) := rfl
  have h0 : validP g p = 0 → PK g p := fun h => validP_ok.1 h
  have ol := outE_len g p.e
  have os : ∀ i : Nat, outE g p.e (i + 1) = if (i : Int) ∈ p.e then outE g p.e i else outE g p.e i ++ [(gt g.e i).f, (gt g.e i).o] := fun i => rfl
  have oz : outE g p.e 0 = [] := rfl
  generalize validP g p = v at *
  generalize outE g p.e = O at *
  rw [hR]
  clear hR
  obtain ⟨gn, ge⟩ := g
  obtain ⟨pn, pe⟩ := p
  simp only [gD, mD] at *
  simp (config := { maxSteps := 1000000 }) (disch := first | omega | (simp only [go_sem]; omega)) only [go_sem, ↓reduceIte]
  refine call_by r1 ?_
  simp (config := { maxSteps := 1000000 }) (disch := first | omega | (simp only [go_sem]; omega)) only [go_sem, ↓reduceIte]
  refine bran_ndec (fun c => ?_) (fun c => ?_)
  · simp (config := { maxSteps := 1000000 }) (disch := first | omega | (simp only [go_sem]; omega)) only [go_sem, ↓reduceIte]
    simp [c, ints]
  have hk := h0 c
  have hl := hk.len
  have hv := valid_spec hk.v
  simp only at hl hv
  rw [if_neg (by simp [c])]
  have rh := fun x => hh pe x hk.e.p (by omega)
  simp (config := { maxSteps := 1000000 }) (disch := first | omega | (simp only [go_sem]; omega)) only [go_sem, ↓reduceIte]
  refine W_loop (fun i : Nat => ⟨[(3, .pt 0 0), (7, .sl 1 0 (O i).length), (17, .lst 3 (eds ge)), (18, .int .i64 ge.length), (19, .int .i64 i)], [(0, .box [.lst 1 (ints pn), .lst 1 (ints pe)]), (1, .arr 1 (ints (O i)))], 2⟩) (fun i => i ≤ ge.length) (fun i => ge.length - i) 0 ?_ ?_ ?_
  · simp (config := { maxSteps := 1000000 }) (disch := first | omega | (simp only [go_sem]; omega)) only [go_sem, ↓reduceIte, oz]
    rfl
  · simp
  · intro i hi
    have ol1 := ol i
    by_cases e : i < ge.length
    · have d1 : decide ((i : Int) < ge.length) = true := decide_eq_true (by omega)
      have r2 := rh i
      have st := os i
      by_cases c2 : (i : Int) ∈ pe
      · rw [decide_eq_true c2] at r2
        rw [if_pos c2] at st
        simp (config := { maxSteps := 1000000 }) (disch := first | omega | (simp only [go_sem]; omega)) only [go_sem, ↓reduceIte, c_subgraph_Boundary_b11, d1]
        refine call_by r2 ?_
        simp (config := { maxSteps := 1000000 }) (disch := first | omega | (simp only [go_sem]; omega)) only [go_sem, ↓reduceIte]
        exact ⟨i + 1, by simp [st], by omega, by omega⟩
      · rw [decide_eq_false c2] at r2
        rw [if_neg c2] at st
        simp (config := { maxSteps := 1000000 }) (disch := first | omega | (simp only [go_sem]; omega)) only [go_sem, ↓reduceIte, c_subgraph_Boundary_b11, d1]
        refine call_by r2 ?_
        simp (config := { maxSteps := 1000000 }) (disch := first | omega | (simp only [go_sem]; omega)) only [go_sem, ↓reduceIte]
        exact ⟨i + 1, by simp [st, ints], by omega, by omega⟩
    · have d1 : decide ((i : Int) < ge.length) = false := decide_eq_false (by omega)
      obtain rfl : i = ge.length := by omega
      have r2 := hs (O ge.length) (by unfold maxL; omega)
      have li := imgs_len (O ge.length)
      have r3 := hc (imgs (O ge.length)) pn (by omega) hk.n.p (by omega)
      generalize comL (imgs (O ge.length)) pn = y2 at *
      generalize imgs (O ge.length) = y1 at *
      generalize O ge.length = y0 at *
      simp (config := { maxSteps := 1000000 }) (disch := first | omega | (simp only [go_sem]; omega)) only [go_sem, ↓reduceIte, c_subgraph_Boundary_b11, d1]
      refine call_by r2 ?_
      simp (config := { maxSteps := 1000000 }) (disch := first | omega | (simp only [go_sem]; omega)) only [go_sem, ↓reduceIte]
      refine call_by r3 ?_
      simp (config := { maxSteps := 1000000 }) (disch := first | omega | (simp only [go_sem]; omega)) only [go_sem, ↓reduceIte]
      try rfl
theorem bd_mrg {g : G} {p : Mo} (hp : PK g p) {z : List Bool} (hz : z.length = g.n.length) (h : ∀ k : Nat, k < g.n.length → gt z k = decide ((k : Int) ∈ outE g p.e g.e.length)) : mrgL g.n.length p.n (markL z) true = bdL g p :=
  asc_ext mrg_asc (bd_asc g p) fun x => by
    rw [mrg_mem, if_pos rfl, bdL, com_mem, imgs_mem, markL_x]
    constructor
    · rintro ⟨_, h2, k, k1, k2, rfl⟩
      rw [h k (by omega)] at k2
      exact ⟨of_decide_eq_true k2, h2⟩
    · rintro ⟨h1, h2⟩
      have hb := hp.n.b x h2
      obtain ⟨k, k1, rfl⟩ := gtI hb
      exact ⟨hb, h2, k, by omega, by rw [h k k1]; exact decide_eq_true h1, rfl⟩
theorem w_subgraph_Close_1 (n : Int) : W P (c_subgraph_Close_1 F) (DoneC [.t 2] (.clo (F "subgraph.Close.1.1") [.ref [.int .i64 n]])) (init [.int .i64 n]) := by
  refine W_ofC ?_
  simp (config := { maxSteps := 1000000 }) (disch := first | omega | (simp only [go_sem]; omega)) only [go_sem, ↓reduceIte]
  try rfl
theorem w_subgraph_Close_1_1 (x n : Int) : W P (c_subgraph_Close_1_1 F) (Done [.t 3] [] (.bool (decide (x < 0) || decide (n ≤ x))) []) (init [.int .i64 x, .ref [.int .i64 n]]) := by
  refine W_of ?_
  by_cases h : x < 0
  · have d1 : decide (x < 0) = true := decide_eq_true h
    simp (config := { maxSteps := 1000000 }) (disch := first | omega | (simp only [go_sem]; omega)) only [go_sem, ↓reduceIte, d1]
    try simp
  · have d1 : decide (x < 0) = false := decide_eq_false h
    simp (config := { maxSteps := 1000000 }) (disch := first | omega | (simp only [go_sem]; omega)) only [go_sem, ↓reduceIte, d1]
    try simp
theorem ends_step {g : G} {es : List Int} {i : Nat} (h : i < es.length) : endsL g (es.take (i + 1)) = endsL g (es.take i) ++ [(gt g.e (gt es i)).f, (gt g.e (gt es i)).o] := by
  rw [take_gt h]; simp [endsL]
theorem ends_len (g : G) (es : List Int) : (endsL g es).length = 2 * es.length := by
  induction es with
  | nil => rfl
  | cons x l ih =>
    rw [show endsL g (x :: l) = [(gt g.e x).f, (gt g.e x).o] ++ endsL g l from rfl, List.length_append, ih]
    simp only [List.length_cons, List.length_nil]; omega
theorem close_imgs {g : G} {ns es : List Int} (hv : validG g = 0) (h1 : ∀ x ∈ ns, 0 ≤ x ∧ x < g.n.length) (h2 : ∀ x ∈ es, 0 ≤ x ∧ x < g.e.length) : closeP g ns es = ⟨imgs (ns ++ endsL g es), imgs es⟩ := by
  refine mo_extP (asc_ext (sel_pair _ _) (imgs_lt _) fun x => ?_) (asc_ext (sel_pair _ _) (imgs_lt _) fun x => ?_)
  · rw [imgs_mem, List.mem_append, show (closeP g ns es).n = sel (fun k : Nat => decide ((k : Int) ∈ ns) || decide ((k : Int) ∈ endsL g es)) g.n.length from rfl, sel_mem]
    constructor
    · rintro ⟨k, _, k2, rfl⟩
      simpa using k2
    · intro h
      have hb : 0 ≤ x ∧ x < g.n.length := by
        rcases h with h | h
        · exact h1 x h
        · obtain ⟨e, he, hx⟩ := ends_mem.1 h
          have := edge_fits hv (h2 e he)
          rcases hx with hx | hx
          · rw [← hx]; exact this.2.1
          · rw [← hx]; exact this.2.2
      obtain ⟨k, k1, rfl⟩ := gtI hb
      exact ⟨k, k1, by simpa using h, rfl⟩
  · rw [imgs_mem, show (closeP g ns es).e = sel (fun k : Nat => decide ((k : Int) ∈ es)) g.e.length from rfl, sel_mem]
    constructor
    · rintro ⟨k, _, k2, rfl⟩
      simpa using k2
    · intro h
      obtain ⟨k, k1, rfl⟩ := gtI (h2 x h)
      exact ⟨k, k1, by simpa using h, rfl⟩
theorem any_inB {n : Nat} {l : List Int} : l.any (fun x => decide (x < 0) || decide ((n : Int) ≤ x)) = !l.all (inB n) := by
  rw [List.any_eq_not_all_not]
  congr 2
  funext x
  rw [Bool.eq_iff_iff]
  simp [inB]
set_option maxHeartbeats 1000000 in
theorem w_subgraph_Close (hv : K_graph_Valid P F) (hf : K_slices_ContainsFunc_I P F) (h1 : K_subgraph_Close_1 P F) (h11 : K_subgraph_Close_1_1 P F) (hc : K_slices_Clone_I P F) (hs : K_subgraph_sorted P F) (g : G) (ns es : List Int) (l1 : ns.length ≤ 1000) (l2 : es.length ≤ 1000) :
    W P (c_subgraph_Close F) (Done [.c 6 true 2, .t 7] [] (.tup [mA (closeR g ns es).1, .int .i64 (closeR g ns es).2]) []) (init [gD g, .lst 1 (ints ns), .lst 1 (ints es)]) := by
  refine W_of ?_
  have r1 := hv g
  have hR : closeR g ns es = if validG g ≠ 0 then (m0, validG g) else if ns.all (inB g.n.length) && es.all (inB g.e.length) then (closeP g ns es, 0) else (m0, 6) := rfl
  by_cases c0 : validG g = 0
  case neg =>
    rw [if_pos c0] at hR
    rw [hR]
    generalize validG g = v at *
    simp only [gD] at *
    simp (config := { maxSteps := 1000000 }) (disch := first | omega | (simp only [go_sem]; omega)) only [go_sem, ↓reduceIte]
    refine call_by r1 ?_
    simp (config := { maxSteps := 1000000 }) (disch := first | omega | (simp only [go_sem]; omega)) only [go_sem, ↓reduceIte]
    refine bran_ndec (fun c1 => ?_) (fun c1 => absurd c1 c0)
    simp (config := { maxSteps := 1000000 }) (disch := first | omega | (simp only [go_sem]; omega)) only [go_sem, ↓reduceIte]
    simp [m0, mA, ints]
  rw [if_neg (by simp [c0])] at hR
  rw [c0] at r1
  have r2 := h1 (g.n.length : Int)
  have r3 := h1 (g.e.length : Int)
  have r4 := hf ns (by unfold maxL; omega) (F "subgraph.Close.1.1") [.ref [.int .i64 g.n.length]] rfl _ (fun x _ => h11 x g.n.length)
  have r5 := hf es (by unfold maxL; omega) (F "subgraph.Close.1.1") [.ref [.int .i64 g.e.length]] rfl _ (fun x _ => h11 x g.e.length)
  rw [any_inB] at r4 r5
  have hci := fun b1 b2 => @close_imgs g ns es c0 b1 b2
  have hef := fun (i : Int) hi => (edge_fits c0 (i := i) hi).2
  have es1 := fun i => @ends_step g es i
  have ez : endsL g (es.take 0) = [] := by simp [endsL]
  have el := fun i => ends_len g (es.take i)
  generalize closeP g ns es = cp at *
  generalize closeR g ns es = R at *
  have vs := valid_spec c0
  have b1 := @inB_all g.n.length ns
  have b2 := @inB_all g.e.length es
  generalize ns.all (inB g.n.length) = t1 at *
  generalize es.all (inB g.e.length) = t2 at *
  generalize endsL g = En at *
  obtain ⟨gn, ge⟩ := g
  simp only [gD] at *
  cases t1
  · rw [hR]
    simp (config := { maxSteps := 1000000 }) (disch := first | omega | (simp only [go_sem]; omega)) only [go_sem, ↓reduceIte]
    refine call_by r1 ?_
    simp (config := { maxSteps := 1000000 }) (disch := first | omega | (simp only [go_sem]; omega)) only [go_sem, ↓reduceIte]
    refine call_fz r2 ?_
    simp (config := { maxSteps := 1000000 }) (disch := first | omega | (simp only [go_sem]; omega)) only [go_sem, ↓reduceIte]
    refine call_by r4 ?_
    simp (config := { maxSteps := 1000000 }) (disch := first | omega | (simp only [go_sem]; omega)) only [go_sem, ↓reduceIte]
    simp [m0, mA, ints]
  cases t2
  · rw [hR]
    simp (config := { maxSteps := 1000000 }) (disch := first | omega | (simp only [go_sem]; omega)) only [go_sem, ↓reduceIte]
    refine call_by r1 ?_
    simp (config := { maxSteps := 1000000 }) (disch := first | omega | (simp only [go_sem]; omega)) only [go_sem, ↓reduceIte]
    refine call_fz r2 ?_
    simp (config := { maxSteps := 1000000 }) (disch := first | omega | (simp only [go_sem]; omega)) only [go_sem, ↓reduceIte]
    refine call_by r4 ?_
    simp (config := { maxSteps := 1000000 }) (disch := first | omega | (simp only [go_sem]; omega)) only [go_sem, ↓reduceIte]
    refine call_fz r3 ?_
    simp (config := { maxSteps := 1000000 }) (disch := first | omega | (simp only [go_sem]; omega)) only [go_sem, ↓reduceIte]
    refine call_by r5 ?_
    simp (config := { maxSteps := 1000000 }) (disch := first | omega | (simp only [go_sem]; omega)) only [go_sem, ↓reduceIte]
    simp [m0, mA, ints]
  have b1 := b1.1 rfl
  have b2 := b2.1 rfl
  have hcp := hci (fun x hx => by obtain ⟨i, hi, rfl⟩ := mem_gt hx; exact b1 i hi) (fun x hx => by obtain ⟨i, hi, rfl⟩ := mem_gt hx; exact b2 i hi)
  rw [if_pos (by rfl)] at hR
  rw [hR, hcp]
  clear hR hcp hci
  have r6 := hc ns (by omega)
  obtain ⟨A, a0, a1, a2, a3⟩ : ∃ A : Nat → List Int, A 0 = ns ∧ (∀ i, i < es.length → A (i + 1) = A i ++ [(gt ge (gt es i)).f, (gt ge (gt es i)).o]) ∧ (∀ i : Nat, (A i).length ≤ 3000) ∧ A es.length = ns ++ En es :=
    ⟨fun i => ns ++ En (es.take i), by simp only [ez, List.append_nil], fun i hi => by simp only; rw [es1 i hi, List.append_assoc], fun i => by simp only; rw [List.length_append, el, List.length_take]; omega, by simp only [List.take_length]⟩
  rw [← a3]
  clear el es1 ez
  simp (config := { maxSteps := 1000000 }) (disch := first | omega | (simp only [go_sem]; omega)) only [go_sem, ↓reduceIte]
  refine call_by r1 ?_
  simp (config := { maxSteps := 1000000 }) (disch := first | omega | (simp only [go_sem]; omega)) only [go_sem, ↓reduceIte]
  refine call_fz r2 ?_
  simp (config := { maxSteps := 1000000 }) (disch := first | omega | (simp only [go_sem]; omega)) only [go_sem, ↓reduceIte]
  refine call_by r4 ?_
  simp (config := { maxSteps := 1000000 }) (disch := first | omega | (simp only [go_sem]; omega)) only [go_sem, ↓reduceIte]
  refine call_fz r3 ?_
  simp (config := { maxSteps := 1000000 }) (disch := first | omega | (simp only [go_sem]; omega)) only [go_sem, ↓reduceIte]
  refine call_by r5 ?_
  simp (config := { maxSteps := 1000000 }) (disch := first | omega | (simp only [go_sem]; omega)) only [go_sem, ↓reduceIte]
  refine call_by r6 ?_
  simp (config := { maxSteps := 1000000 }) (disch := first | omega | (simp only [go_sem]; omega)) only [go_sem, ↓reduceIte]
  refine W_loop (fun i : Nat => ⟨[(2, .lst 1 (ints es)), (3, .pt 0 0), (6, .pt 3 0), (10, .sl 4 0 (A i).length), (38, .lst 1 (ints es)), (39, .int .i64 es.length), (40, .int .i64 i)],
    [(0, .box [.lst 1 (ints gn), .lst 3 (eds ge)]), (1, .arr 1 []), (2, .arr 1 []), (3, .box [.sl 1 0 0, .sl 2 0 0]), (4, .arr 1 (ints (A i)))], 5⟩) (fun i => i ≤ es.length) (fun i => es.length - i) 0 ?_ ?_ ?_
  · simp (config := { maxSteps := 1000000 }) (disch := first | omega | (simp only [go_sem]; omega)) only [go_sem, ↓reduceIte]
    rw [a0]
    rfl
  · simp
  · intro i hi
    have ll := a2 i
    by_cases c : i < es.length
    · have d1 : decide ((i : Int) < es.length) = true := decide_eq_true (by omega)
      have st := a1 i c
      have hb := b2 i c
      simp (config := { maxSteps := 1000000 }) (disch := first | omega | (simp only [go_sem]; omega)) only [go_sem, ↓reduceIte, c_subgraph_Close_b13, d1]
      exact ⟨i + 1, by simp [st, ints], by omega, by omega⟩
    · have d1 : decide ((i : Int) < es.length) = false := decide_eq_false (by omega)
      obtain rfl : i = es.length := by omega
      have r7 := hs (A es.length) (by unfold maxL; omega)
      have r8 := hc es (by omega)
      have r9 := hs es (by unfold maxL; omega)
      generalize imgs (A es.length) = y1 at *
      generalize imgs es = y2 at *
      generalize A es.length = y0 at *
      simp (config := { maxSteps := 1000000 }) (disch := first | omega | (simp only [go_sem]; omega)) only [go_sem, ↓reduceIte, c_subgraph_Close_b13, d1]
      refine call_by r7 ?_
      simp (config := { maxSteps := 1000000 }) (disch := first | omega | (simp only [go_sem]; omega)) only [go_sem, ↓reduceIte]
      refine call_by r8 ?_
      simp (config := { maxSteps := 1000000 }) (disch := first | omega | (simp only [go_sem]; omega)) only [go_sem, ↓reduceIte]
      refine call_by r9 ?_
      simp (config := { maxSteps := 1000000 }) (disch := first | omega | (simp only [go_sem]; omega)) only [go_sem, ↓reduceIte]
      try rfl
end
end Go.Am
namespace Go.Am
open Go
set_option linter.unusedVariables false
set_option linter.unusedSimpArgs false
/-- Ends within range. -/
def Ends (n : Nat) (es : List E) : Prop := ∀ x ∈ es, (0 ≤ x.f ∧ x.f < n) ∧ (0 ≤ x.o ∧ x.o < n)
theorem Ends.tail {n : Nat} {x : E} {es : List E} (h : Ends n (x :: es)) : Ends n es := fun y hy => h y (by simp [hy])
end Go.Am
namespace Go.Am
open Go
set_option linter.unusedVariables false
set_option linter.unusedSimpArgs false
section
variable (P : Program) (F : String → Nat)
end
section
variable {P : Program} {F : String → Nat} {α : Type}
theorem pts_get {a : List Mo} {i : Nat} (h : i < a.length) : (pts a)[i]? = some (.agg [.lst 1 (ints (gt a (i : Int)).n), .lst 1 (ints (gt a (i : Int)).e)]) := by
  rw [gt_nat h]
  simp [pts, mD, h]
attribute [go_sem] pts_get
end
end Go.Am
namespace Go.Am
open Go
set_option linter.unusedVariables false
set_option linter.unusedSimpArgs false
attribute [local irreducible] W
section
variable (P : Program) (F : String → Nat)
def K_l07_awake : Prop := FC P (F "l07.awake") [] (.bool true) []
end
section
variable {P : Program} {F : String → Nat} {α : Type}
end
end Go.Am
namespace Go.Am
open Go
set_option linter.unusedVariables false
set_option linter.unusedSimpArgs false
def difL : List Int → List Int → Int
  | a :: as, b :: bs => if a = b then difL as bs else a - b
  | _, _ => 0
def cmpL (a b : List Int) : Int := if a.length = b.length then difL a b else (a.length : Int) - b.length
/-- A comparison. -/
structure Cmp {α : Type} (c : α → α → Int) : Prop where
  neg : ∀ a b, c b a = - c a b
  eq : ∀ a b, c a b = 0 → a = b
  tr : ∀ a b d, c a b < 0 → c b d < 0 → c a d < 0
def insG {α : Type} (c : α → α → Int) (p : α) : List α → List α
  | [] => [p]
  | q :: l => if c q p < 0 then q :: insG c p l else p :: q :: l
section
variable {α : Type}
theorem difL_neg : ∀ a b, difL b a = - difL a b
  | [], [] => rfl
  | [], _ :: _ => rfl
  | _ :: _, [] => rfl
  | a :: as, b :: bs => by
    simp only [difL]
    by_cases h : a = b
    · subst h; simp only [if_true]; exact difL_neg as bs
    · rw [if_neg h, if_neg (fun e => h e.symm)]; omega
theorem difL_eq : ∀ a b, a.length = b.length → difL a b = 0 → a = b
  | [], [], _, _ => rfl
  | [], _ :: _, h, _ => by simp at h
  | _ :: _, [], h, _ => by simp at h
  | a :: as, b :: bs, h, e => by
    simp only [difL] at e
    split at e
    · rename_i h1
      rw [h1, difL_eq as bs (by simpa using h) e]
    · omega
theorem difL_tr : ∀ a b d, a.length = b.length → b.length = d.length → difL a b < 0 → difL b d < 0 → difL a d < 0
  | [], _, _, _, _, h, _ => by simp [difL] at h
  | _ :: _, [], _, h, _, _, _ => by simp at h
  | _ :: _, _ :: _, [], _, h, _, _ => by simp at h
  | a :: as, b :: bs, d :: ds, l1, l2, h1, h2 => by
    simp only [difL] at h1 h2 ⊢
    by_cases e1 : a = b
    · subst e1
      by_cases e2 : a = d
      · subst e2
        simp only [if_true] at h1 h2 ⊢
        exact difL_tr as bs ds (by simpa using l1) (by simpa using l2) h1 h2
      · rw [if_neg e2] at h2 ⊢; exact h2
    · rw [if_neg e1] at h1
      by_cases e2 : b = d
      · subst e2; rw [if_neg e1]; exact h1
      · rw [if_neg e2] at h2
        rw [if_neg (by omega)]; omega
theorem cmpL_cmp : Cmp cmpL where
  neg a b := by
    unfold cmpL
    by_cases h : a.length = b.length
    · rw [if_pos h, if_pos h.symm, difL_neg]
    · rw [if_neg h, if_neg (fun e => h e.symm)]; omega
  eq a b h := by
    unfold cmpL at h
    split at h
    · rename_i e; exact difL_eq a b e h
    · omega
  tr a b d h1 h2 := by
    unfold cmpL at *
    by_cases e1 : a.length = b.length
    · by_cases e2 : b.length = d.length
      · rw [if_pos e1] at h1; rw [if_pos e2] at h2; rw [if_pos (e1.trans e2)]
        exact difL_tr a b d e1 e2 h1 h2
      · rw [if_neg e2] at h2; rw [if_neg (by omega)]; omega
    · rw [if_neg e1] at h1
      by_cases e2 : b.length = d.length
      · rw [if_neg (by omega)]; omega
      · rw [if_neg e2] at h2; rw [if_neg (by omega)]; omega
theorem insG_mem {c : α → α → Int} {p x : α} : ∀ {l : List α}, x ∈ insG c p l ↔ x = p ∨ x ∈ l
  | [] => by simp [insG]
  | q :: l => by
    simp only [insG]
    split
    · rw [List.mem_cons, insG_mem (l := l), List.mem_cons]
      exact ⟨fun h => h.elim (fun h => .inr (.inl h)) (fun h => h.elim .inl (fun h => .inr (.inr h))), fun h => h.elim (fun h => .inr (.inl h)) (fun h => h.elim .inl (fun h => .inr (.inr h)))⟩
    · rw [List.mem_cons]
theorem insG_sorted {c : α → α → Int} (hc : Cmp c) {p : α} : ∀ {l : List α}, l.Pairwise (fun a b => c a b < 0) → p ∉ l → (insG c p l).Pairwise (fun a b => c a b < 0)
  | [], _, _ => by simp [insG]
  | q :: l, h, hp => by
    simp only [insG]
    rw [List.pairwise_cons] at h
    split
    · rename_i hq
      rw [List.pairwise_cons]
      refine ⟨fun x hx => ?_, insG_sorted hc h.2 (fun hm => hp (List.mem_cons_of_mem _ hm))⟩
      rcases insG_mem.1 hx with rfl | hx
      · exact hq
      · exact h.1 x hx
    · rename_i hq
      have hpq : c p q < 0 := by
        have h1 := hc.neg q p
        have h2 : c q p ≠ 0 := fun e => hp (by rw [hc.eq _ _ e]; exact List.mem_cons_self ..)
        omega
      rw [List.pairwise_cons, List.pairwise_cons]
      refine ⟨fun x hx => ?_, h⟩
      rcases List.mem_cons.1 hx with rfl | hx
      · exact hpq
      · exact hc.tr _ _ _ hpq (h.1 x hx)
theorem srt_one {c : α → α → Int} (hc : Cmp c) : ∀ {a b : List α}, a.Pairwise (fun x y => c x y < 0) → b.Pairwise (fun x y => c x y < 0) → (∀ x, x ∈ a ↔ x ∈ b) → a = b
  | [], [], _, _, _ => rfl
  | [], y :: b, _, _, h => absurd ((h y).2 (List.mem_cons_self ..)) (by simp)
  | x :: a, [], _, _, h => absurd ((h x).1 (List.mem_cons_self ..)) (by simp)
  | x :: a, y :: b, ha, hb, h => by
    rw [List.pairwise_cons] at ha hb
    have irr : ∀ z, ¬ c z z < 0 := fun z hz => by have := hc.neg z z; omega
    have hxy : x = y := by
      rcases List.mem_cons.1 ((h x).1 (List.mem_cons_self ..)) with e | e
      · exact e
      · rcases List.mem_cons.1 ((h y).2 (List.mem_cons_self ..)) with e' | e'
        · exact e'.symm
        · have h1 := hb.1 x e
          have h2 := ha.1 y e'
          exact absurd (hc.tr _ _ _ h1 h2) (irr _)
    subst hxy
    refine congrArg (x :: ·) (srt_one hc ha.2 hb.2 fun z => ?_)
    constructor
    · intro hz
      rcases List.mem_cons.1 ((h z).1 (List.mem_cons_of_mem _ hz)) with e | e
      · subst e; exact absurd (ha.1 _ hz) (irr _)
      · exact e
    · intro hz
      rcases List.mem_cons.1 ((h z).2 (List.mem_cons_of_mem _ hz)) with e | e
      · subst e; exact absurd (hb.1 _ hz) (irr _)
      · exact e
end
/-- The numbers below n whose bits are set. -/
def bitsN (n s : Nat) : List Int := sel (fun i => s.testBit i) n
theorem bitsN_testBit {n s i : Nat} (h : i < n) : (i : Int) ∈ bitsN n s ↔ s.testBit i = true := by
  unfold bitsN
  rw [sel_memN]
  exact ⟨fun h => h.2, fun k => ⟨h, k⟩⟩
theorem bitsN_inj {n s t : Nat} (hs : s < 2 ^ n) (ht : t < 2 ^ n) (h : bitsN n s = bitsN n t) : s = t := by
  apply Nat.eq_of_testBit_eq
  intro i
  by_cases hi : i < n
  · have h1 := bitsN_testBit (n := n) (s := s) hi
    have h2 := bitsN_testBit (n := n) (s := t) hi
    rw [h] at h1
    rw [Bool.eq_iff_iff]
    exact h1.symm.trans h2
  · have hp : 2 ^ n ≤ 2 ^ i := Nat.pow_le_pow_right (by omega) (by omega)
    rw [Nat.testBit_lt_two_pow (by omega), Nat.testBit_lt_two_pow (by omega)]
/-- All lists of numbers below n, in order. -/
def subsL (n : Nat) : List (List Int) := (List.range (2 ^ n)).foldr (fun s l => insG cmpL (bitsN n s) l) []
theorem subs_gen {n : Nat} : ∀ (l : List Nat), l.Nodup → (∀ s ∈ l, s < 2 ^ n) → (∀ x, x ∈ l.foldr (fun s l => insG cmpL (bitsN n s) l) [] ↔ ∃ s ∈ l, bitsN n s = x) ∧ (l.foldr (fun s l => insG cmpL (bitsN n s) l) []).Pairwise (fun a b => cmpL a b < 0)
  | [], _, _ => by simp
  | s :: l, hn, hl => by
    rw [List.nodup_cons] at hn
    obtain ⟨h1, h2⟩ := subs_gen l hn.2 (fun t ht => hl t (List.mem_cons_of_mem _ ht))
    simp only [List.foldr_cons]
    refine ⟨fun x => ?_, insG_sorted cmpL_cmp h2 fun hm => ?_⟩
    · rw [insG_mem, h1]
      constructor
      · rintro (rfl | ⟨t, ht, rfl⟩)
        · exact ⟨s, List.mem_cons_self .., rfl⟩
        · exact ⟨t, List.mem_cons_of_mem _ ht, rfl⟩
      · rintro ⟨t, ht, rfl⟩
        rcases List.mem_cons.1 ht with rfl | ht
        · exact .inl rfl
        · exact .inr ⟨t, ht, rfl⟩
    · obtain ⟨t, ht, e⟩ := (h1 _).1 hm
      have := bitsN_inj (hl t (List.mem_cons_of_mem _ ht)) (hl s (List.mem_cons_self ..)) e
      subst this
      exact hn.1 ht
theorem subs_mem {n : Nat} {x : List Int} : x ∈ subsL n ↔ ∃ s, s < 2 ^ n ∧ bitsN n s = x := by
  rw [subsL, (subs_gen (n := n) (List.range (2 ^ n)) List.nodup_range (by simp)).1]
  simp
theorem subs_sorted (n : Nat) : (subsL n).Pairwise (fun a b => cmpL a b < 0) := (subs_gen (n := n) (List.range (2 ^ n)) List.nodup_range (by simp)).2
/-- The parts with given nodes. -/
def rowA (g : G) (ns : List Int) (l : List (List Int)) : List Mo := (l.map fun es => (⟨ns, es⟩ : Mo)).filter fun p => decide (rightP g p = 0)
def allP (g : G) : List Mo := (subsL g.n.length).flatMap fun ns => rowA g ns (subsL g.e.length)
/-- Lists of lists. -/
def iis (l : List (List Int)) : List D := l.map fun x => .lst 1 (ints x)
theorem iis_length (l : List (List Int)) : (iis l).length = l.length := by simp [iis]
theorem iis_get {l : List (List Int)} {i : Nat} (h : i < l.length) : (iis l)[i]? = some (.lst 1 (ints (gt l (i : Int)))) := by
  rw [gt_nat h]
  simp [iis, h]
theorem bitsN_len (n s : Nat) : (bitsN n s).length ≤ n := sel_len _ _
end Go.Am
namespace Go.Am
open Go
set_option linter.unusedVariables false
set_option linter.unusedSimpArgs false
attribute [local irreducible] W
attribute [go_sem] iis_length iis_get
def allR (g : G) : List Mo × Int := if validG g ≠ 0 then ([], validG g) else if 6 < g.n.length + g.e.length then ([], 3) else (allP g, 0)
section
variable (P : Program) (F : String → Nat)
end
section
variable {P : Program} {F : String → Nat} {α : Type}
theorem bit_and (s i : Nat) (hs : s ≤ 1000000) (hi : i ≤ 60) : decide (IntKind.i64.wrap ((BitVec.ofInt 64 ((s : Int).fdiv (2 ^ (min i 64))) &&& BitVec.ofInt 64 1).toNat : Int) = 1) = s.testBit i := by
  rw [show BitVec.ofInt 64 1 = 1#64 from rfl]
  have e1 : (s : Int).fdiv (2 ^ (min i 64)) = ((s / 2 ^ i : Nat) : Int) := by
    have : min i 64 = i := by omega
    rw [this]
    rw [Int.fdiv_eq_ediv_of_nonneg _ (Int.le_of_lt (Int.pow_pos (by decide)))]
    simp
  have hle : s / 2 ^ i ≤ s := Nat.div_le_self _ _
  have e2 : ((BitVec.ofInt 64 ((s / 2 ^ i : Nat) : Int)) &&& 1#64).toNat = (s / 2 ^ i) % 2 := by
    rw [BitVec.toNat_and]
    have : (BitVec.ofInt 64 ((s / 2 ^ i : Nat) : Int)).toNat = s / 2 ^ i := by
      rw [BitVec.ofInt_natCast, BitVec.toNat_ofNat]
      exact Nat.mod_eq_of_lt (by omega)
    rw [this]
    exact Nat.and_one_is_mod _
  rw [e1, e2]
  rw [Nat.testBit_eq_decide_div_mod_eq]
  have h2 : (s / 2 ^ i) % 2 < 2 := Nat.mod_lt _ (by omega)
  rw [wrap_i64 (by omega) (by omega)]
  rw [decide_eq_decide]
  omega
theorem pow6 {k : Nat} (h : k ≤ 6) : 2 ^ k ≤ 64 := Nat.le_trans (Nat.pow_le_pow_right (by omega) h) (by omega)
end
end Go.Am
namespace Go.Am
open Go
set_option linter.unusedVariables false
set_option linter.unusedSimpArgs false
attribute [local irreducible] W
/- cmp.Compare.I -/
def c_cmp_Compare_I_r0 (F : String → Nat) : List LI := [⟨some 4, .mov (.k (.int .i64 (0))), none⟩]
def c_cmp_Compare_I_r1 (F : String → Nat) : List LI := [⟨some 7, .mov (.t 0), none⟩,
  ⟨some 8, .call (F "cmp.isNaN.I") [.t 7] [], none⟩,
  ⟨some 5, .mov (.t 8), none⟩]
def c_cmp_Compare_I_r2 (F : String → Nat) : List LI := [⟨some 9, .mov (.t 1), none⟩,
  ⟨some 10, .call (F "cmp.isNaN.I") [.t 9] [], none⟩,
  ⟨some 6, .mov (.t 10), none⟩]
def c_cmp_Compare_I_r3 (F : String → Nat) : List LI := [⟨some 11, .mov (.t 5), none⟩]
def c_cmp_Compare_I_r4 (F : String → Nat) : List LI := [⟨some 12, .mov (.t 6), none⟩]
def c_cmp_Compare_I_r5 (F : String → Nat) : List LI := [⟨some 4, .mov (.k (.int .i64 (0))), none⟩]
def c_cmp_Compare_I_r6 (F : String → Nat) : List LI := [⟨some 4, .mov (.k (.int .i64 (-1))), none⟩]
def c_cmp_Compare_I_r7 (F : String → Nat) : List LI := [⟨some 13, .mov (.t 6), none⟩]
def c_cmp_Compare_I_r8 (F : String → Nat) : List LI := [⟨some 4, .mov (.k (.int .i64 (1))), none⟩]
def c_cmp_Compare_I_r9 (F : String → Nat) : List LI := [⟨some 14, .mov (.t 0), none⟩,
  ⟨some 15, .mov (.t 1), none⟩,
  ⟨some 16, .bin .lss (.t 14) (.t 15), none⟩]
def c_cmp_Compare_I_r10 (F : String → Nat) : List LI := [⟨some 4, .mov (.k (.int .i64 (-1))), none⟩]
def c_cmp_Compare_I_r11 (F : String → Nat) : List LI := [⟨some 17, .mov (.t 0), none⟩,
  ⟨some 18, .mov (.t 1), none⟩,
  ⟨some 19, .bin .gtr (.t 17) (.t 18), none⟩]
def c_cmp_Compare_I_r12 (F : String → Nat) : List LI := [⟨some 4, .mov (.k (.int .i64 (1))), none⟩]
def c_cmp_Compare_I_r13 (F : String → Nat) : List LI := [⟨some 4, .mov (.k (.int .i64 (0))), none⟩]
def c_cmp_Compare_I (F : String → Nat) : LC := (.seq (.reg (c_cmp_Compare_I_r0 F) [0, 1]) (.seq (.reg (c_cmp_Compare_I_r1 F) [0, 1, 5]) (.seq (.reg (c_cmp_Compare_I_r2 F) [0, 1, 5, 6]) (.seq (.seq (.reg (c_cmp_Compare_I_r3 F) [0, 1, 6, 11]) (.cond (.t 11) (.seq (.seq (.reg (c_cmp_Compare_I_r4 F) [12]) (.cond (.t 12) (.seq (.reg (c_cmp_Compare_I_r5 F) [4]) .ret) .skip)) (.seq (.reg (c_cmp_Compare_I_r6 F) [4]) .ret)) .skip)) (.seq (.seq (.reg (c_cmp_Compare_I_r7 F) [0, 1, 13]) (.cond (.t 13) (.seq (.reg (c_cmp_Compare_I_r8 F) [4]) .ret) .skip)) (.seq (.seq (.reg (c_cmp_Compare_I_r9 F) [0, 1, 16]) (.cond (.t 16) (.seq (.reg (c_cmp_Compare_I_r10 F) [4]) .ret) .skip)) (.seq (.seq (.reg (c_cmp_Compare_I_r11 F) [19]) (.cond (.t 19) (.seq (.reg (c_cmp_Compare_I_r12 F) [4]) .ret) .skip)) (.seq (.reg (c_cmp_Compare_I_r13 F) [4]) .ret))))))))
def h_cmp_Compare_I : Hints := ⟨[], fun _ => [], tab [(0, [0, 1]), (1, [0, 1, 5]), (2, [0, 1, 5, 6]), (3, [0, 1, 6, 11]), (4, [12]), (5, [4]), (6, [4]), (7, [0, 1, 13]), (8, [4]), (9, [0, 1, 16]), (10, [4]), (11, [19]), (12, [4]), (13, [4])], tab []⟩

/- slices.Compare.I -/
def c_slices_Compare_I_r0 (F : String → Nat) : List LI := [⟨some 4, .mov (.k (.int .i64 (0))), none⟩]
def c_slices_Compare_I_r1 (F : String → Nat) : List LI := [⟨some 9, .mov (.t 0), none⟩,
  ⟨some 10, .len (.t 9), none⟩,
  ⟨some 11, .mov (.k (.int .i64 (0))), none⟩]
def c_slices_Compare_I_r2 (F : String → Nat) : List LI := [⟨some 12, .bin .lss (.t 11) (.t 10), none⟩]
def c_slices_Compare_I_r3 (F : String → Nat) : List LI := [⟨some 13, .mov (.t 11), none⟩,
  ⟨some 14, .iad 1 (.t 9) (.t 11), none⟩,
  ⟨some 15, .load false 1 (.t 14), none⟩,
  ⟨some 5, .mov (.t 13), none⟩,
  ⟨some 6, .mov (.t 15), none⟩]
def c_slices_Compare_I_r4 (F : String → Nat) : List LI := [⟨some 16, .mov (.t 5), none⟩,
  ⟨some 17, .mov (.t 1), none⟩,
  ⟨some 18, .len (.t 17), none⟩,
  ⟨some 19, .bin .geq (.t 16) (.t 18), none⟩]
def c_slices_Compare_I_r5 (F : String → Nat) : List LI := [⟨some 4, .mov (.k (.int .i64 (1))), none⟩]
def c_slices_Compare_I_r6 (F : String → Nat) : List LI := [⟨some 20, .mov (.t 1), none⟩,
  ⟨some 21, .mov (.t 5), none⟩,
  ⟨some 22, .iad 1 (.t 20) (.t 21), none⟩,
  ⟨some 23, .load false 1 (.t 22), none⟩,
  ⟨some 7, .mov (.t 23), none⟩]
def c_slices_Compare_I_r7 (F : String → Nat) : List LI := [⟨some 24, .mov (.t 6), none⟩,
  ⟨some 25, .mov (.t 7), none⟩,
  ⟨some 26, .call (F "cmp.Compare.I") [.t 24, .t 25] [], none⟩,
  ⟨some 8, .mov (.t 26), none⟩]
def c_slices_Compare_I_r8 (F : String → Nat) : List LI := [⟨some 27, .mov (.t 8), none⟩,
  ⟨some 28, .bin .neq (.t 27) (.k (.int .i64 (0))), none⟩]
def c_slices_Compare_I_r9 (F : String → Nat) : List LI := [⟨some 29, .mov (.t 8), none⟩,
  ⟨some 4, .mov (.t 29), none⟩]
def c_slices_Compare_I_r10 (F : String → Nat) : List LI := [⟨some 30, .bin .add (.t 11) (.k (.int .i64 (1))), none⟩,
  ⟨some 11, .mov (.t 30), none⟩]
def c_slices_Compare_I_b11 (F : String → Nat) : LC := (.seq (.reg (c_slices_Compare_I_r2 F) [0, 1, 9, 10, 11, 12]) (.seq (.cond (.t 12) .skip (.exit 0)) (.seq (.block 1 (.seq (.reg (c_slices_Compare_I_r3 F) [0, 1, 5, 6, 9, 10, 11]) (.seq (.seq (.reg (c_slices_Compare_I_r4 F) [0, 1, 5, 6, 9, 10, 11, 19]) (.cond (.t 19) (.seq (.reg (c_slices_Compare_I_r5 F) [4]) .ret) .skip)) (.seq (.reg (c_slices_Compare_I_r6 F) [0, 1, 6, 7, 9, 10, 11]) (.seq (.reg (c_slices_Compare_I_r7 F) [0, 1, 8, 9, 10, 11]) (.seq (.reg (c_slices_Compare_I_r8 F) [0, 1, 8, 9, 10, 11, 28]) (.cond (.t 28) (.seq (.reg (c_slices_Compare_I_r9 F) [4]) .ret) .skip))))))) (.reg (c_slices_Compare_I_r10 F) [0, 1, 9, 10, 11]))))
def c_slices_Compare_I_r12 (F : String → Nat) : List LI := [⟨some 31, .mov (.t 0), none⟩,
  ⟨some 32, .len (.t 31), none⟩,
  ⟨some 33, .mov (.t 1), none⟩,
  ⟨some 34, .len (.t 33), none⟩,
  ⟨some 35, .bin .lss (.t 32) (.t 34), none⟩]
def c_slices_Compare_I_r13 (F : String → Nat) : List LI := [⟨some 4, .mov (.k (.int .i64 (-1))), none⟩]
def c_slices_Compare_I_r14 (F : String → Nat) : List LI := [⟨some 4, .mov (.k (.int .i64 (0))), none⟩]
def c_slices_Compare_I (F : String → Nat) : LC := (.seq (.reg (c_slices_Compare_I_r0 F) [0, 1]) (.seq (.seq (.reg (c_slices_Compare_I_r1 F) [0, 1, 9, 10, 11]) (.block 0 (.loop [0, 1, 9, 10, 11] (c_slices_Compare_I_b11 F)))) (.seq (.seq (.reg (c_slices_Compare_I_r12 F) [35]) (.cond (.t 35) (.seq (.reg (c_slices_Compare_I_r13 F) [4]) .ret) .skip)) (.seq (.reg (c_slices_Compare_I_r14 F) [4]) .ret))))
def h_slices_Compare_I : Hints := ⟨[], fun _ => [], tab [(0, [0, 1]), (1, [0, 1, 9, 10, 11]), (2, [0, 1, 9, 10, 11, 12]), (3, [0, 1, 5, 6, 9, 10, 11]), (4, [0, 1, 5, 6, 9, 10, 11, 19]), (5, [4]), (6, [0, 1, 6, 7, 9, 10, 11]), (7, [0, 1, 8, 9, 10, 11]), (8, [0, 1, 8, 9, 10, 11, 28]), (9, [4]), (10, [0, 1, 9, 10, 11]), (11, [35]), (12, [4]), (13, [4])], tab [(2, [0, 1, 9, 10, 11])]⟩

/- cmp.Or.I -/
def c_cmp_Or_I_r0 (F : String → Nat) : List LI := [⟨some 2, .mov (.k (.int .i64 (0))), none⟩]
def c_cmp_Or_I_r1 (F : String → Nat) : List LI := [⟨some 3, .mov (.k (.int .i64 (0))), none⟩]
def c_cmp_Or_I_r2 (F : String → Nat) : List LI := [⟨some 6, .mov (.t 0), none⟩,
  ⟨some 7, .len (.t 6), none⟩,
  ⟨some 8, .mov (.k (.int .i64 (0))), none⟩]
def c_cmp_Or_I_r3 (F : String → Nat) : List LI := [⟨some 9, .bin .lss (.t 8) (.t 7), none⟩]
def c_cmp_Or_I_r4 (F : String → Nat) : List LI := [⟨some 10, .iad 1 (.t 6) (.t 8), none⟩,
  ⟨some 11, .load false 1 (.t 10), none⟩,
  ⟨some 5, .mov (.t 11), none⟩]
def c_cmp_Or_I_r5 (F : String → Nat) : List LI := [⟨some 12, .mov (.t 5), none⟩,
  ⟨some 13, .mov (.t 3), none⟩,
  ⟨some 14, .bin .neq (.t 12) (.t 13), none⟩]
def c_cmp_Or_I_r6 (F : String → Nat) : List LI := [⟨some 15, .mov (.t 5), none⟩,
  ⟨some 2, .mov (.t 15), none⟩]
def c_cmp_Or_I_r7 (F : String → Nat) : List LI := [⟨some 16, .bin .add (.t 8) (.k (.int .i64 (1))), none⟩,
  ⟨some 8, .mov (.t 16), none⟩]
def c_cmp_Or_I_b8 (F : String → Nat) : LC := (.seq (.reg (c_cmp_Or_I_r3 F) [3, 6, 7, 8, 9]) (.seq (.cond (.t 9) .skip (.exit 0)) (.seq (.block 1 (.seq (.reg (c_cmp_Or_I_r4 F) [3, 5, 6, 7, 8]) (.seq (.reg (c_cmp_Or_I_r5 F) [3, 5, 6, 7, 8, 14]) (.cond (.t 14) (.seq (.reg (c_cmp_Or_I_r6 F) [2]) .ret) .skip)))) (.reg (c_cmp_Or_I_r7 F) [3, 6, 7, 8]))))
def c_cmp_Or_I_r9 (F : String → Nat) : List LI := [⟨some 17, .mov (.t 3), none⟩,
  ⟨some 2, .mov (.t 17), none⟩]
def c_cmp_Or_I (F : String → Nat) : LC := (.seq (.reg (c_cmp_Or_I_r0 F) [0]) (.seq (.reg (c_cmp_Or_I_r1 F) [0, 3]) (.seq (.seq (.reg (c_cmp_Or_I_r2 F) [3, 6, 7, 8]) (.block 0 (.loop [3, 6, 7, 8] (c_cmp_Or_I_b8 F)))) (.seq (.reg (c_cmp_Or_I_r9 F) [2]) .ret))))
def h_cmp_Or_I : Hints := ⟨[], fun _ => [], tab [(0, [0]), (1, [0, 3]), (2, [3, 6, 7, 8]), (3, [3, 6, 7, 8, 9]), (4, [3, 5, 6, 7, 8]), (5, [3, 5, 6, 7, 8, 14]), (6, [2]), (7, [3, 6, 7, 8]), (8, [2])], tab [(3, [3, 6, 7, 8])]⟩

/- subgraph.subsets.1 -/
def c_subgraph_subsets_1_r0 (F : String → Nat) : List LI := [⟨some 4, .mov (.k (.int .i64 (0))), none⟩]
def c_subgraph_subsets_1_r1 (F : String → Nat) : List LI := [⟨some 5, .mov (.t 0), none⟩,
  ⟨some 6, .len (.t 5), none⟩,
  ⟨some 7, .mov (.t 1), none⟩,
  ⟨some 8, .len (.t 7), none⟩,
  ⟨some 9, .call (F "cmp.Compare.I") [.t 6, .t 8] [], none⟩,
  ⟨some 10, .mov (.t 0), none⟩,
  ⟨some 11, .mov (.t 1), none⟩,
  ⟨some 12, .call (F "slices.Compare.I") [.t 10, .t 11] [], none⟩,
  ⟨some 13, .buildSl 1 8 (.int .i64 (0)) 2 [(0, .t 9), (1, .t 12)], none⟩,
  ⟨some 14, .call (F "cmp.Or.I") [.t 13] [], none⟩,
  ⟨some 4, .mov (.t 14), none⟩]
def c_subgraph_subsets_1 (F : String → Nat) : LC := (.seq (.reg (c_subgraph_subsets_1_r0 F) [0, 1]) (.seq (.reg (c_subgraph_subsets_1_r1 F) [4]) .ret))
def h_subgraph_subsets_1 : Hints := ⟨[], fun _ => [], tab [(0, [0, 1]), (1, [4])], tab []⟩

/- subgraph.subsets -/
def c_subgraph_subsets_r0 (F : String → Nat) : List LI := [⟨some 2, .mov (.k (.nl 1)), none⟩]
def c_subgraph_subsets_r1 (F : String → Nat) : List LI := [⟨some 3, .mov (.k (.nl 1)), none⟩]
def c_subgraph_subsets_r2 (F : String → Nat) : List LI := [⟨some 7, .mov (.t 0), none⟩,
  ⟨some 8, .bin .shl (.k (.int .i64 (1))) (.t 7), none⟩,
  ⟨some 9, .mov (.k (.int .i64 (0))), none⟩]
def c_subgraph_subsets_r3 (F : String → Nat) : List LI := [⟨some 10, .bin .lss (.t 9) (.t 8), none⟩]
def c_subgraph_subsets_r4 (F : String → Nat) : List LI := [⟨some 11, .mov (.t 9), none⟩,
  ⟨some 4, .mov (.t 11), none⟩]
def c_subgraph_subsets_r5 (F : String → Nat) : List LI := [⟨some 5, .mov (.k (.nl 1)), none⟩]
def c_subgraph_subsets_r6 (F : String → Nat) : List LI := [⟨some 12, .mov (.t 0), none⟩,
  ⟨some 13, .mov (.k (.int .i64 (0))), none⟩]
def c_subgraph_subsets_r7 (F : String → Nat) : List LI := [⟨some 14, .bin .lss (.t 13) (.t 12), none⟩]
def c_subgraph_subsets_r8 (F : String → Nat) : List LI := [⟨some 15, .mov (.t 13), none⟩,
  ⟨some 6, .mov (.t 15), none⟩]
def c_subgraph_subsets_r9 (F : String → Nat) : List LI := [⟨some 16, .mov (.t 4), none⟩,
  ⟨some 17, .mov (.t 6), none⟩,
  ⟨some 18, .bin .shr (.t 16) (.t 17), none⟩,
  ⟨some 19, .bin .and (.t 18) (.k (.int .i64 (1))), none⟩,
  ⟨some 20, .bin .eql (.t 19) (.k (.int .i64 (1))), none⟩]
def c_subgraph_subsets_r10 (F : String → Nat) : List LI := [⟨some 21, .mov (.t 5), none⟩,
  ⟨some 22, .mov (.t 6), none⟩,
  ⟨some 23, .buildSl 1 8 (.int .i64 (0)) 1 [(0, .t 22)], none⟩,
  ⟨some 24, .app 1 8 (.t 21) (.t 23), none⟩,
  ⟨some 5, .mov (.t 24), none⟩]
def c_subgraph_subsets_r11 (F : String → Nat) : List LI := [⟨some 25, .bin .add (.t 13) (.k (.int .i64 (1))), none⟩,
  ⟨some 13, .mov (.t 25), none⟩]
def c_subgraph_subsets_b12 (F : String → Nat) : LC := (.seq (.reg (c_subgraph_subsets_r7 F) [0, 3, 4, 5, 8, 9, 12, 13, 14]) (.seq (.cond (.t 14) .skip (.exit 2)) (.seq (.block 3 (.seq (.reg (c_subgraph_subsets_r8 F) [0, 3, 4, 5, 6, 8, 9, 12, 13]) (.seq (.reg (c_subgraph_subsets_r9 F) [0, 3, 4, 5, 6, 8, 9, 12, 13, 20]) (.cond (.t 20) (.reg (c_subgraph_subsets_r10 F) [0, 3, 4, 5, 8, 9, 12, 13]) .skip)))) (.reg (c_subgraph_subsets_r11 F) [0, 3, 4, 5, 8, 9, 12, 13]))))
def c_subgraph_subsets_r13 (F : String → Nat) : List LI := [⟨some 26, .mov (.t 3), none⟩,
  ⟨some 27, .mov (.t 5), none⟩,
  ⟨some 28, .buildSl 1 24 (.lst 1 []) 1 [(0, .t 27)], none⟩,
  ⟨some 29, .app 1 24 (.t 26) (.t 28), none⟩,
  ⟨some 3, .mov (.t 29), none⟩]
def c_subgraph_subsets_r14 (F : String → Nat) : List LI := [⟨some 30, .bin .add (.t 9) (.k (.int .i64 (1))), none⟩,
  ⟨some 9, .mov (.t 30), none⟩]
def c_subgraph_subsets_b15 (F : String → Nat) : LC := (.seq (.reg (c_subgraph_subsets_r3 F) [0, 3, 8, 9, 10]) (.seq (.cond (.t 10) .skip (.exit 0)) (.seq (.block 1 (.seq (.reg (c_subgraph_subsets_r4 F) [0, 3, 4, 8, 9]) (.seq (.reg (c_subgraph_subsets_r5 F) [0, 3, 4, 5, 8, 9]) (.seq (.seq (.reg (c_subgraph_subsets_r6 F) [0, 3, 4, 5, 8, 9, 12, 13]) (.block 2 (.loop [0, 3, 4, 5, 8, 9, 12, 13] (c_subgraph_subsets_b12 F)))) (.reg (c_subgraph_subsets_r13 F) [0, 3, 8, 9]))))) (.reg (c_subgraph_subsets_r14 F) [0, 3, 8, 9]))))
def c_subgraph_subsets_r16 (F : String → Nat) : List LI := [⟨some 31, .mov (.t 3), none⟩,
  ⟨some 32, .call (F "slices.SortFunc.int3") [.t 31, .k (.clo (F "subgraph.subsets.1") [])] [.mu, .rd], none⟩]
def c_subgraph_subsets_r17 (F : String → Nat) : List LI := [⟨some 33, .mov (.t 3), none⟩,
  ⟨some 2, .mov (.t 33), none⟩]
def c_subgraph_subsets (F : String → Nat) : LC := (.seq (.reg (c_subgraph_subsets_r0 F) [0]) (.seq (.reg (c_subgraph_subsets_r1 F) [0, 3]) (.seq (.seq (.reg (c_subgraph_subsets_r2 F) [0, 3, 8, 9]) (.block 0 (.loop [0, 3, 8, 9] (c_subgraph_subsets_b15 F)))) (.seq (.reg (c_subgraph_subsets_r16 F) [3]) (.seq (.reg (c_subgraph_subsets_r17 F) [2]) .ret)))))
def h_subgraph_subsets : Hints := ⟨[], fun _ => [], tab [(0, [0]), (1, [0, 3]), (2, [0, 3, 8, 9]), (3, [0, 3, 8, 9, 10]), (4, [0, 3, 4, 8, 9]), (5, [0, 3, 4, 5, 8, 9]), (6, [0, 3, 4, 5, 8, 9, 12, 13]), (7, [0, 3, 4, 5, 8, 9, 12, 13, 14]), (8, [0, 3, 4, 5, 6, 8, 9, 12, 13]), (9, [0, 3, 4, 5, 6, 8, 9, 12, 13, 20]), (10, [0, 3, 4, 5, 8, 9, 12, 13]), (11, [0, 3, 4, 5, 8, 9, 12, 13]), (12, [0, 3, 8, 9]), (13, [0, 3, 8, 9]), (14, [3]), (15, [2])], tab [(3, [0, 3, 8, 9]), (7, [0, 3, 4, 5, 8, 9, 12, 13])]⟩

/- subgraph.All -/
def c_subgraph_All_r0 (F : String → Nat) : List LI := [⟨some 1, .bx (.t 0), none⟩,
  ⟨some 2, .mov (.k (.nl 2)), none⟩,
  ⟨some 3, .mov (.k (.int .i64 (0))), none⟩]
def c_subgraph_All_r1 (F : String → Nat) : List LI := [⟨some 11, .load true 2 (.t 1), none⟩,
  ⟨some 12, .call (F "graph.Valid") [.t 11] [], none⟩,
  ⟨some 4, .mov (.t 12), none⟩]
def c_subgraph_All_r2 (F : String → Nat) : List LI := [⟨some 13, .mov (.t 4), none⟩,
  ⟨some 14, .bin .neq (.t 13) (.k (.int .i64 (0))), none⟩]
def c_subgraph_All_r3 (F : String → Nat) : List LI := [⟨some 15, .mov (.t 4), none⟩,
  ⟨some 2, .mov (.k (.nl 2)), none⟩,
  ⟨some 3, .mov (.t 15), none⟩]
def c_subgraph_All_r4 (F : String → Nat) : List LI := [⟨some 16, .fad 0 (.t 1), none⟩,
  ⟨some 17, .load false 1 (.t 16), none⟩,
  ⟨some 18, .len (.t 17), none⟩,
  ⟨some 19, .fad 1 (.t 1), none⟩,
  ⟨some 20, .load false 1 (.t 19), none⟩,
  ⟨some 21, .len (.t 20), none⟩,
  ⟨some 22, .bin .add (.t 18) (.t 21), none⟩,
  ⟨some 23, .bin .gtr (.t 22) (.k (.int .i64 (6))), none⟩]
def c_subgraph_All_r5 (F : String → Nat) : List LI := [⟨some 2, .mov (.k (.nl 2)), none⟩,
  ⟨some 3, .mov (.k (.int .i64 (3))), none⟩]
def c_subgraph_All_r6 (F : String → Nat) : List LI := [⟨some 5, .mov (.k (.nl 2)), none⟩]
def c_subgraph_All_r7 (F : String → Nat) : List LI := [⟨some 24, .fad 0 (.t 1), none⟩,
  ⟨some 25, .load false 1 (.t 24), none⟩,
  ⟨some 26, .len (.t 25), none⟩,
  ⟨some 27, .call (F "subgraph.subsets") [.t 26] [], none⟩,
  ⟨some 28, .len (.t 27), none⟩,
  ⟨some 29, .mov (.k (.int .i64 (0))), none⟩]
def c_subgraph_All_r8 (F : String → Nat) : List LI := [⟨some 30, .bin .lss (.t 29) (.t 28), none⟩]
def c_subgraph_All_r9 (F : String → Nat) : List LI := [⟨some 31, .iad 1 (.t 27) (.t 29), none⟩,
  ⟨some 32, .load false 1 (.t 31), none⟩,
  ⟨some 7, .mov (.t 32), none⟩]
def c_subgraph_All_r10 (F : String → Nat) : List LI := [⟨some 33, .fad 1 (.t 1), none⟩,
  ⟨some 34, .load false 1 (.t 33), none⟩,
  ⟨some 35, .len (.t 34), none⟩,
  ⟨some 36, .call (F "subgraph.subsets") [.t 35] [], none⟩,
  ⟨some 37, .len (.t 36), none⟩,
  ⟨some 38, .mov (.k (.int .i64 (0))), none⟩]
def c_subgraph_All_r11 (F : String → Nat) : List LI := [⟨some 39, .bin .lss (.t 38) (.t 37), none⟩]
def c_subgraph_All_r12 (F : String → Nat) : List LI := [⟨some 40, .iad 1 (.t 36) (.t 38), none⟩,
  ⟨some 41, .load false 1 (.t 40), none⟩,
  ⟨some 9, .mov (.t 41), none⟩]
def c_subgraph_All_r13 (F : String → Nat) : List LI := [⟨some 42, .mov (.t 7), none⟩,
  ⟨some 43, .call (F "slices.Clone.I") [.t 42] [], none⟩,
  ⟨some 44, .mov (.t 9), none⟩,
  ⟨some 45, .build [.nl 1, .nl 1] [(0, 1, .t 43), (1, 1, .t 44)], none⟩,
  ⟨some 10, .alloc [.nl 1, .nl 1], none⟩,
  ⟨none, .store 2 (.t 10) (.t 45), none⟩]
def c_subgraph_All_r14 (F : String → Nat) : List LI := [⟨some 46, .load true 2 (.t 1), none⟩,
  ⟨some 47, .load true 2 (.t 10), none⟩,
  ⟨some 48, .call (F "subgraph.part") [.t 46, .t 47] [], none⟩,
  ⟨some 49, .bin .eql (.t 48) (.k (.int .i64 (0))), none⟩]
def c_subgraph_All_r15 (F : String → Nat) : List LI := [⟨some 50, .mov (.t 5), none⟩,
  ⟨some 51, .load true 2 (.t 10), none⟩,
  ⟨some 52, .buildSl 2 48 (.agg [.lst 1 [], .lst 1 []]) 1 [(0, .t 51)], none⟩,
  ⟨some 53, .app 2 48 (.t 50) (.t 52), none⟩,
  ⟨some 5, .mov (.t 53), none⟩]
def c_subgraph_All_r16 (F : String → Nat) : List LI := [⟨some 54, .bin .add (.t 38) (.k (.int .i64 (1))), none⟩,
  ⟨some 38, .mov (.t 54), none⟩]
def c_subgraph_All_b17 (F : String → Nat) : LC := (.seq (.reg (c_subgraph_All_r11 F) [1, 5, 7, 27, 28, 29, 36, 37, 38, 39]) (.seq (.cond (.t 39) .skip (.exit 2)) (.seq (.block 3 (.seq (.reg (c_subgraph_All_r12 F) [1, 5, 7, 9, 27, 28, 29, 36, 37, 38]) (.seq (.reg (c_subgraph_All_r13 F) [1, 5, 7, 10, 27, 28, 29, 36, 37, 38]) (.seq (.reg (c_subgraph_All_r14 F) [1, 5, 7, 10, 27, 28, 29, 36, 37, 38, 49]) (.cond (.t 49) (.reg (c_subgraph_All_r15 F) [1, 5, 7, 27, 28, 29, 36, 37, 38]) .skip))))) (.reg (c_subgraph_All_r16 F) [1, 5, 7, 27, 28, 29, 36, 37, 38]))))
def c_subgraph_All_r18 (F : String → Nat) : List LI := [⟨some 55, .bin .add (.t 29) (.k (.int .i64 (1))), none⟩,
  ⟨some 29, .mov (.t 55), none⟩]
def c_subgraph_All_b19 (F : String → Nat) : LC := (.seq (.reg (c_subgraph_All_r8 F) [1, 5, 27, 28, 29, 30]) (.seq (.cond (.t 30) .skip (.exit 0)) (.seq (.block 1 (.seq (.reg (c_subgraph_All_r9 F) [1, 5, 7, 27, 28, 29]) (.seq (.reg (c_subgraph_All_r10 F) [1, 5, 7, 27, 28, 29, 36, 37, 38]) (.block 2 (.loop [1, 5, 7, 27, 28, 29, 36, 37, 38] (c_subgraph_All_b17 F)))))) (.reg (c_subgraph_All_r18 F) [1, 5, 27, 28, 29]))))
def c_subgraph_All_r20 (F : String → Nat) : List LI := [⟨some 56, .mov (.t 5), none⟩,
  ⟨some 2, .mov (.t 56), none⟩,
  ⟨some 3, .mov (.k (.int .i64 (0))), none⟩]
def c_subgraph_All (F : String → Nat) : LC := (.seq (.reg (c_subgraph_All_r0 F) [1]) (.seq (.seq (.reg (c_subgraph_All_r1 F) [1, 4]) (.seq (.reg (c_subgraph_All_r2 F) [1, 4, 14]) (.cond (.t 14) (.seq (.reg (c_subgraph_All_r3 F) [2, 3]) .ret) .skip))) (.seq (.seq (.reg (c_subgraph_All_r4 F) [1, 23]) (.cond (.t 23) (.seq (.reg (c_subgraph_All_r5 F) [2, 3]) .ret) .skip)) (.seq (.reg (c_subgraph_All_r6 F) [1, 5]) (.seq (.seq (.reg (c_subgraph_All_r7 F) [1, 5, 27, 28, 29]) (.block 0 (.loop [1, 5, 27, 28, 29] (c_subgraph_All_b19 F)))) (.seq (.reg (c_subgraph_All_r20 F) [2, 3]) .ret))))))
def h_subgraph_All : Hints := ⟨[], fun _ => [], tab [(0, [1]), (1, [1, 4]), (2, [1, 4, 14]), (3, [2, 3]), (4, [1, 23]), (5, [2, 3]), (6, [1, 5]), (7, [1, 5, 27, 28, 29]), (8, [1, 5, 27, 28, 29, 30]), (9, [1, 5, 7, 27, 28, 29]), (10, [1, 5, 7, 27, 28, 29, 36, 37, 38]), (11, [1, 5, 7, 27, 28, 29, 36, 37, 38, 39]), (12, [1, 5, 7, 9, 27, 28, 29, 36, 37, 38]), (13, [1, 5, 7, 10, 27, 28, 29, 36, 37, 38]), (14, [1, 5, 7, 10, 27, 28, 29, 36, 37, 38, 49]), (15, [1, 5, 7, 27, 28, 29, 36, 37, 38]), (16, [1, 5, 7, 27, 28, 29, 36, 37, 38]), (17, [1, 5, 27, 28, 29]), (18, [2, 3])], tab [(8, [1, 5, 27, 28, 29]), (11, [1, 5, 7, 27, 28, 29, 36, 37, 38])]⟩

/- l07.line -/
def c_l07_line_r0 (F : String → Nat) : List LI := [⟨some 0, .alloc [.nl 1, .nl 3], none⟩]
def c_l07_line_r1 (F : String → Nat) : List LI := [⟨some 1, .buildSl 1 8 (.int .i64 (0)) 3 [(0, .k (.int .i64 (0))), (1, .k (.int .i64 (0))), (2, .k (.int .i64 (0)))], none⟩,
  ⟨some 2, .build [.int .i64 (0), .int .i64 (0), .int .i64 (0)] [(1, 1, .k (.int .i64 (0))), (2, 1, .k (.int .i64 (1)))], none⟩,
  ⟨some 3, .build [.int .i64 (0), .int .i64 (0), .int .i64 (0)] [(1, 1, .k (.int .i64 (1))), (2, 1, .k (.int .i64 (2)))], none⟩,
  ⟨some 4, .buildSl 3 24 (.agg [.int .i64 (0), .int .i64 (0), .int .i64 (0)]) 2 [(0, .t 2), (1, .t 3)], none⟩,
  ⟨some 5, .build [.nl 1, .nl 3] [(0, 1, .t 1), (1, 1, .t 4)], none⟩,
  ⟨none, .store 2 (.t 0) (.t 5), none⟩]
def c_l07_line (F : String → Nat) : LC := (.seq (.reg (c_l07_line_r0 F) [0]) (.seq (.reg (c_l07_line_r1 F) [0]) .ret))
def h_l07_line : Hints := ⟨[], fun _ => [], tab [(0, [0]), (1, [0])], tab []⟩

/- l07.awake -/
def c_l07_awake_r0 (F : String → Nat) : List LI := [⟨some 0, .mov (.k (.bool false)), none⟩]
def c_l07_awake_r1 (F : String → Nat) : List LI := [⟨some 8, .call (F "l07.line") [] [], none⟩,
  ⟨some 9, .buildSl 1 8 (.int .i64 (0)) 1 [(0, .k (.int .i64 (0)))], none⟩,
  ⟨some 10, .call (F "subgraph.Close") [.t 8, .k (.nl 0), .t 9] [], none⟩,
  ⟨some 7, .mov (.t 10), none⟩,
  ⟨some 11, .ext (.t 7) 0, none⟩,
  ⟨some 12, .ext (.t 7) 1, none⟩,
  ⟨some 1, .alloc [.nl 1, .nl 1], none⟩,
  ⟨none, .store 2 (.t 1) (.t 11), none⟩,
  ⟨some 2, .mov (.t 12), none⟩]
def c_l07_awake_r2 (F : String → Nat) : List LI := [⟨some 14, .call (F "l07.line") [] [], none⟩,
  ⟨some 15, .load true 2 (.t 1), none⟩,
  ⟨some 16, .call (F "subgraph.Boundary") [.t 14, .t 15] [], none⟩,
  ⟨some 13, .mov (.t 16), none⟩,
  ⟨some 17, .ext (.t 13) 0, none⟩,
  ⟨some 18, .ext (.t 13) 1, none⟩,
  ⟨some 3, .mov (.t 17), none⟩,
  ⟨some 4, .mov (.t 18), none⟩]
def c_l07_awake_r3 (F : String → Nat) : List LI := [⟨some 20, .call (F "l07.line") [] [], none⟩,
  ⟨some 21, .call (F "subgraph.All") [.t 20] [], none⟩,
  ⟨some 19, .mov (.t 21), none⟩,
  ⟨some 22, .ext (.t 19) 0, none⟩,
  ⟨some 23, .ext (.t 19) 1, none⟩,
  ⟨some 5, .mov (.t 22), none⟩,
  ⟨some 6, .mov (.t 23), none⟩]
def c_l07_awake_r4 (F : String → Nat) : List LI := [⟨some 24, .mov (.t 2), none⟩,
  ⟨some 25, .bin .eql (.t 24) (.k (.int .i64 (0))), none⟩,
  ⟨some 26, .mov (.t 25), none⟩,
  ⟨some 27, .mov (.t 4), some (26, true)⟩,
  ⟨some 28, .bin .eql (.t 27) (.k (.int .i64 (0))), some (26, true)⟩,
  ⟨some 29, .pick (.t 26) (.t 28) (.k (.bool false)), none⟩,
  ⟨some 30, .mov (.t 29), none⟩,
  ⟨some 31, .mov (.t 6), some (30, true)⟩,
  ⟨some 32, .bin .eql (.t 31) (.k (.int .i64 (0))), some (30, true)⟩,
  ⟨some 33, .pick (.t 30) (.t 32) (.k (.bool false)), none⟩,
  ⟨some 34, .mov (.t 33), none⟩,
  ⟨some 35, .load true 2 (.t 1), some (34, true)⟩,
  ⟨some 36, .buildSl 1 8 (.int .i64 (0)) 2 [(0, .k (.int .i64 (0))), (1, .k (.int .i64 (1)))], some (34, true)⟩,
  ⟨some 37, .buildSl 1 8 (.int .i64 (0)) 1 [(0, .k (.int .i64 (0)))], some (34, true)⟩,
  ⟨some 38, .build [.nl 1, .nl 1] [(0, 1, .t 36), (1, 1, .t 37)], some (34, true)⟩,
  ⟨some 39, .call (F "r07.Same") [.t 35, .t 38] [], some (34, true)⟩,
  ⟨some 40, .pick (.t 34) (.t 39) (.k (.bool false)), none⟩,
  ⟨some 41, .mov (.t 40), none⟩,
  ⟨some 42, .mov (.t 3), some (41, true)⟩,
  ⟨some 43, .buildSl 1 8 (.int .i64 (0)) 1 [(0, .k (.int .i64 (1)))], some (41, true)⟩,
  ⟨some 44, .call (F "slices.Equal.I") [.t 42, .t 43] [], some (41, true)⟩,
  ⟨some 45, .pick (.t 41) (.t 44) (.k (.bool false)), none⟩,
  ⟨some 46, .mov (.t 45), none⟩,
  ⟨some 47, .mov (.t 5), some (46, true)⟩,
  ⟨some 48, .len (.t 47), some (46, true)⟩,
  ⟨some 49, .bin .eql (.t 48) (.k (.int .i64 (13))), some (46, true)⟩,
  ⟨some 50, .pick (.t 46) (.t 49) (.k (.bool false)), none⟩,
  ⟨some 0, .mov (.t 50), none⟩]
def c_l07_awake (F : String → Nat) : LC := (.seq (.reg (c_l07_awake_r0 F) []) (.seq (.reg (c_l07_awake_r1 F) [1, 2]) (.seq (.dreg [(0, none, [], true), (1, (some 0), [0], false)] (c_l07_awake_r2 F) [1, 2, 3, 4]) (.seq (.reg (c_l07_awake_r3 F) [1, 2, 3, 4, 5, 6]) (.seq (.reg (c_l07_awake_r4 F) [0]) .ret)))))
def h_l07_awake : Hints := ⟨[], fun _ => [], tab [(0, []), (1, [1, 2]), (2, [1, 2, 3, 4]), (3, [1, 2, 3, 4, 5, 6]), (4, [0])], tab []⟩

attribute [go_sem] c_cmp_Compare_I_r0 c_cmp_Compare_I_r1 c_cmp_Compare_I_r2 c_cmp_Compare_I_r3 c_cmp_Compare_I_r4 c_cmp_Compare_I_r5 c_cmp_Compare_I_r6 c_cmp_Compare_I_r7 c_cmp_Compare_I_r8 c_cmp_Compare_I_r9 c_cmp_Compare_I_r10 c_cmp_Compare_I_r11 c_cmp_Compare_I_r12 c_cmp_Compare_I_r13 c_cmp_Compare_I c_slices_Compare_I_r0 c_slices_Compare_I_r1 c_slices_Compare_I_r2 c_slices_Compare_I_r3 c_slices_Compare_I_r4 c_slices_Compare_I_r5 c_slices_Compare_I_r6 c_slices_Compare_I_r7 c_slices_Compare_I_r8 c_slices_Compare_I_r9 c_slices_Compare_I_r10 c_slices_Compare_I_r12 c_slices_Compare_I_r13 c_slices_Compare_I_r14 c_slices_Compare_I c_cmp_Or_I_r0 c_cmp_Or_I_r1 c_cmp_Or_I_r2 c_cmp_Or_I_r3 c_cmp_Or_I_r4 c_cmp_Or_I_r5 c_cmp_Or_I_r6 c_cmp_Or_I_r7 c_cmp_Or_I_r9 c_cmp_Or_I c_subgraph_subsets_1_r0 c_subgraph_subsets_1_r1 c_subgraph_subsets_1 c_subgraph_subsets_r0 c_subgraph_subsets_r1 c_subgraph_subsets_r2 c_subgraph_subsets_r3 c_subgraph_subsets_r4 c_subgraph_subsets_r5 c_subgraph_subsets_r6 c_subgraph_subsets_r7 c_subgraph_subsets_r8 c_subgraph_subsets_r9 c_subgraph_subsets_r10 c_subgraph_subsets_r11 c_subgraph_subsets_r13 c_subgraph_subsets_r14 c_subgraph_subsets_r16 c_subgraph_subsets_r17 c_subgraph_subsets c_subgraph_All_r0 c_subgraph_All_r1 c_subgraph_All_r2 c_subgraph_All_r3 c_subgraph_All_r4 c_subgraph_All_r5 c_subgraph_All_r6 c_subgraph_All_r7 c_subgraph_All_r8 c_subgraph_All_r9 c_subgraph_All_r10 c_subgraph_All_r11 c_subgraph_All_r12 c_subgraph_All_r13 c_subgraph_All_r14 c_subgraph_All_r15 c_subgraph_All_r16 c_subgraph_All_r18 c_subgraph_All_r20 c_subgraph_All c_l07_line_r0 c_l07_line_r1 c_l07_line c_l07_awake_r0 c_l07_awake_r1 c_l07_awake_r2 c_l07_awake_r3 c_l07_awake_r4 c_l07_awake
def sgn (x : Int) : Int := if x < 0 then -1 else if 0 < x then 1 else 0
def scmp : List Int → List Int → Int
  | [], [] => 0
  | [], _ :: _ => -1
  | _ :: _, [] => 1
  | a :: as, b :: bs => if a = b then scmp as bs else sgn (a - b)
def orL : List Int → Int
  | [] => 0
  | a :: l => if a = 0 then orL l else a
def exLine : G := ⟨[0, 0, 0], [⟨0, 0, 1⟩, ⟨0, 1, 2⟩]⟩
section
variable (P : Program) (F : String → Nat)
def K_cmp_Compare_I : Prop := ∀ x y : Int, FC P (F "cmp.Compare.I") [.int .i64 x, .int .i64 y] (.int .i64 (if x = y then 0 else sgn (x - y))) []
def K_slices_Compare_I : Prop := ∀ a b : List Int, a.length ≤ 1000 → b.length ≤ 1000 → FC P (F "slices.Compare.I") [.lst 1 (ints a), .lst 1 (ints b)] (.int .i64 (scmp a b)) []
def K_cmp_Or_I : Prop := ∀ l : List Int, l.length ≤ 1000 → FC P (F "cmp.Or.I") [.lst 1 (ints l)] (.int .i64 (orL l)) []
def K_subgraph_subsets_1 : Prop := ∀ a b : List Int, a.length ≤ 1000 → b.length ≤ 1000 → FC P (F "subgraph.subsets.1") [.lst 1 (ints a), .lst 1 (ints b)] (.int .i64 (sgn (cmpL a b))) []
def K_slices_SortFunc_int3 : Prop := ∀ (l S : List (List Int)) (g : Nat) (c : List Int → List Int → Int), l ≠ [] → l.length ≤ 1000000 → Cmp c → l.Nodup → S.Pairwise (fun a b => c a b < 0) → (∀ x, x ∈ S ↔ x ∈ l) → (∀ x ∈ l, ∀ y ∈ l, FC P g [.lst 1 (ints x), .lst 1 (ints y)] (.int .i64 (c x y)) []) → FC P (F "slices.SortFunc.int3") [.arr 1 (iis l), .clo g []] (.tup []) [(0, .arr 1 (iis S))]
def K_subgraph_subsets : Prop := ∀ n : Nat, n ≤ 6 → FC P (F "subgraph.subsets") [.int .i64 n] (.arr 1 (iis (subsL n))) []
def K_subgraph_All : Prop := ∀ g : G, FC P (F "subgraph.All") [gD g] (.tup [.arr 2 (pts (allR g).1), .int .i64 (allR g).2]) []
def K_l07_line : Prop := FC P (F "l07.line") [] (gA exLine) []
end
section
variable {P : Program} {F : String → Nat} {α : Type}
theorem sgn_cmp {α : Type} {c : α → α → Int} (hc : Cmp c) : Cmp fun a b => sgn (c a b) where
  neg a b := by
    have := hc.neg a b
    simp only [sgn]
    split <;> split <;> (try split) <;> (try split) <;> omega
  eq a b h := by
    simp only [sgn] at h
    exact hc.eq a b (by split at h <;> (try split at h) <;> omega)
  tr a b d h1 h2 := by
    simp only [sgn] at *
    have e1 : c a b < 0 := by split at h1 <;> (try split at h1) <;> omega
    have e2 : c b d < 0 := by split at h2 <;> (try split at h2) <;> omega
    rw [if_pos (hc.tr _ _ _ e1 e2)]; omega
theorem scmp_difL : ∀ {a b : List Int}, a.length = b.length → scmp a b = sgn (difL a b)
  | [], [], _ => rfl
  | [], _ :: _, h => by simp at h
  | _ :: _, [], h => by simp at h
  | a :: as, b :: bs, h => by
    simp only [scmp, difL]
    split
    · exact scmp_difL (by simpa using h)
    · rfl
theorem w_cmp_Compare_I (hn : K_cmp_isNaN_I P F) (x y : Int) : W P (c_cmp_Compare_I F) (Done [.t 4] [] (.int .i64 (if x = y then 0 else sgn (x - y))) []) (init [.int .i64 x, .int .i64 y]) := by
  refine W_of ?_
  simp (config := { maxSteps := 1000000 }) (disch := first | omega | (simp only [go_sem]; omega)) only [go_sem, ↓reduceIte]
  refine call_by (hn x) ?_
  simp (config := { maxSteps := 1000000 }) (disch := first | omega | (simp only [go_sem]; omega)) only [go_sem, ↓reduceIte]
  refine call_by (hn y) ?_
  rcases Int.lt_trichotomy x y with h | h | h
  · have d1 : decide (x < y) = true := decide_eq_true h
    simp (config := { maxSteps := 1000000 }) (disch := first | omega | (simp only [go_sem]; omega)) only [go_sem, ↓reduceIte, d1]
    rw [if_neg (by omega), sgn, if_pos (by omega)]
  · subst h
    have d1 : decide (x < x) = false := decide_eq_false (by omega)
    simp (config := { maxSteps := 1000000 }) (disch := first | omega | (simp only [go_sem]; omega)) only [go_sem, ↓reduceIte, d1]
    try rw [if_pos rfl]
  · have d1 : decide (x < y) = false := decide_eq_false (by omega)
    have d2 : decide (y < x) = true := decide_eq_true h
    simp (config := { maxSteps := 1000000 }) (disch := first | omega | (simp only [go_sem]; omega)) only [go_sem, ↓reduceIte, d1, d2]
    rw [if_neg (by omega), sgn, if_neg (by omega), if_pos (by omega)]
theorem scmp_nil {b : List Int} : scmp [] b = if b.length = 0 then 0 else -1 := by cases b <;> simp [scmp]
theorem w_slices_Compare_I (hc : K_cmp_Compare_I P F) (a b : List Int) (h1 : a.length ≤ 1000) (h2 : b.length ≤ 1000) : W P (c_slices_Compare_I F) (Done [.t 4] [] (.int .i64 (scmp a b)) []) (init [.lst 1 (ints a), .lst 1 (ints b)]) := by
  refine W_of ?_
  simp (config := { maxSteps := 1000000 }) (disch := first | omega | (simp only [go_sem]; omega)) only [go_sem, ↓reduceIte]
  refine W_loop (fun i : Nat => ⟨[(0, .lst 1 (ints a)), (1, .lst 1 (ints b)), (9, .lst 1 (ints a)), (10, .int .i64 a.length), (11, .int .i64 i)], [], 0⟩) (fun i => i ≤ a.length ∧ i ≤ b.length ∧ scmp a b = scmp (a.drop i) (b.drop i)) (fun i => a.length - i) 0 ?_ ?_ ?_
  · simp (config := { maxSteps := 1000000 }) (disch := first | omega | (simp only [go_sem]; omega)) only [go_sem, ↓reduceIte]
    rfl
  · simp
  · intro i hi
    by_cases c : i < a.length
    · have d1 : decide ((i : Int) < a.length) = true := decide_eq_true (by omega)
      by_cases e : i < b.length
      · have d2 : decide ((b.length : Int) ≤ i) = false := decide_eq_false (by omega)
        have st : scmp (a.drop i) (b.drop i) = if gt a i = gt b i then scmp (a.drop (i + 1)) (b.drop (i + 1)) else sgn (gt a i - gt b i) := by rw [drop_gt c, drop_gt e]; rfl
        have r1 := hc (gt a i) (gt b i)
        by_cases f : gt a i = gt b i
        · rw [if_pos f] at r1 st
          simp (config := { maxSteps := 1000000 }) (disch := first | omega | (simp only [go_sem]; omega)) only [go_sem, ↓reduceIte, c_slices_Compare_I_b11, d1, d2]
          refine call_by r1 ?_
          have d3 : decide ((0 : Int) = 0) = true := rfl
          simp (config := { maxSteps := 1000000 }) (disch := first | omega | (simp only [go_sem]; omega)) only [go_sem, ↓reduceIte, d3]
          exact ⟨i + 1, by simp, ⟨by omega, by omega, by rw [hi.2.2, st]⟩, by omega⟩
        · rw [if_neg f] at r1 st
          have d3 : decide (sgn (gt a i - gt b i) = 0) = false := decide_eq_false (by unfold sgn; split <;> (try split) <;> omega)
          simp (config := { maxSteps := 1000000 }) (disch := first | omega | (simp only [go_sem]; omega)) only [go_sem, ↓reduceIte, c_slices_Compare_I_b11, d1, d2]
          refine call_by r1 ?_
          generalize sgn (gt a i - gt b i) = z at *
          simp (config := { maxSteps := 1000000 }) (disch := first | omega | (simp only [go_sem]; omega)) only [go_sem, ↓reduceIte, d3]
          rw [hi.2.2, st]
      · have d2 : decide ((b.length : Int) ≤ i) = true := decide_eq_true (by omega)
        simp (config := { maxSteps := 1000000 }) (disch := first | omega | (simp only [go_sem]; omega)) only [go_sem, ↓reduceIte, c_slices_Compare_I_b11, d1, d2]
        rw [hi.2.2, drop_gt c, List.drop_of_length_le (l := b) (by omega)]
        rfl
    · have d1 : decide ((i : Int) < a.length) = false := decide_eq_false (by omega)
      obtain rfl : i = a.length := by omega
      have hs : scmp a b = if (b.length : Nat) = a.length then 0 else -1 := by
        rw [hi.2.2, List.drop_length, scmp_nil, List.length_drop]
        by_cases e : b.length = a.length
        · rw [if_pos (by omega), if_pos e]
        · rw [if_neg (by omega), if_neg e]
      by_cases e : a.length < b.length
      · have d2 : decide ((a.length : Int) < b.length) = true := decide_eq_true (by omega)
        rw [if_neg (by omega)] at hs
        simp (config := { maxSteps := 1000000 }) (disch := first | omega | (simp only [go_sem]; omega)) only [go_sem, ↓reduceIte, c_slices_Compare_I_b11, d1, d2]
        rw [hs]
      · have d2 : decide ((a.length : Int) < b.length) = false := decide_eq_false (by omega)
        rw [if_pos (by omega)] at hs
        simp (config := { maxSteps := 1000000 }) (disch := first | omega | (simp only [go_sem]; omega)) only [go_sem, ↓reduceIte, c_slices_Compare_I_b11, d1, d2]
        rw [hs]
theorem orL_drop {l : List Int} {i : Nat} (h : i < l.length) : orL (l.drop i) = if gt l i = 0 then orL (l.drop (i + 1)) else gt l i := by rw [drop_gt h]; rfl
theorem w_cmp_Or_I (l : List Int) (hl : l.length ≤ 1000) : W P (c_cmp_Or_I F) (Done [.t 2] [] (.int .i64 (orL l)) []) (init [.lst 1 (ints l)]) := by
  refine W_of ?_
  simp (config := { maxSteps := 1000000 }) (disch := first | omega | (simp only [go_sem]; omega)) only [go_sem, ↓reduceIte]
  refine W_loop (fun i : Nat => ⟨[(3, .int .i64 0), (6, .lst 1 (ints l)), (7, .int .i64 l.length), (8, .int .i64 i)], [], 0⟩) (fun i => i ≤ l.length ∧ orL l = orL (l.drop i)) (fun i => l.length - i) 0 ?_ ?_ ?_
  · simp (config := { maxSteps := 1000000 }) (disch := first | omega | (simp only [go_sem]; omega)) only [go_sem, ↓reduceIte]
    rfl
  · simp
  · intro i hi
    by_cases c : i < l.length
    · have d1 : decide ((i : Int) < l.length) = true := decide_eq_true (by omega)
      have st := orL_drop c
      by_cases f : gt l i = 0
      · have d2 : decide (gt l i = 0) = true := decide_eq_true f
        rw [if_pos f] at st
        simp (config := { maxSteps := 1000000 }) (disch := first | omega | (simp only [go_sem]; omega)) only [go_sem, ↓reduceIte, c_cmp_Or_I_b8, d1, d2]
        exact ⟨i + 1, by simp, ⟨by omega, by rw [hi.2, st]⟩, by omega⟩
      · have d2 : decide (gt l i = 0) = false := decide_eq_false f
        rw [if_neg f] at st
        simp (config := { maxSteps := 1000000 }) (disch := first | omega | (simp only [go_sem]; omega)) only [go_sem, ↓reduceIte, c_cmp_Or_I_b8, d1, d2]
        rw [hi.2, st]
    · have d1 : decide ((i : Int) < l.length) = false := decide_eq_false (by omega)
      simp (config := { maxSteps := 1000000 }) (disch := first | omega | (simp only [go_sem]; omega)) only [go_sem, ↓reduceIte, c_cmp_Or_I_b8, d1]
      rw [hi.2, List.drop_of_length_le (by omega)]
      rfl
theorem w_subgraph_subsets_1 (hc : K_cmp_Compare_I P F) (hs : K_slices_Compare_I P F) (ho : K_cmp_Or_I P F) (a b : List Int) (h1 : a.length ≤ 1000) (h2 : b.length ≤ 1000) : W P (c_subgraph_subsets_1 F) (Done [.t 4] [] (.int .i64 (sgn (cmpL a b))) []) (init [.lst 1 (ints a), .lst 1 (ints b)]) := by
  refine W_of ?_
  have r1 := hc a.length b.length
  have r2 := hs a b h1 h2
  have hv : orL [if (a.length : Int) = b.length then 0 else sgn ((a.length : Int) - b.length), scmp a b] = sgn (cmpL a b) := by
    unfold cmpL
    by_cases e : a.length = b.length
    · rw [if_pos (by omega), if_pos e]
      simp only [orL, if_true]
      rw [scmp_difL e]
      split
      · rename_i h; exact h.symm
      · rfl
    · rw [if_neg (by omega), if_neg e]
      simp only [orL]
      rw [if_neg]
      unfold sgn; split <;> (try split) <;> omega
  have r3 := ho [if (a.length : Int) = b.length then 0 else sgn ((a.length : Int) - b.length), scmp a b] (by simp)
  rw [hv] at r3
  clear hv
  generalize (if (a.length : Int) = b.length then 0 else sgn ((a.length : Int) - b.length)) = u at *
  generalize scmp a b = v at *
  generalize sgn (cmpL a b) = z at *
  simp only [ints, List.map_cons, List.map_nil] at r3
  simp (config := { maxSteps := 1000000 }) (disch := first | omega | (simp only [go_sem]; omega)) only [go_sem, ↓reduceIte]
  refine call_by r1 ?_
  simp (config := { maxSteps := 1000000 }) (disch := first | omega | (simp only [go_sem]; omega)) only [go_sem, ↓reduceIte]
  refine call_by r2 ?_
  simp (config := { maxSteps := 1000000 }) (disch := first | omega | (simp only [go_sem]; omega)) only [go_sem, ↓reduceIte]
  refine call_by r3 ?_
  simp (config := { maxSteps := 1000000 }) (disch := first | omega | (simp only [go_sem]; omega)) only [go_sem, ↓reduceIte]
def bitsTo (n s : Nat) : List (List Int) := (List.range s).map (bitsN n)
theorem bitsTo_succ (n s : Nat) : iis (bitsTo n (s + 1)) = iis (bitsTo n s) ++ [.lst 1 (ints (bitsN n s))] := by simp [bitsTo, iis, List.range_succ]
theorem bitsTo_len (n s : Nat) : (bitsTo n s).length = s := by simp [bitsTo]
set_option maxHeartbeats 1000000 in
theorem w_subgraph_subsets (hs : K_slices_SortFunc_int3 P F) (h1 : K_subgraph_subsets_1 P F) (n : Nat) (hn : n ≤ 6) : W P (c_subgraph_subsets F) (Done [.t 2] [] (.arr 1 (iis (subsL n))) []) (init [.int .i64 n]) := by
  refine W_of ?_
  have p6 := pow6 hn
  have pp : 0 < 2 ^ n := Nat.two_pow_pos n
  have hsh : IntKind.i64.wrap (1 * 2 ^ min n 64) = ((2 ^ n : Nat) : Int) := by
    have : min n 64 = n := by omega
    rw [this, Int.one_mul, wrap_i64 (by
      have : (0 : Int) < 2 ^ n := Int.pow_pos (by decide)
      omega) (by
      have : ((2 ^ n : Nat) : Int) = 2 ^ n := by simp
      omega)]
    simp
  have n0 : ¬ ((n : Int) < 0) := by omega
  have r1 := hs (bitsTo n (2 ^ n)) (subsL n) (F "subgraph.subsets.1") (fun a b => sgn (cmpL a b)) (fun h => by have := bitsTo_len n (2 ^ n); rw [h] at this; simp at this; omega) (by rw [bitsTo_len]; omega) (sgn_cmp cmpL_cmp)
    (by
      unfold bitsTo
      rw [List.nodup_iff_pairwise_ne, List.pairwise_map]
      exact (List.nodup_iff_pairwise_ne.1 List.nodup_range).imp_of_mem fun {a b} ha hb h e => h (bitsN_inj (by simpa using ha) (by simpa using hb) e))
    ((subs_sorted n).imp fun {a b} h => by show sgn _ < 0; unfold sgn; rw [if_pos h]; omega)
    (fun x => by rw [subs_mem]; simp [bitsTo])
    (fun x hx y hy => h1 x y (by obtain ⟨s, _, rfl⟩ := List.mem_map.1 hx; have := bitsN_len n s; omega) (by obtain ⟨s, _, rfl⟩ := List.mem_map.1 hy; have := bitsN_len n s; omega))
  have bl := bitsTo_len n
  have bs := bitsTo_succ n
  have bz : bitsTo n 0 = [] := rfl
  have sl1 : (subsL n).length = 2 ^ n := by
    have h : (subsL n).Perm (bitsTo n (2 ^ n)) := by
      refine (List.perm_ext_iff_of_nodup ?_ ?_).2 fun x => by rw [subs_mem]; simp [bitsTo]
      · exact (subs_sorted n).imp fun {a b} h e => by subst e; have := cmpL_cmp.neg a a; omega
      · unfold bitsTo
        rw [List.nodup_iff_pairwise_ne, List.pairwise_map]
        exact (List.nodup_iff_pairwise_ne.1 List.nodup_range).imp_of_mem fun {a b} ha hb h e => h (bitsN_inj (by simpa using ha) (by simpa using hb) e)
    rw [h.length_eq, bl]
  have il := iis_length
  generalize bitsTo n = B at *
  generalize subsL n = S at *
  simp (config := { maxSteps := 1000000 }) (disch := first | omega | (simp only [go_sem]; omega)) only [go_sem, ↓reduceIte, n0, hsh]
  refine W_loop (fun s : Nat => ⟨[(0, .int .i64 n), (3, .sl 0 0 s), (8, .int .i64 ((2 ^ n : Nat) : Int)), (9, .int .i64 s)], [(0, .arr 1 (iis (B s)))], 1⟩) (fun s => s ≤ 2 ^ n) (fun s => 2 ^ n - s) 0 ?_ ?_ ?_
  · simp (config := { maxSteps := 1000000 }) (disch := first | omega | (simp only [go_sem]; omega)) only [go_sem, ↓reduceIte, bz]
    rfl
  · simp
  · intro s hsl
    have bls := bl s
    by_cases e : s < 2 ^ n
    · have d1 : decide ((s : Int) < ((2 ^ n : Nat) : Int)) = true := decide_eq_true (by omega)
      have ss := sel_succ (fun i : Nat => s.testBit i)
      have s0 := sel_zero (fun i : Nat => s.testBit i)
      have sl := sel_len (fun i : Nat => s.testBit i)
      have hb := fun i hi => bit_and s i (by omega) hi
      have bss := bs s
      unfold bitsN at bss
      generalize sel (fun i : Nat => s.testBit i) = T at *
      simp (config := { maxSteps := 1000000 }) (disch := first | omega | (simp only [go_sem]; omega)) only [go_sem, ↓reduceIte, c_subgraph_subsets_b15, d1]
      refine W_loop (fun i : Nat => ⟨[(0, .int .i64 n), (3, .sl 0 0 s), (4, .int .i64 s), (5, .sl 1 0 (T i).length), (8, .int .i64 ((2 ^ n : Nat) : Int)), (9, .int .i64 s), (12, .int .i64 n), (13, .int .i64 i)], [(0, .arr 1 (iis (B s))), (1, .arr 1 (ints (T i)))], 2⟩) (fun i => i ≤ n) (fun i => n - i) 0 ?_ ?_ ?_
      · simp (config := { maxSteps := 1000000 }) (disch := first | omega | (simp only [go_sem]; omega)) only [go_sem, ↓reduceIte, s0]
        rfl
      · simp
      · intro i hi
        have hl := sl i
        by_cases c : i < n
        · have d2 : decide ((i : Int) < n) = true := decide_eq_true (by omega)
          have st := ss i
          have hb := hb i (by omega)
          have n1 : ¬ ((i : Int) < 0) := by omega
          simp (config := { maxSteps := 1000000 }) (disch := first | omega | (simp only [go_sem]; omega)) only [go_sem, ↓reduceIte, c_subgraph_subsets_b12, d2, n1]
          refine bran_dec (fun h => ?_) (fun h => ?_)
          · have hb2 : s.testBit i = true := hb.symm.trans (decide_eq_true h)
            rw [if_pos hb2] at st
            simp (config := { maxSteps := 1000000 }) (disch := first | omega | (simp only [go_sem]; omega)) only [go_sem, ↓reduceIte]
            exact ⟨i + 1, by simp [st], by omega, by omega⟩
          · have hb2 : s.testBit i = false := hb.symm.trans (decide_eq_false h)
            rw [if_neg (by rw [hb2]; simp)] at st
            simp (config := { maxSteps := 1000000 }) (disch := first | omega | (simp only [go_sem]; omega)) only [go_sem, ↓reduceIte]
            exact ⟨i + 1, by simp [st], by omega, by omega⟩
        · have d2 : decide ((i : Int) < n) = false := decide_eq_false (by omega)
          obtain rfl : i = n := by omega
          simp (config := { maxSteps := 1000000 }) (disch := first | omega | (simp only [go_sem]; omega)) only [go_sem, ↓reduceIte, c_subgraph_subsets_b12, d2, il, bls]
          exact ⟨s + 1, by simp [bss], by omega, by omega⟩
    · have d1 : decide ((s : Int) < ((2 ^ n : Nat) : Int)) = false := decide_eq_false (by omega)
      obtain rfl : s = 2 ^ n := by omega
      simp (config := { maxSteps := 1000000 }) (disch := first | omega | (simp only [go_sem]; omega)) only [go_sem, ↓reduceIte, c_subgraph_subsets_b15, d1, il, bls]
      refine call_fz r1 ?_
      simp (config := { maxSteps := 1000000 }) (disch := first | omega | (simp only [go_sem]; omega)) only [go_sem, ↓reduceIte, il, bls, sl1]
end
end Go.Am
namespace Go.Am
open Go
set_option linter.unusedVariables false
set_option linter.unusedSimpArgs false
attribute [local irreducible] W
section
variable {P : Program} {F : String → Nat} {α : Type}
theorem subs_bits {n : Nat} {x : List Int} (h : x ∈ subsL n) : x.length ≤ n := by
  obtain ⟨s, _, rfl⟩ := subs_mem.1 h
  exact bitsN_len n s
theorem rowA_step {g : G} {ns : List Int} {l : List (List Int)} {j : Nat} (h : j < l.length) : rowA g ns (l.take (j + 1)) = if rightP g ⟨ns, gt l j⟩ = 0 then rowA g ns (l.take j) ++ [⟨ns, gt l j⟩] else rowA g ns (l.take j) := by
  rw [take_gt h]
  unfold rowA
  rw [List.map_append, List.filter_append]
  by_cases c : rightP g ⟨ns, gt l j⟩ = 0
  · rw [if_pos c]; simp [c]
  · rw [if_neg c]; simp [c]
theorem subs_len (n : Nat) : (subsL n).length = 2 ^ n := by
  have h : (subsL n).Perm (bitsTo n (2 ^ n)) := by
    refine (List.perm_ext_iff_of_nodup ?_ ?_).2 fun x => by rw [subs_mem]; simp [bitsTo]
    · exact (subs_sorted n).imp fun {a b} h e => by subst e; have := cmpL_cmp.neg a a; omega
    · unfold bitsTo
      rw [List.nodup_iff_pairwise_ne, List.pairwise_map]
      exact (List.nodup_iff_pairwise_ne.1 List.nodup_range).imp_of_mem fun {a b} ha hb h e => h (bitsN_inj (by simpa using ha) (by simpa using hb) e)
  rw [h.length_eq, bitsTo_len]
/-- The parts found so far. -/
def allTo (g : G) (N M : List (List Int)) (i j : Nat) : List Mo := (N.take i).flatMap (fun ns => rowA g ns M) ++ rowA g (gt N i) (M.take j)
theorem allTo_len {g : G} {N M : List (List Int)} {i j : Nat} (hi : i ≤ N.length) (hj : j ≤ M.length) : (allTo g N M i j).length ≤ (i + 1) * M.length := by
  have hr : ∀ ns (l : List (List Int)), (rowA g ns l).length ≤ l.length := fun ns l => by
    unfold rowA
    exact Nat.le_trans (List.length_filter_le _ _) (by simp)
  have hf : ∀ l : List (List Int), (l.flatMap fun ns => rowA g ns M).length ≤ l.length * M.length := fun l => by
    induction l with
    | nil => simp
    | cons a l ih =>
      rw [List.flatMap_cons, List.length_append, List.length_cons, Nat.add_mul, Nat.one_mul]
      have := hr a M
      omega
  unfold allTo
  rw [List.length_append]
  have h1 := hf (N.take i)
  have h2 := hr (gt N i) (M.take j)
  rw [List.length_take, Nat.min_eq_left hi] at h1
  rw [List.length_take] at h2
  rw [Nat.add_mul, Nat.one_mul]
  omega
set_option maxHeartbeats 1000000 in
theorem w_subgraph_All (hv : K_graph_Valid P F) (hs : K_subgraph_subsets P F) (hc : K_slices_Clone_I P F) (hp : K_subgraph_part P F) (g : G) : W P (c_subgraph_All F) (Done [.t 2, .t 3] [] (.tup [.arr 2 (pts (allR g).1), .int .i64 (allR g).2]) []) (init [gD g]) := by
  refine W_of ?_
  have r1 := hv g
  have hR : allR g = if validG g ≠ 0 then ([], validG g) else if 6 < g.n.length + g.e.length then ([], 3) else (allP g, 0) := rfl
  by_cases c0 : validG g = 0
  case neg =>
    rw [if_pos c0] at hR
    rw [hR]
    clear hR
    generalize validG g = v at *
    simp only [gD] at *
    simp (config := { maxSteps := 1000000 }) (disch := first | omega | (simp only [go_sem]; omega)) only [go_sem, ↓reduceIte]
    refine call_by r1 ?_
    simp (config := { maxSteps := 1000000 }) (disch := first | omega | (simp only [go_sem]; omega)) only [go_sem, ↓reduceIte]
    refine bran_ndec (fun c => ?_) (fun c => absurd c c0)
    simp (config := { maxSteps := 1000000 }) (disch := first | omega | (simp only [go_sem]; omega)) only [go_sem, ↓reduceIte]
    simp [pts]
  rw [if_neg (by simp [c0])] at hR
  by_cases c1 : 6 < g.n.length + g.e.length
  · rw [if_pos c1] at hR
    rw [hR]
    rw [c0] at r1
    have d1 : decide ((6 : Int) < (g.n.length : Int) + g.e.length) = true := decide_eq_true (by omega)
    have vs := valid_spec c0
    simp only [gD] at *
    simp (config := { maxSteps := 1000000 }) (disch := first | omega | (simp only [go_sem]; omega)) only [go_sem, ↓reduceIte]
    refine call_by r1 ?_
    simp (config := { maxSteps := 1000000 }) (disch := first | omega | (simp only [go_sem]; omega)) only [go_sem, ↓reduceIte, d1]
    simp [pts]
  rw [if_neg c1] at hR
  rw [hR]
  rw [c0] at r1
  have d1 : decide ((6 : Int) < (g.n.length : Int) + g.e.length) = false := decide_eq_false (by omega)
  have rr := fun p : Mo => hp g p c0
  have rn := hs g.n.length (by omega)
  have rm := hs g.e.length (by omega)
  have ln := subs_len g.n.length
  have lm := subs_len g.e.length
  have p6 : 2 ^ g.n.length * 2 ^ g.e.length ≤ 64 := by rw [← Nat.pow_add]; exact pow6 (by omega)
  have q1 := pow6 (k := g.n.length) (by omega)
  have q2 := pow6 (k := g.e.length) (by omega)
  have bn := fun x => @subs_bits g.n.length x
  have be := fun x => @subs_bits g.e.length x
  have hn6 : g.n.length ≤ 6 := by omega
  have he6 : g.e.length ≤ 6 := by omega
  have hA : allP g = (subsL g.n.length).flatMap fun ns => rowA g ns (subsL g.e.length) := rfl
  rw [hA]
  clear hR hp hv c0 hA
  have rs := fun (ns : List Int) (j : Nat) h => @rowA_step g ns (subsL g.e.length) j h
  have al := fun i j => @allTo_len g (subsL g.n.length) (subsL g.e.length) i j
  generalize subsL g.n.length = N at *
  generalize subsL g.e.length = M at *
  have hto : ∀ i j : Nat, j < M.length → allTo g N M i (j + 1) = if rightP g ⟨gt N i, gt M j⟩ = 0 then allTo g N M i j ++ [⟨gt N i, gt M j⟩] else allTo g N M i j := fun i j hj => by
    unfold allTo
    rw [rs _ _ hj]
    split
    · rw [List.append_assoc]
    · rfl
  have hnx : ∀ i : Nat, i < N.length → allTo g N M (i + 1) 0 = allTo g N M i M.length := fun i hi => by
    unfold allTo
    rw [take_gt hi, List.flatMap_append, List.take_length]
    simp [rowA]
  have hz : allTo g N M 0 0 = [] := by simp [allTo, rowA]
  have hend : allTo g N M N.length 0 = N.flatMap fun ns => rowA g ns M := by simp [allTo, rowA]
  rw [← hend]
  clear hend rs
  have al : ∀ i j : Nat, i < N.length → j ≤ M.length → (allTo g N M i j).length ≤ 64 := fun i j hi hj => by
    have h := al i j (by omega) hj
    have : (i + 1) * M.length ≤ N.length * M.length := Nat.mul_le_mul_right _ hi
    rw [ln, lm] at this
    rw [lm] at h
    omega
  generalize allTo g N M = A at *
  generalize rightP g = R at *
  have il := iis_length
  obtain ⟨gn, ge⟩ := g
  simp only [gD] at *
  simp (config := { maxSteps := 1000000 }) (disch := first | omega | (simp only [go_sem]; omega)) only [go_sem, ↓reduceIte]
  refine call_by r1 ?_
  simp (config := { maxSteps := 1000000 }) (disch := first | omega | (simp only [go_sem]; omega)) only [go_sem, ↓reduceIte, d1]
  refine call_by rn ?_
  simp (config := { maxSteps := 1000000 }) (disch := first | omega | (simp only [go_sem]; omega)) only [go_sem, ↓reduceIte, il, ite_self]
  refine W_loop (fun i : Nat => ⟨[(1, .pt 0 0), (5, .sl 1 0 (A i 0).length), (27, .sl 2 0 N.length), (28, .int .i64 N.length), (29, .int .i64 i)], [(0, .box [.lst 1 (ints gn), .lst 3 (eds ge)]), (1, .arr 2 (pts (A i 0))), (2, .arr 1 (iis N))], 3⟩) (fun i => i ≤ N.length) (fun i => N.length - i) 0 ?_ ?_ ?_
  · simp (config := { maxSteps := 1000000 }) (disch := first | omega | (simp only [go_sem]; omega)) only [go_sem, ↓reduceIte, hz, il]
    rfl
  · simp
  · intro i hi
    by_cases e : i < N.length
    · have d2 : decide ((i : Int) < N.length) = true := decide_eq_true (by omega)
      have ig := iis_get e
      have bnn := bn _ (gt_mem (l := N) (j := (i : Int)) (by omega) (by omega))
      have rc := hc (gt N i) (by omega)
      simp (config := { maxSteps := 1000000 }) (disch := first | omega | (simp only [go_sem]; omega)) only [go_sem, ↓reduceIte, c_subgraph_All_b19, d2, ig, il]
      refine call_by rm ?_
      simp (config := { maxSteps := 1000000 }) (disch := first | omega | (simp only [go_sem]; omega)) only [go_sem, ↓reduceIte, il, ite_self]
      refine W_loop (fun j : Nat => ⟨[(1, .pt 0 0), (5, .sl 1 0 (A i j).length), (7, .lst 1 (ints (gt N i))), (27, .sl 2 0 N.length), (28, .int .i64 N.length), (29, .int .i64 i), (36, .sl 3 0 M.length), (37, .int .i64 M.length), (38, .int .i64 j)],
        [(0, .box [.lst 1 (ints gn), .lst 3 (eds ge)]), (1, .arr 2 (pts (A i j))), (2, .arr 1 (iis N)), (3, .arr 1 (iis M))], 4⟩) (fun j => j ≤ M.length) (fun j => M.length - j) 0 ?_ ?_ ?_
      · simp (config := { maxSteps := 1000000 }) (disch := first | omega | (simp only [go_sem]; omega)) only [go_sem, ↓reduceIte, il]
        rfl
      · simp
      · intro j hj
        have al1 := al i j e hj
        have pl := pts_length (A i j)
        by_cases f : j < M.length
        · have d3 : decide ((j : Int) < M.length) = true := decide_eq_true (by omega)
          have jg := iis_get f
          have bee := be _ (gt_mem (l := M) (j := (j : Int)) (by omega) (by omega))
          have rp := rr ⟨gt N i, gt M j⟩ (by simp only; unfold maxL; omega) (by simp only; unfold maxL; omega)
          have st := hto i j f
          have psn := pts_snoc (A i j) (gt N i) (gt M j)
          simp only [mD] at rp
          generalize R ⟨gt N i, gt M j⟩ = v at *
          simp (config := { maxSteps := 1000000 }) (disch := first | omega | (simp only [go_sem]; omega)) only [go_sem, ↓reduceIte, c_subgraph_All_b17, d3, jg, il]
          refine call_by rc ?_
          simp (config := { maxSteps := 1000000 }) (disch := first | omega | (simp only [go_sem]; omega)) only [go_sem, ↓reduceIte]
          refine call_by rp ?_
          by_cases c2 : v = 0
          · have d4 : decide (v = 0) = true := decide_eq_true c2
            rw [if_pos c2] at st
            simp (config := { maxSteps := 1000000 }) (disch := first | omega | (simp only [go_sem]; omega)) only [go_sem, ↓reduceIte, d4, pl, psn]
            exact ⟨j + 1, by simp [st], by omega, by omega⟩
          · have d4 : decide (v = 0) = false := decide_eq_false c2
            rw [if_neg c2] at st
            simp (config := { maxSteps := 1000000 }) (disch := first | omega | (simp only [go_sem]; omega)) only [go_sem, ↓reduceIte, d4]
            exact ⟨j + 1, by simp [st], by omega, by omega⟩
        · have d3 : decide ((j : Int) < M.length) = false := decide_eq_false (by omega)
          obtain rfl : j = M.length := by omega
          have nx := hnx i e
          simp (config := { maxSteps := 1000000 }) (disch := first | omega | (simp only [go_sem]; omega)) only [go_sem, ↓reduceIte, c_subgraph_All_b17, d3]
          exact ⟨i + 1, by simp [nx], by omega, by omega⟩
    · have d2 : decide ((i : Int) < N.length) = false := decide_eq_false (by omega)
      obtain rfl : i = N.length := by omega
      simp (config := { maxSteps := 1000000 }) (disch := first | omega | (simp only [go_sem]; omega)) only [go_sem, ↓reduceIte, c_subgraph_All_b19, d2]
theorem w_l07_line : W P (c_l07_line F) (Done [.c 0 true 2] [] (gA exLine) []) (init []) := by
  refine W_of ?_
  simp (config := { maxSteps := 1000000 }) (disch := first | omega | (simp only [go_sem]; omega)) only [go_sem, ↓reduceIte]
  simp [gA, exLine, ints, eds, edD]
set_option maxRecDepth 100000 in
theorem w_l07_awake (hl : K_l07_line P F) (hc : K_subgraph_Close P F) (hb : K_subgraph_Boundary P F) (ha : K_subgraph_All P F) (hs : K_r07_Same P F) (he : K_slices_Equal_I P F) : W P (c_l07_awake F) (Done [.t 0] [] (.bool true) []) (init []) := by
  refine W_of ?_
  have r1 := FC.nils (a := [gD exLine, .nl 0, .lst 1 (ints [0])]) (hc exLine [] [0] (by decide) (by decide)) (by simp [NilW, ints])
  rw [show closeR exLine [] [0] = (⟨[0, 1], [0]⟩, 0) by decide +kernel] at r1
  have r2 := hb exLine ⟨[0, 1], [0]⟩ ⟨by decide, by decide⟩
  have hk : PK exLine ⟨[0, 1], [0]⟩ := validP_ok.1 (by decide +kernel)
  have hbd : bdR exLine ⟨[0, 1], [0]⟩ = ([1], 0) := by
    unfold bdR
    rw [if_neg (by simp [validP_ok.2 hk]), ← bd_mrg hk (z := [false, true, true]) rfl (by decide +kernel)]
    decide +kernel
  rw [hbd] at r2
  clear hk hbd
  have r3 := ha exLine
  have e3 : (allR exLine).2 = 0 := by decide +kernel
  have e4 : (pts (allR exLine).1).length = 13 := by rw [pts_length]; decide +kernel
  rw [e3] at r3
  generalize pts (allR exLine).1 = X at *
  have s1 := hs ⟨[0, 1], [0]⟩ ⟨[0, 1], [0]⟩ (by decide) (by decide)
  have s2 := he [1] [1] (by decide)
  have hl' := hl
  unfold K_l07_line at hl'
  simp only [exLine, gD, gA, mD, mA] at *
  simp (config := { maxSteps := 1000000 }) (disch := first | omega | (simp only [go_sem]; omega)) only [go_sem, ↓reduceIte]
  refine call_by hl' ?_
  simp (config := { maxSteps := 1000000 }) (disch := first | omega | (simp only [go_sem]; omega)) only [go_sem, ↓reduceIte, Int.cast_ofNat_Int, eq_self]
  refine call_by r1 ?_
  simp (config := { maxSteps := 1000000 }) (disch := first | omega | (simp only [go_sem]; omega)) only [go_sem, ↓reduceIte, Int.cast_ofNat_Int, eq_self]
  refine call_by hl' ?_
  simp (config := { maxSteps := 1000000 }) (disch := first | omega | (simp only [go_sem]; omega)) only [go_sem, ↓reduceIte, Int.cast_ofNat_Int, eq_self]
  refine call_by r2 ?_
  simp (config := { maxSteps := 1000000 }) (disch := first | omega | (simp only [go_sem]; omega)) only [go_sem, ↓reduceIte, Int.cast_ofNat_Int, eq_self]
  refine call_by hl' ?_
  simp (config := { maxSteps := 1000000 }) (disch := first | omega | (simp only [go_sem]; omega)) only [go_sem, ↓reduceIte, Int.cast_ofNat_Int, eq_self]
  refine call_by r3 ?_
  cases hfl : X.all D.flatE
  all_goals
    simp (config := { maxSteps := 1000000 }) (disch := first | omega | (simp only [go_sem]; omega)) only [go_sem, ↓reduceIte, Int.cast_ofNat_Int, eq_self, hfl]
    refine call_by s1 ?_
    simp (config := { maxSteps := 1000000 }) (disch := first | omega | (simp only [go_sem]; omega)) only [go_sem, ↓reduceIte]
    refine call_by s2 ?_
    simp (config := { maxSteps := 1000000 }) (disch := first | omega | (simp only [go_sem]; omega)) only [go_sem, ↓reduceIte, e4]
    rfl
end
end Go.Am
