/- The laws of chapter 5: the example, Remove. -/
import Derived.Test.YtfkkngepnnkloaaSjF
namespace Go.Am
open Go
set_option linter.unusedVariables false
set_option linter.unusedSimpArgs false
/- l05.example -/
def c_l05_example_r0 (F : String → Nat) : List LI := [⟨some 0, .alloc [.nl 1, .nl 3], none⟩]
def c_l05_example_r1 (F : String → Nat) : List LI := [⟨some 1, .buildSl 1 8 (.int .i64 (0)) 3 [(0, .k (.int .i64 (3))), (1, .k (.int .i64 (1))), (2, .k (.int .i64 (1)))], none⟩,
  ⟨some 2, .build [.int .i64 (0), .int .i64 (0), .int .i64 (0)] [(0, 1, .k (.int .i64 (0))), (1, 1, .k (.int .i64 (0))), (2, 1, .k (.int .i64 (1)))], none⟩,
  ⟨some 3, .build [.int .i64 (0), .int .i64 (0), .int .i64 (0)] [(0, 1, .k (.int .i64 (0))), (1, 1, .k (.int .i64 (0))), (2, 1, .k (.int .i64 (2)))], none⟩,
  ⟨some 4, .buildSl 3 24 (.agg [.int .i64 (0), .int .i64 (0), .int .i64 (0)]) 2 [(0, .t 2), (1, .t 3)], none⟩,
  ⟨some 5, .build [.nl 1, .nl 3] [(0, 1, .t 1), (1, 1, .t 4)], none⟩,
  ⟨none, .store 2 (.t 0) (.t 5), none⟩]
def c_l05_example (F : String → Nat) : LC := (.seq (.reg (c_l05_example_r0 F) [0]) (.seq (.reg (c_l05_example_r1 F) [0]) .ret))
def h_l05_example : Hints := ⟨[], fun _ => [], tab [(0, [0]), (1, [0])], tab []⟩

/- l05.awake -/
def c_l05_awake_r0 (F : String → Nat) : List LI := [⟨some 0, .mov (.k (.bool false)), none⟩]
def c_l05_awake_r1 (F : String → Nat) : List LI := [⟨some 10, .call (F "l05.example") [] [], none⟩,
  ⟨some 11, .buildSl 1 8 (.int .i64 (0)) 1 [(0, .k (.int .i64 (1)))], none⟩,
  ⟨some 12, .buildSl 1 8 (.int .i64 (0)) 1 [(0, .k (.int .i64 (0)))], none⟩,
  ⟨some 13, .call (F "graph.Remove") [.t 10, .t 11, .t 12] [], none⟩,
  ⟨some 9, .mov (.t 13), none⟩,
  ⟨some 14, .ext (.t 9) 0, none⟩,
  ⟨some 15, .ext (.t 9) 1, none⟩,
  ⟨some 16, .ext (.t 9) 2, none⟩,
  ⟨some 1, .alloc [.nl 1, .nl 3], none⟩,
  ⟨some 2, .alloc [.nl 1, .nl 1], none⟩,
  ⟨none, .store 2 (.t 1) (.t 14), none⟩,
  ⟨none, .store 2 (.t 2) (.t 15), none⟩,
  ⟨some 3, .mov (.t 16), none⟩]
def c_l05_awake_r2 (F : String → Nat) : List LI := [⟨some 18, .call (F "l05.example") [] [], none⟩,
  ⟨some 19, .buildSl 1 8 (.int .i64 (0)) 1 [(0, .k (.int .i64 (1)))], none⟩,
  ⟨some 20, .call (F "graph.Remove") [.t 18, .t 19, .k (.nl 0)] [], none⟩,
  ⟨some 17, .mov (.t 20), none⟩,
  ⟨some 21, .ext (.t 17) 0, none⟩,
  ⟨some 22, .ext (.t 17) 1, none⟩,
  ⟨some 23, .ext (.t 17) 2, none⟩,
  ⟨some 4, .alloc [.nl 1, .nl 3], none⟩,
  ⟨some 5, .alloc [.nl 1, .nl 1], none⟩,
  ⟨none, .store 2 (.t 4) (.t 21), none⟩,
  ⟨none, .store 2 (.t 5) (.t 22), none⟩,
  ⟨some 6, .mov (.t 23), none⟩]
def c_l05_awake_r3 (F : String → Nat) : List LI := [⟨some 25, .call (F "l05.example") [] [], none⟩,
  ⟨some 26, .call (F "graph.Components") [.t 25] [], none⟩,
  ⟨some 24, .mov (.t 26), none⟩,
  ⟨some 27, .ext (.t 24) 0, none⟩,
  ⟨some 28, .ext (.t 24) 1, none⟩,
  ⟨some 7, .mov (.t 27), none⟩,
  ⟨some 8, .mov (.t 28), none⟩]
def c_l05_awake_r4 (F : String → Nat) : List LI := [⟨some 29, .mov (.t 3), none⟩,
  ⟨some 30, .bin .eql (.t 29) (.k (.int .i64 (0))), none⟩,
  ⟨some 31, .mov (.t 30), none⟩,
  ⟨some 32, .load true 2 (.t 1), some (31, true)⟩,
  ⟨some 33, .buildSl 1 8 (.int .i64 (0)) 2 [(0, .k (.int .i64 (3))), (1, .k (.int .i64 (1)))], some (31, true)⟩,
  ⟨some 34, .build [.int .i64 (0), .int .i64 (0), .int .i64 (0)] [(0, 1, .k (.int .i64 (0))), (1, 1, .k (.int .i64 (0))), (2, 1, .k (.int .i64 (1)))], some (31, true)⟩,
  ⟨some 35, .buildSl 3 24 (.agg [.int .i64 (0), .int .i64 (0), .int .i64 (0)]) 1 [(0, .t 34)], some (31, true)⟩,
  ⟨some 36, .build [.nl 1, .nl 3] [(0, 1, .t 33), (1, 1, .t 35)], some (31, true)⟩,
  ⟨some 37, .call (F "r05.Same") [.t 32, .t 36] [], some (31, true)⟩,
  ⟨some 38, .pick (.t 31) (.t 37) (.k (.bool false)), none⟩,
  ⟨some 39, .mov (.t 38), none⟩,
  ⟨some 40, .fad 0 (.t 2), some (39, true)⟩,
  ⟨some 41, .load false 1 (.t 40), some (39, true)⟩,
  ⟨some 42, .buildSl 1 8 (.int .i64 (0)) 3 [(0, .k (.int .i64 (0))), (1, .k (.int .i64 (-1))), (2, .k (.int .i64 (1)))], some (39, true)⟩,
  ⟨some 43, .call (F "slices.Equal.I") [.t 41, .t 42] [], some (39, true)⟩,
  ⟨some 44, .pick (.t 39) (.t 43) (.k (.bool false)), none⟩,
  ⟨some 45, .mov (.t 44), none⟩,
  ⟨some 46, .fad 1 (.t 2), some (45, true)⟩,
  ⟨some 47, .load false 1 (.t 46), some (45, true)⟩,
  ⟨some 48, .buildSl 1 8 (.int .i64 (0)) 2 [(0, .k (.int .i64 (-1))), (1, .k (.int .i64 (0)))], some (45, true)⟩,
  ⟨some 49, .call (F "slices.Equal.I") [.t 47, .t 48] [], some (45, true)⟩,
  ⟨some 50, .pick (.t 45) (.t 49) (.k (.bool false)), none⟩,
  ⟨some 51, .mov (.t 50), none⟩,
  ⟨some 52, .mov (.t 6), some (51, true)⟩,
  ⟨some 53, .bin .eql (.t 52) (.k (.int .i64 (14))), some (51, true)⟩,
  ⟨some 54, .pick (.t 51) (.t 53) (.k (.bool false)), none⟩,
  ⟨some 55, .mov (.t 54), none⟩,
  ⟨some 56, .mov (.t 8), some (55, true)⟩,
  ⟨some 57, .bin .eql (.t 56) (.k (.int .i64 (0))), some (55, true)⟩,
  ⟨some 58, .pick (.t 55) (.t 57) (.k (.bool false)), none⟩,
  ⟨some 59, .mov (.t 58), none⟩,
  ⟨some 60, .mov (.t 7), some (59, true)⟩,
  ⟨some 61, .len (.t 60), some (59, true)⟩,
  ⟨some 62, .bin .eql (.t 61) (.k (.int .i64 (1))), some (59, true)⟩,
  ⟨some 63, .pick (.t 59) (.t 62) (.k (.bool false)), none⟩,
  ⟨some 0, .mov (.t 63), none⟩]
def c_l05_awake (F : String → Nat) : LC := (.seq (.reg (c_l05_awake_r0 F) []) (.seq (.reg (c_l05_awake_r1 F) [1, 2, 3]) (.seq (.reg (c_l05_awake_r2 F) [1, 2, 3, 6]) (.seq (.reg (c_l05_awake_r3 F) [1, 2, 3, 6, 7, 8]) (.seq (.reg (c_l05_awake_r4 F) [0]) .ret)))))
def h_l05_awake : Hints := ⟨[], fun _ => [], tab [(0, []), (1, [1, 2, 3]), (2, [1, 2, 3, 6]), (3, [1, 2, 3, 6, 7, 8]), (4, [0])], tab []⟩

attribute [go_sem] c_l05_example_r0 c_l05_example_r1 c_l05_example c_l05_awake_r0 c_l05_awake_r1 c_l05_awake_r2 c_l05_awake_r3 c_l05_awake_r4 c_l05_awake
def exG : G := ⟨[3, 1, 1], [⟨0, 0, 1⟩, ⟨0, 0, 2⟩]⟩
section
variable (P : Program) (F : String → Nat)
def K_l05_example : Prop := FC P (F "l05.example") [] (gA exG) []
def K_l05_awake : Prop := FC P (F "l05.awake") [] (.bool true) []
end
section
variable {P : Program} {F : String → Nat} {α : Type}
theorem w_l05_example : W P (c_l05_example F) (Done [.c 0 true 2] [] (gA exG) []) (init []) := by
  refine W_of ?_
  simp (config := { maxSteps := 1000000 }) (disch := first | omega | (simp only [go_sem]; omega)) only [go_sem, ↓reduceIte]
  rfl
theorem w_l05_awake (he : K_l05_example P F) (hr : K_graph_Remove P F) (hc : K_graph_Components P F) (hs : K_r05_Same P F) (hq : K_slices_Equal_I P F) : W P (c_l05_awake F) (Done [.t 0] [] (.bool true) []) (init []) := by
  refine W_of ?_
  have r1 := hr exG [1] [0] (by decide) (by decide)
  rw [show removeG exG [1] [0] = (⟨[3, 1], [⟨0, 0, 1⟩]⟩, ⟨[0, -1, 1], [-1, 0]⟩, 0) by decide] at r1
  have r2 := hr exG [1] [] (by decide) (by decide)
  rw [show removeG exG [1] [] = (⟨[], []⟩, ⟨[], []⟩, 14) by decide] at r2
  have r3 := hc exG
  rw [show compsG exG = ([⟨[0, 1, 2], [0, 1]⟩], 0) by decide] at r3
  have r0 := he
  unfold K_l05_example gA exG at r0
  simp only [gD, remD, gA, mA, exG] at r1 r2 r3
  simp (config := { maxSteps := 1000000 }) (disch := first | omega | (simp only [go_sem]; omega)) only [go_sem, ↓reduceIte]
  refine call_by r0 ?_
  simp (config := { maxSteps := 1000000 }) (disch := first | omega | (simp only [go_sem]; omega)) only [go_sem, ↓reduceIte]
  refine call_by r1 ?_
  simp (config := { maxSteps := 1000000 }) (disch := first | omega | (simp only [go_sem]; omega)) only [go_sem, ↓reduceIte]
  refine call_by r0 ?_
  simp (config := { maxSteps := 1000000 }) (disch := first | omega | (simp only [go_sem]; omega)) only [go_sem, ↓reduceIte]
  refine call_by (FC.nils r2 (by simp [NilW, ints])) ?_
  simp (config := { maxSteps := 1000000 }) (disch := first | omega | (simp only [go_sem]; omega)) only [go_sem, ↓reduceIte]
  refine call_by r0 ?_
  simp (config := { maxSteps := 1000000 }) (disch := first | omega | (simp only [go_sem]; omega)) only [go_sem, ↓reduceIte]
  refine call_fz r3 ?_
  simp (config := { maxSteps := 1000000 }) (disch := first | omega | (simp only [go_sem]; omega)) only [go_sem, ↓reduceIte]
  refine call_by (hs ⟨[3, 1], [⟨0, 0, 1⟩]⟩ ⟨[3, 1], [⟨0, 0, 1⟩]⟩ (by decide) (by decide)) ?_
  simp (config := { maxSteps := 1000000 }) (disch := first | omega | (simp only [go_sem]; omega)) only [go_sem, ↓reduceIte]
  refine call_by (hq [0, -1, 1] [0, -1, 1] (by decide)) ?_
  simp (config := { maxSteps := 1000000 }) (disch := first | omega | (simp only [go_sem]; omega)) only [go_sem, ↓reduceIte]
  refine call_by (hq [-1, 0] [-1, 0] (by decide)) ?_
  simp (config := { maxSteps := 1000000 }) (disch := first | omega | (simp only [go_sem]; omega)) only [go_sem, ↓reduceIte]
  simp
end
end Go.Am
