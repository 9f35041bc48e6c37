/- Squares: equality, kinds, pasting, lifting: the walks. -/
/- Initial pushouts: what they are; the program's walk. -/
/- Chapter 14: the example; the law Kind. -/
/- Squares: pasting: the walks; the law Paste. -/
import Derived.Test.YtelmgaflhmcihaaGreatSpPa
import Derived.Test.YtelmgaflhmcihaaGreatSpPb
import Derived.Test.YtelmgaflhmcihaaGreatSpPc
import Derived.Test.YtelmgaflhmcihaaGreatSpPd
import Derived.Test.YtelmgaflhmcihaaGreatSpPe
import Derived.Test.YtelmgaflhmcihaaGreatSpPf
namespace Go.Am
open Go
set_option linter.unusedVariables false
set_option linter.unusedSimpArgs false
attribute [local irreducible] W
/- square.Kind -/
def c_square_Kind_r0 (F : String → Nat) : List LI := [⟨some 1, .bx (.t 0), none⟩,
  ⟨some 2, .mov (.k (.int .i64 (0))), none⟩,
  ⟨some 3, .mov (.k (.int .i64 (0))), none⟩]
def c_square_Kind_r1 (F : String → Nat) : List LI := [⟨some 16, .load true 16 (.t 1), none⟩,
  ⟨some 17, .call (F "square.valid") [.t 16] [], none⟩,
  ⟨some 4, .mov (.t 17), none⟩]
def c_square_Kind_r2 (F : String → Nat) : List LI := [⟨some 18, .mov (.t 4), none⟩,
  ⟨some 19, .bin .neq (.t 18) (.k (.int .i64 (0))), none⟩]
def c_square_Kind_r3 (F : String → Nat) : List LI := [⟨some 20, .mov (.t 4), none⟩,
  ⟨some 2, .mov (.k (.int .i64 (0))), none⟩,
  ⟨some 3, .mov (.t 20), none⟩]
def c_square_Kind_r4 (F : String → Nat) : List LI := [⟨some 21, .load true 16 (.t 1), none⟩,
  ⟨some 22, .call (F "square.commutes") [.t 21] [], none⟩,
  ⟨some 23, .not (.t 22), none⟩]
def c_square_Kind_r5 (F : String → Nat) : List LI := [⟨some 2, .mov (.k (.int .i64 (0))), none⟩,
  ⟨some 3, .mov (.k (.int .i64 (0))), none⟩]
def c_square_Kind_r6 (F : String → Nat) : List LI := [⟨some 24, .fad 0 (.t 1), none⟩,
  ⟨some 25, .load true 2 (.t 24), none⟩,
  ⟨some 26, .fad 2 (.t 1), none⟩,
  ⟨some 27, .load true 2 (.t 26), none⟩,
  ⟨some 28, .fad 4 (.t 1), none⟩,
  ⟨some 29, .load true 2 (.t 28), none⟩,
  ⟨some 30, .fad 8 (.t 1), none⟩,
  ⟨some 31, .load true 2 (.t 30), none⟩,
  ⟨some 32, .fad 10 (.t 1), none⟩,
  ⟨some 33, .load true 2 (.t 32), none⟩,
  ⟨some 34, .build [.nl 1, .nl 3, .nl 1, .nl 3, .nl 1, .nl 3, .nl 1, .nl 1, .nl 1, .nl 1] [(0, 2, .t 25), (2, 2, .t 27), (4, 2, .t 29), (6, 2, .t 31), (8, 2, .t 33)], none⟩,
  ⟨some 5, .alloc [.nl 1, .nl 3, .nl 1, .nl 3, .nl 1, .nl 3, .nl 1, .nl 1, .nl 1, .nl 1], none⟩,
  ⟨none, .store 10 (.t 5) (.t 34), none⟩]
def c_square_Kind_r7 (F : String → Nat) : List LI := [⟨some 35, .fad 2 (.t 1), none⟩,
  ⟨some 36, .load true 2 (.t 35), none⟩,
  ⟨some 37, .fad 4 (.t 1), none⟩,
  ⟨some 38, .load true 2 (.t 37), none⟩,
  ⟨some 39, .fad 6 (.t 1), none⟩,
  ⟨some 40, .load true 2 (.t 39), none⟩,
  ⟨some 41, .fad 12 (.t 1), none⟩,
  ⟨some 42, .load true 2 (.t 41), none⟩,
  ⟨some 43, .fad 14 (.t 1), none⟩,
  ⟨some 44, .load true 2 (.t 43), none⟩,
  ⟨some 45, .build [.nl 1, .nl 3, .nl 1, .nl 3, .nl 1, .nl 3, .nl 1, .nl 1, .nl 1, .nl 1] [(0, 2, .t 36), (2, 2, .t 38), (4, 2, .t 40), (6, 2, .t 42), (8, 2, .t 44)], none⟩,
  ⟨some 6, .alloc [.nl 1, .nl 3, .nl 1, .nl 3, .nl 1, .nl 3, .nl 1, .nl 1, .nl 1, .nl 1], none⟩,
  ⟨none, .store 10 (.t 6) (.t 45), none⟩]
def c_square_Kind_r8 (F : String → Nat) : List LI := [⟨some 47, .load true 10 (.t 5), none⟩,
  ⟨some 48, .call (F "pushout.Of") [.t 47] [], none⟩,
  ⟨some 46, .mov (.t 48), none⟩,
  ⟨some 49, .ext (.t 46) 0, none⟩,
  ⟨some 50, .ext (.t 46) 1, none⟩,
  ⟨some 51, .ext (.t 46) 2, none⟩,
  ⟨some 52, .ext (.t 46) 3, none⟩,
  ⟨some 7, .alloc [.nl 1, .nl 3], none⟩,
  ⟨some 8, .alloc [.nl 1, .nl 1], none⟩,
  ⟨some 9, .alloc [.nl 1, .nl 1], none⟩,
  ⟨none, .store 2 (.t 7) (.t 49), none⟩,
  ⟨none, .store 2 (.t 8) (.t 50), none⟩,
  ⟨none, .store 2 (.t 9) (.t 51), none⟩,
  ⟨some 10, .mov (.t 52), none⟩]
def c_square_Kind_r9 (F : String → Nat) : List LI := [⟨some 53, .mov (.t 10), none⟩,
  ⟨some 54, .bin .neq (.t 53) (.k (.int .i64 (0))), none⟩]
def c_square_Kind_r10 (F : String → Nat) : List LI := [⟨some 55, .mov (.t 10), none⟩,
  ⟨some 2, .mov (.k (.int .i64 (0))), none⟩,
  ⟨some 3, .mov (.t 55), none⟩]
def c_square_Kind_r11 (F : String → Nat) : List LI := [⟨some 57, .load true 10 (.t 6), none⟩,
  ⟨some 58, .call (F "pullback.Of") [.t 57] [], none⟩,
  ⟨some 56, .mov (.t 58), none⟩,
  ⟨some 59, .ext (.t 56) 0, none⟩,
  ⟨some 60, .ext (.t 56) 1, none⟩,
  ⟨some 61, .ext (.t 56) 2, none⟩,
  ⟨some 62, .ext (.t 56) 3, none⟩,
  ⟨some 11, .alloc [.nl 1, .nl 3], none⟩,
  ⟨some 12, .alloc [.nl 1, .nl 1], none⟩,
  ⟨some 13, .alloc [.nl 1, .nl 1], none⟩,
  ⟨none, .store 2 (.t 11) (.t 59), none⟩,
  ⟨none, .store 2 (.t 12) (.t 60), none⟩,
  ⟨none, .store 2 (.t 13) (.t 61), none⟩,
  ⟨some 14, .mov (.t 62), none⟩]
def c_square_Kind_r12 (F : String → Nat) : List LI := [⟨some 63, .mov (.t 14), none⟩,
  ⟨some 64, .bin .neq (.t 63) (.k (.int .i64 (0))), none⟩]
def c_square_Kind_r13 (F : String → Nat) : List LI := [⟨some 65, .mov (.t 14), none⟩,
  ⟨some 2, .mov (.k (.int .i64 (0))), none⟩,
  ⟨some 3, .mov (.t 65), none⟩]
def c_square_Kind_r14 (F : String → Nat) : List LI := [⟨some 15, .mov (.k (.int .i64 (0))), none⟩]
def c_square_Kind_r15 (F : String → Nat) : List LI := [⟨some 66, .load true 10 (.t 5), none⟩,
  ⟨some 67, .fad 6 (.t 1), none⟩,
  ⟨some 68, .load true 2 (.t 67), none⟩,
  ⟨some 69, .fad 12 (.t 1), none⟩,
  ⟨some 70, .load true 2 (.t 69), none⟩,
  ⟨some 71, .fad 14 (.t 1), none⟩,
  ⟨some 72, .load true 2 (.t 71), none⟩,
  ⟨some 73, .call (F "pushout.Check") [.t 66, .t 68, .t 70, .t 72] [], none⟩]
def c_square_Kind_r16 (F : String → Nat) : List LI := [⟨some 74, .mov (.t 15), none⟩,
  ⟨some 75, .bin .add (.t 74) (.k (.int .i64 (1))), none⟩,
  ⟨some 15, .mov (.t 75), none⟩]
def c_square_Kind_r17 (F : String → Nat) : List LI := [⟨some 76, .load true 10 (.t 6), none⟩,
  ⟨some 77, .fad 0 (.t 1), none⟩,
  ⟨some 78, .load true 2 (.t 77), none⟩,
  ⟨some 79, .fad 8 (.t 1), none⟩,
  ⟨some 80, .load true 2 (.t 79), none⟩,
  ⟨some 81, .fad 10 (.t 1), none⟩,
  ⟨some 82, .load true 2 (.t 81), none⟩,
  ⟨some 83, .call (F "pullback.Check") [.t 76, .t 78, .t 80, .t 82] [], none⟩]
def c_square_Kind_r18 (F : String → Nat) : List LI := [⟨some 84, .mov (.t 15), none⟩,
  ⟨some 85, .bin .add (.t 84) (.k (.int .i64 (2))), none⟩,
  ⟨some 15, .mov (.t 85), none⟩]
def c_square_Kind_r19 (F : String → Nat) : List LI := [⟨some 86, .mov (.t 15), none⟩,
  ⟨some 2, .mov (.t 86), none⟩,
  ⟨some 3, .mov (.k (.int .i64 (0))), none⟩]
def c_square_Kind (F : String → Nat) : LC := (.seq (.reg (c_square_Kind_r0 F) [1]) (.seq (.seq (.reg (c_square_Kind_r1 F) [1, 4]) (.seq (.reg (c_square_Kind_r2 F) [1, 4, 19]) (.cond (.t 19) (.seq (.reg (c_square_Kind_r3 F) [2, 3]) .ret) .skip))) (.seq (.seq (.reg (c_square_Kind_r4 F) [1, 23]) (.cond (.t 23) (.seq (.reg (c_square_Kind_r5 F) [2, 3]) .ret) .skip)) (.seq (.reg (c_square_Kind_r6 F) [1, 5]) (.seq (.reg (c_square_Kind_r7 F) [1, 5, 6]) (.seq (.seq (.reg (c_square_Kind_r8 F) [1, 5, 6, 10]) (.seq (.reg (c_square_Kind_r9 F) [1, 5, 6, 10, 54]) (.cond (.t 54) (.seq (.reg (c_square_Kind_r10 F) [2, 3]) .ret) .skip))) (.seq (.seq (.reg (c_square_Kind_r11 F) [1, 5, 6, 14]) (.seq (.reg (c_square_Kind_r12 F) [1, 5, 6, 14, 64]) (.cond (.t 64) (.seq (.reg (c_square_Kind_r13 F) [2, 3]) .ret) .skip))) (.seq (.reg (c_square_Kind_r14 F) [1, 5, 6, 15]) (.seq (.seq (.reg (c_square_Kind_r15 F) [1, 6, 15, 73]) (.cond (.t 73) (.reg (c_square_Kind_r16 F) [1, 6, 15]) .skip)) (.seq (.seq (.reg (c_square_Kind_r17 F) [15, 83]) (.cond (.t 83) (.reg (c_square_Kind_r18 F) [15]) .skip)) (.seq (.reg (c_square_Kind_r19 F) [2, 3]) .ret)))))))))))
def h_square_Kind : Hints := ⟨[], fun _ => [], tab [(0, [1]), (1, [1, 4]), (2, [1, 4, 19]), (3, [2, 3]), (4, [1, 23]), (5, [2, 3]), (6, [1, 5]), (7, [1, 5, 6]), (8, [1, 5, 6, 10]), (9, [1, 5, 6, 10, 54]), (10, [2, 3]), (11, [1, 5, 6, 14]), (12, [1, 5, 6, 14, 64]), (13, [2, 3]), (14, [1, 5, 6, 15]), (15, [1, 6, 15, 73]), (16, [1, 6, 15]), (17, [15, 83]), (18, [15]), (19, [2, 3])], tab []⟩

attribute [go_sem] c_square_Kind_r0 c_square_Kind_r1 c_square_Kind_r2 c_square_Kind_r3 c_square_Kind_r4 c_square_Kind_r5 c_square_Kind_r6 c_square_Kind_r7 c_square_Kind_r8 c_square_Kind_r9 c_square_Kind_r10 c_square_Kind_r11 c_square_Kind_r12 c_square_Kind_r13 c_square_Kind_r14 c_square_Kind_r15 c_square_Kind_r16 c_square_Kind_r17 c_square_Kind_r18 c_square_Kind_r19 c_square_Kind
def kindV (s : Sq) : Int := (if chkP s.dn s.d s.h s.k = true then 1 else 0) + (if checkM s.up s.a s.f s.g = true then 2 else 0)
def kindR (s : Sq) : Int × Int := if sqE s ≠ 0 then (0, sqE s) else if comB s = false then (0, 0) else if poErr s.dn ≠ 0 then (0, poErr s.dn) else if pbErr s.up ≠ 0 then (0, pbErr s.up) else (kindV s, 0)
def pasS (s t : Sq) : Sq := ⟨s.a, t.b, s.c, t.d, thenM s.f t.f, s.g, t.h, thenM s.k t.k⟩
section
variable (P : Program) (F : String → Nat)
def K_square_Kind : Prop := ∀ s : Sq, FC P (F "square.Kind") [sqD s] (.tup [.int .i64 (kindR s).1, .int .i64 (kindR s).2]) []
end
section
variable {P : Program} {F : String → Nat} {α : Type}
set_option maxHeartbeats 1000000 in
theorem w_r14_Few (hg : K_r05_Few P F) (hm : K_r06_Few P F) (s : Sq) (h : s.sm) : W P (c_r14_Few F) (Done [.t 2] [] (.bool (fewSq s)) []) (init [sqD s]) := by
  refine W_of ?_
  obtain ⟨f, g, hh, k⟩ := h
  have ra := hg s.a
  have rb := hg s.b
  have rc := hg s.c
  have rd := hg s.d
  have rf := hm s.f 140 f.1 f.2
  have rg := hm s.g 140 g.1 g.2
  have rh := hm s.h 140 hh.1 hh.2
  have rk := hm s.k 140 k.1 k.2
  unfold fewSq
  generalize few s.a = za at *
  generalize few s.b = zb at *
  generalize few s.c = zc at *
  generalize few s.d = zd at *
  generalize fewM s.f 140 = zf at *
  generalize fewM s.g 140 = zg at *
  generalize fewM s.h 140 = zh at *
  generalize fewM s.k 140 = zk at *
  simp only [gD, mD, sqD] at *
  cases za
  · simp (config := { maxSteps := 1000000 }) (disch := first | omega | (simp only [go_sem]; omega)) only [go_sem, ↓reduceIte]
    refine call_by ra ?_
    simp (config := { maxSteps := 1000000 }) (disch := first | omega | (simp only [go_sem]; omega)) only [go_sem, ↓reduceIte]
    try simp
  cases zb
  · simp (config := { maxSteps := 1000000 }) (disch := first | omega | (simp only [go_sem]; omega)) only [go_sem, ↓reduceIte]
    refine call_by ra ?_
    simp (config := { maxSteps := 1000000 }) (disch := first | omega | (simp only [go_sem]; omega)) only [go_sem, ↓reduceIte]
    refine call_by rb ?_
    simp (config := { maxSteps := 1000000 }) (disch := first | omega | (simp only [go_sem]; omega)) only [go_sem, ↓reduceIte]
    try simp
  cases zc
  · simp (config := { maxSteps := 1000000 }) (disch := first | omega | (simp only [go_sem]; omega)) only [go_sem, ↓reduceIte]
    refine call_by ra ?_
    simp (config := { maxSteps := 1000000 }) (disch := first | omega | (simp only [go_sem]; omega)) only [go_sem, ↓reduceIte]
    refine call_by rb ?_
    simp (config := { maxSteps := 1000000 }) (disch := first | omega | (simp only [go_sem]; omega)) only [go_sem, ↓reduceIte]
    refine call_by rc ?_
    simp (config := { maxSteps := 1000000 }) (disch := first | omega | (simp only [go_sem]; omega)) only [go_sem, ↓reduceIte]
    try simp
  cases zd
  · simp (config := { maxSteps := 1000000 }) (disch := first | omega | (simp only [go_sem]; omega)) only [go_sem, ↓reduceIte]
    refine call_by ra ?_
    simp (config := { maxSteps := 1000000 }) (disch := first | omega | (simp only [go_sem]; omega)) only [go_sem, ↓reduceIte]
    refine call_by rb ?_
    simp (config := { maxSteps := 1000000 }) (disch := first | omega | (simp only [go_sem]; omega)) only [go_sem, ↓reduceIte]
    refine call_by rc ?_
    simp (config := { maxSteps := 1000000 }) (disch := first | omega | (simp only [go_sem]; omega)) only [go_sem, ↓reduceIte]
    refine call_by rd ?_
    simp (config := { maxSteps := 1000000 }) (disch := first | omega | (simp only [go_sem]; omega)) only [go_sem, ↓reduceIte]
    try simp
  cases zf
  · simp (config := { maxSteps := 1000000 }) (disch := first | omega | (simp only [go_sem]; omega)) only [go_sem, ↓reduceIte]
    refine call_by ra ?_
    simp (config := { maxSteps := 1000000 }) (disch := first | omega | (simp only [go_sem]; omega)) only [go_sem, ↓reduceIte]
    refine call_by rb ?_
    simp (config := { maxSteps := 1000000 }) (disch := first | omega | (simp only [go_sem]; omega)) only [go_sem, ↓reduceIte]
    refine call_by rc ?_
    simp (config := { maxSteps := 1000000 }) (disch := first | omega | (simp only [go_sem]; omega)) only [go_sem, ↓reduceIte]
    refine call_by rd ?_
    simp (config := { maxSteps := 1000000 }) (disch := first | omega | (simp only [go_sem]; omega)) only [go_sem, ↓reduceIte]
    refine call_by rf ?_
    simp (config := { maxSteps := 1000000 }) (disch := first | omega | (simp only [go_sem]; omega)) only [go_sem, ↓reduceIte]
    try simp
  cases zg
  · simp (config := { maxSteps := 1000000 }) (disch := first | omega | (simp only [go_sem]; omega)) only [go_sem, ↓reduceIte]
    refine call_by ra ?_
    simp (config := { maxSteps := 1000000 }) (disch := first | omega | (simp only [go_sem]; omega)) only [go_sem, ↓reduceIte]
    refine call_by rb ?_
    simp (config := { maxSteps := 1000000 }) (disch := first | omega | (simp only [go_sem]; omega)) only [go_sem, ↓reduceIte]
    refine call_by rc ?_
    simp (config := { maxSteps := 1000000 }) (disch := first | omega | (simp only [go_sem]; omega)) only [go_sem, ↓reduceIte]
    refine call_by rd ?_
    simp (config := { maxSteps := 1000000 }) (disch := first | omega | (simp only [go_sem]; omega)) only [go_sem, ↓reduceIte]
    refine call_by rf ?_
    simp (config := { maxSteps := 1000000 }) (disch := first | omega | (simp only [go_sem]; omega)) only [go_sem, ↓reduceIte]
    refine call_by rg ?_
    simp (config := { maxSteps := 1000000 }) (disch := first | omega | (simp only [go_sem]; omega)) only [go_sem, ↓reduceIte]
    try simp
  cases zh
  · simp (config := { maxSteps := 1000000 }) (disch := first | omega | (simp only [go_sem]; omega)) only [go_sem, ↓reduceIte]
    refine call_by ra ?_
    simp (config := { maxSteps := 1000000 }) (disch := first | omega | (simp only [go_sem]; omega)) only [go_sem, ↓reduceIte]
    refine call_by rb ?_
    simp (config := { maxSteps := 1000000 }) (disch := first | omega | (simp only [go_sem]; omega)) only [go_sem, ↓reduceIte]
    refine call_by rc ?_
    simp (config := { maxSteps := 1000000 }) (disch := first | omega | (simp only [go_sem]; omega)) only [go_sem, ↓reduceIte]
    refine call_by rd ?_
    simp (config := { maxSteps := 1000000 }) (disch := first | omega | (simp only [go_sem]; omega)) only [go_sem, ↓reduceIte]
    refine call_by rf ?_
    simp (config := { maxSteps := 1000000 }) (disch := first | omega | (simp only [go_sem]; omega)) only [go_sem, ↓reduceIte]
    refine call_by rg ?_
    simp (config := { maxSteps := 1000000 }) (disch := first | omega | (simp only [go_sem]; omega)) only [go_sem, ↓reduceIte]
    refine call_by rh ?_
    simp (config := { maxSteps := 1000000 }) (disch := first | omega | (simp only [go_sem]; omega)) only [go_sem, ↓reduceIte]
    try simp
  cases zk
  · simp (config := { maxSteps := 1000000 }) (disch := first | omega | (simp only [go_sem]; omega)) only [go_sem, ↓reduceIte]
    refine call_by ra ?_
    simp (config := { maxSteps := 1000000 }) (disch := first | omega | (simp only [go_sem]; omega)) only [go_sem, ↓reduceIte]
    refine call_by rb ?_
    simp (config := { maxSteps := 1000000 }) (disch := first | omega | (simp only [go_sem]; omega)) only [go_sem, ↓reduceIte]
    refine call_by rc ?_
    simp (config := { maxSteps := 1000000 }) (disch := first | omega | (simp only [go_sem]; omega)) only [go_sem, ↓reduceIte]
    refine call_by rd ?_
    simp (config := { maxSteps := 1000000 }) (disch := first | omega | (simp only [go_sem]; omega)) only [go_sem, ↓reduceIte]
    refine call_by rf ?_
    simp (config := { maxSteps := 1000000 }) (disch := first | omega | (simp only [go_sem]; omega)) only [go_sem, ↓reduceIte]
    refine call_by rg ?_
    simp (config := { maxSteps := 1000000 }) (disch := first | omega | (simp only [go_sem]; omega)) only [go_sem, ↓reduceIte]
    refine call_by rh ?_
    simp (config := { maxSteps := 1000000 }) (disch := first | omega | (simp only [go_sem]; omega)) only [go_sem, ↓reduceIte]
    refine call_by rk ?_
    simp (config := { maxSteps := 1000000 }) (disch := first | omega | (simp only [go_sem]; omega)) only [go_sem, ↓reduceIte]
    try simp
  · simp (config := { maxSteps := 1000000 }) (disch := first | omega | (simp only [go_sem]; omega)) only [go_sem, ↓reduceIte]
    refine call_by ra ?_
    simp (config := { maxSteps := 1000000 }) (disch := first | omega | (simp only [go_sem]; omega)) only [go_sem, ↓reduceIte]
    refine call_by rb ?_
    simp (config := { maxSteps := 1000000 }) (disch := first | omega | (simp only [go_sem]; omega)) only [go_sem, ↓reduceIte]
    refine call_by rc ?_
    simp (config := { maxSteps := 1000000 }) (disch := first | omega | (simp only [go_sem]; omega)) only [go_sem, ↓reduceIte]
    refine call_by rd ?_
    simp (config := { maxSteps := 1000000 }) (disch := first | omega | (simp only [go_sem]; omega)) only [go_sem, ↓reduceIte]
    refine call_by rf ?_
    simp (config := { maxSteps := 1000000 }) (disch := first | omega | (simp only [go_sem]; omega)) only [go_sem, ↓reduceIte]
    refine call_by rg ?_
    simp (config := { maxSteps := 1000000 }) (disch := first | omega | (simp only [go_sem]; omega)) only [go_sem, ↓reduceIte]
    refine call_by rh ?_
    simp (config := { maxSteps := 1000000 }) (disch := first | omega | (simp only [go_sem]; omega)) only [go_sem, ↓reduceIte]
    refine call_by rk ?_
    simp (config := { maxSteps := 1000000 }) (disch := first | omega | (simp only [go_sem]; omega)) only [go_sem, ↓reduceIte]
    try simp
set_option maxHeartbeats 1000000 in
theorem w_square_Kind (hv : K_square_valid P F) (hc : K_square_commutes P F) (ho : K_pushout_Of P F) (hb : K_pullback_Of P F) (h1 : K_pushout_Check P F) (h2 : K_pullback_Check P F) (s : Sq) : W P (c_square_Kind F) (Done [.t 2, .t 3] [] (.tup [.int .i64 (kindR s).1, .int .i64 (kindR s).2]) []) (init [sqD s]) := by
  refine W_of ?_
  have r1 := hv s
  have r2 := hc s
  have r3 := ho s.dn
  have r4 := hb s.up
  have r5 := h1 s.dn s.d s.h s.k
  have r6 := h2 s.up s.a s.f s.g
  have e3 : (poR s.dn).2.2.2 = poErr s.dn := by unfold poR; split <;> simp_all
  unfold kindR kindV
  generalize sqE s = v1 at *
  generalize comB s = v2 at *
  generalize chkP s.dn s.d s.h s.k = v5 at *
  generalize checkM s.up s.a s.f s.g = v6 at *
  generalize poErr s.dn = v3 at *
  generalize pbErr s.up = v4 at *
  generalize poR s.dn = R at *
  generalize pbG s.up = pg at *
  generalize pbP s.up = pp at *
  generalize pbQ s.up = pq at *
  obtain ⟨⟨rn, re⟩, ⟨an, ae⟩, ⟨bn, be⟩, v⟩ := R
  simp only at e3
  subst e3
  simp only [gD, mD, gA, mA, sqD, spD, csD, poD, Sq.dn, Sq.up] at *
  simp (config := { maxSteps := 1000000 }) (disch := first | omega | (simp only [go_sem]; omega)) only [go_sem, ↓reduceIte]
  refine call_by r1 ?_
  simp (config := { maxSteps := 1000000 }) (disch := first | omega | (simp only [go_sem]; omega)) only [go_sem, ↓reduceIte]
  refine bran_ndec (fun c => ?_) (fun c => ?_)
  · simp (config := { maxSteps := 1000000 }) (disch := first | omega | (simp only [go_sem]; omega)) only [go_sem, ↓reduceIte]
    try simp [c]
  rw [if_neg (by simp [c])]
  have r2 := r2 c
  cases v2
  · simp (config := { maxSteps := 1000000 }) (disch := first | omega | (simp only [go_sem]; omega)) only [go_sem, ↓reduceIte]
    refine call_by r2 ?_
    simp (config := { maxSteps := 1000000 }) (disch := first | omega | (simp only [go_sem]; omega)) only [go_sem, ↓reduceIte]
    try simp
  rw [if_neg (by simp)]
  simp (config := { maxSteps := 1000000 }) (disch := first | omega | (simp only [go_sem]; omega)) only [go_sem, ↓reduceIte]
  refine call_by r2 ?_
  simp (config := { maxSteps := 1000000 }) (disch := first | omega | (simp only [go_sem]; omega)) only [go_sem, ↓reduceIte]
  refine call_by r3 ?_
  simp (config := { maxSteps := 1000000 }) (disch := first | omega | (simp only [go_sem]; omega)) only [go_sem, ↓reduceIte]
  refine bran_ndec (fun c => ?_) (fun c => ?_)
  · simp (config := { maxSteps := 1000000 }) (disch := first | omega | (simp only [go_sem]; omega)) only [go_sem, ↓reduceIte]
    try simp [c]
  rw [if_neg (by simp [c])]
  simp (config := { maxSteps := 1000000 }) (disch := first | omega | (simp only [go_sem]; omega)) only [go_sem, ↓reduceIte]
  refine call_by r4 ?_
  simp (config := { maxSteps := 1000000 }) (disch := first | omega | (simp only [go_sem]; omega)) only [go_sem, ↓reduceIte]
  refine bran_ndec (fun c => ?_) (fun c => ?_)
  · simp (config := { maxSteps := 1000000 }) (disch := first | omega | (simp only [go_sem]; omega)) only [go_sem, ↓reduceIte]
    try simp [c]
  rw [if_neg (by simp [c])]
  simp (config := { maxSteps := 1000000 }) (disch := first | omega | (simp only [go_sem]; omega)) only [go_sem, ↓reduceIte]
  refine call_by r5 ?_
  cases v5 <;> cases v6
  all_goals
    simp (config := { maxSteps := 1000000 }) (disch := first | omega | (simp only [go_sem]; omega)) only [go_sem, ↓reduceIte]
    refine call_by r6 ?_
    simp (config := { maxSteps := 1000000 }) (disch := first | omega | (simp only [go_sem]; omega)) only [go_sem, ↓reduceIte]
    try simp
end
end Go.Am
namespace Go.Am
open Go
set_option linter.unusedVariables false
set_option linter.unusedSimpArgs false
attribute [local irreducible] W
/- square.Initial -/
def c_square_Initial_r0 (F : String → Nat) : List LI := [⟨some 3, .bx (.t 0), none⟩,
  ⟨some 4, .bx (.t 1), none⟩,
  ⟨some 5, .bx (.t 2), none⟩,
  ⟨some 6, .alloc [.nl 1, .nl 3, .nl 1, .nl 3, .nl 1, .nl 3, .nl 1, .nl 3, .nl 1, .nl 1, .nl 1, .nl 1, .nl 1, .nl 1, .nl 1, .nl 1], none⟩,
  ⟨some 7, .mov (.k (.int .i64 (0))), none⟩]
def c_square_Initial_r1 (F : String → Nat) : List LI := [⟨some 26, .load true 2 (.t 3), none⟩,
  ⟨some 27, .load true 2 (.t 4), none⟩,
  ⟨some 28, .load true 2 (.t 5), none⟩,
  ⟨some 29, .call (F "morphism.Valid") [.t 26, .t 27, .t 28] [], none⟩,
  ⟨some 8, .mov (.t 29), none⟩]
def c_square_Initial_r2 (F : String → Nat) : List LI := [⟨some 30, .mov (.t 8), none⟩,
  ⟨some 31, .bin .neq (.t 30) (.k (.int .i64 (0))), none⟩]
def c_square_Initial_r3 (F : String → Nat) : List LI := [⟨some 32, .build [.nl 1, .nl 3, .nl 1, .nl 3, .nl 1, .nl 3, .nl 1, .nl 3, .nl 1, .nl 1, .nl 1, .nl 1, .nl 1, .nl 1, .nl 1, .nl 1] [], none⟩,
  ⟨some 33, .mov (.t 8), none⟩,
  ⟨none, .store 16 (.t 6) (.t 32), none⟩,
  ⟨some 7, .mov (.t 33), none⟩]
def c_square_Initial_r4 (F : String → Nat) : List LI := [⟨some 34, .load true 2 (.t 3), none⟩,
  ⟨some 35, .load true 2 (.t 4), none⟩,
  ⟨some 36, .load true 2 (.t 5), none⟩,
  ⟨some 37, .call (F "morphism.Injective") [.t 34, .t 35, .t 36] [], none⟩,
  ⟨some 38, .not (.t 37), none⟩]
def c_square_Initial_r5 (F : String → Nat) : List LI := [⟨some 39, .build [.nl 1, .nl 3, .nl 1, .nl 3, .nl 1, .nl 3, .nl 1, .nl 3, .nl 1, .nl 1, .nl 1, .nl 1, .nl 1, .nl 1, .nl 1, .nl 1] [], none⟩,
  ⟨none, .store 16 (.t 6) (.t 39), none⟩,
  ⟨some 7, .mov (.k (.int .i64 (15))), none⟩]
def c_square_Initial_r6 (F : String → Nat) : List LI := [⟨some 9, .alloc [.nl 1, .nl 1], none⟩,
  ⟨some 10, .alloc [.nl 1, .nl 1], none⟩]
def c_square_Initial_r7 (F : String → Nat) : List LI := [⟨some 40, .fad 1 (.t 4), none⟩,
  ⟨some 41, .load false 1 (.t 40), none⟩,
  ⟨some 42, .len (.t 41), none⟩,
  ⟨some 43, .mov (.k (.int .i64 (0))), none⟩]
def c_square_Initial_r8 (F : String → Nat) : List LI := [⟨some 44, .bin .lss (.t 43) (.t 42), none⟩]
def c_square_Initial_r9 (F : String → Nat) : List LI := [⟨some 45, .mov (.t 43), none⟩,
  ⟨some 46, .iad 3 (.t 41) (.t 43), none⟩,
  ⟨some 47, .load true 3 (.t 46), none⟩,
  ⟨some 12, .alloc [.int .i64 (0), .int .i64 (0), .int .i64 (0)], none⟩,
  ⟨some 11, .mov (.t 45), none⟩,
  ⟨none, .store 3 (.t 12) (.t 47), none⟩]
def c_square_Initial_r10 (F : String → Nat) : List LI := [⟨some 48, .fad 1 (.t 5), none⟩,
  ⟨some 49, .load false 1 (.t 48), none⟩,
  ⟨some 50, .mov (.t 11), none⟩,
  ⟨some 51, .call (F "slices.Contains.I") [.t 49, .t 50] [], none⟩]
def c_square_Initial_r11 (F : String → Nat) : List LI := [⟨some 52, .fad 1 (.t 10), none⟩,
  ⟨some 53, .load false 1 (.t 52), none⟩,
  ⟨some 54, .mov (.t 11), none⟩,
  ⟨some 55, .buildSl 1 8 (.int .i64 (0)) 1 [(0, .t 54)], none⟩,
  ⟨some 56, .app 1 8 (.t 53) (.t 55), none⟩,
  ⟨some 57, .fad 1 (.t 10), none⟩,
  ⟨none, .store 1 (.t 57) (.t 56), none⟩]
def c_square_Initial_r12 (F : String → Nat) : List LI := [⟨some 58, .fad 1 (.t 12), none⟩,
  ⟨some 59, .load false 1 (.t 58), none⟩,
  ⟨some 60, .fad 2 (.t 12), none⟩,
  ⟨some 61, .load false 1 (.t 60), none⟩,
  ⟨some 62, .buildSl 1 8 (.int .i64 (0)) 2 [(0, .t 59), (1, .t 61)], none⟩,
  ⟨some 63, .len (.t 62), none⟩,
  ⟨some 64, .mov (.k (.int .i64 (0))), none⟩]
def c_square_Initial_r13 (F : String → Nat) : List LI := [⟨some 65, .bin .lss (.t 64) (.t 63), none⟩]
def c_square_Initial_r14 (F : String → Nat) : List LI := [⟨some 66, .iad 1 (.t 62) (.t 64), none⟩,
  ⟨some 67, .load false 1 (.t 66), none⟩,
  ⟨some 14, .mov (.t 67), none⟩]
def c_square_Initial_r15 (F : String → Nat) : List LI := [⟨some 68, .fad 0 (.t 5), none⟩,
  ⟨some 69, .load false 1 (.t 68), none⟩,
  ⟨some 70, .mov (.t 14), none⟩,
  ⟨some 71, .call (F "slices.Index.I") [.t 69, .t 70] [], none⟩,
  ⟨some 15, .mov (.t 71), none⟩]
def c_square_Initial_r16 (F : String → Nat) : List LI := [⟨some 72, .mov (.t 15), none⟩,
  ⟨some 73, .bin .geq (.t 72) (.k (.int .i64 (0))), none⟩,
  ⟨some 74, .mov (.t 73), none⟩,
  ⟨some 75, .fad 0 (.t 9), some (74, true)⟩,
  ⟨some 76, .load false 1 (.t 75), some (74, true)⟩,
  ⟨some 77, .mov (.t 15), some (74, true)⟩,
  ⟨some 78, .call (F "slices.Contains.I") [.t 76, .t 77] [], some (74, true)⟩,
  ⟨some 79, .not (.t 78), some (74, true)⟩,
  ⟨some 80, .pick (.t 74) (.t 79) (.k (.bool false)), none⟩]
def c_square_Initial_r17 (F : String → Nat) : List LI := [⟨some 81, .fad 0 (.t 9), none⟩,
  ⟨some 82, .load false 1 (.t 81), none⟩,
  ⟨some 83, .mov (.t 15), none⟩,
  ⟨some 84, .buildSl 1 8 (.int .i64 (0)) 1 [(0, .t 83)], none⟩,
  ⟨some 85, .app 1 8 (.t 82) (.t 84), none⟩,
  ⟨some 86, .fad 0 (.t 9), none⟩,
  ⟨none, .store 1 (.t 86) (.t 85), none⟩]
def c_square_Initial_r18 (F : String → Nat) : List LI := [⟨some 87, .bin .add (.t 64) (.k (.int .i64 (1))), none⟩,
  ⟨some 64, .mov (.t 87), none⟩]
def c_square_Initial_b19 (F : String → Nat) : LC := (.seq (.reg (c_square_Initial_r13 F) [3, 4, 5, 6, 9, 10, 41, 42, 43, 62, 63, 64, 65]) (.seq (.cond (.t 65) .skip (.exit 2)) (.seq (.block 3 (.seq (.reg (c_square_Initial_r14 F) [3, 4, 5, 6, 9, 10, 14, 41, 42, 43, 62, 63, 64]) (.seq (.reg (c_square_Initial_r15 F) [3, 4, 5, 6, 9, 10, 15, 41, 42, 43, 62, 63, 64]) (.seq (.reg (c_square_Initial_r16 F) [3, 4, 5, 6, 9, 10, 15, 41, 42, 43, 62, 63, 64, 80]) (.cond (.t 80) (.reg (c_square_Initial_r17 F) [3, 4, 5, 6, 9, 10, 41, 42, 43, 62, 63, 64]) .skip))))) (.reg (c_square_Initial_r18 F) [3, 4, 5, 6, 9, 10, 41, 42, 43, 62, 63, 64]))))
def c_square_Initial_r20 (F : String → Nat) : List LI := [⟨some 88, .bin .add (.t 43) (.k (.int .i64 (1))), none⟩,
  ⟨some 43, .mov (.t 88), none⟩]
def c_square_Initial_b21 (F : String → Nat) : LC := (.seq (.reg (c_square_Initial_r8 F) [3, 4, 5, 6, 9, 10, 41, 42, 43, 44]) (.seq (.cond (.t 44) .skip (.exit 0)) (.seq (.block 1 (.seq (.reg (c_square_Initial_r9 F) [3, 4, 5, 6, 9, 10, 11, 12, 41, 42, 43]) (.seq (.seq (.reg (c_square_Initial_r10 F) [3, 4, 5, 6, 9, 10, 11, 12, 41, 42, 43, 51]) (.cond (.t 51) (.exit 1) .skip)) (.seq (.reg (c_square_Initial_r11 F) [3, 4, 5, 6, 9, 10, 12, 41, 42, 43]) (.seq (.reg (c_square_Initial_r12 F) [3, 4, 5, 6, 9, 10, 41, 42, 43, 62, 63, 64]) (.block 2 (.loop [3, 4, 5, 6, 9, 10, 41, 42, 43, 62, 63, 64] (c_square_Initial_b19 F)))))))) (.reg (c_square_Initial_r20 F) [3, 4, 5, 6, 9, 10, 41, 42, 43]))))
def c_square_Initial_r22 (F : String → Nat) : List LI := [⟨some 89, .fad 0 (.t 9), none⟩,
  ⟨some 90, .load false 1 (.t 89), none⟩,
  ⟨some 91, .call (F "slices.Sort.I") [.t 90] [.mu], none⟩]
def c_square_Initial_r23 (F : String → Nat) : List LI := [⟨some 92, .fad 0 (.t 4), none⟩,
  ⟨some 93, .load false 1 (.t 92), none⟩,
  ⟨some 94, .len (.t 93), none⟩,
  ⟨some 95, .mov (.k (.int .i64 (0))), none⟩]
def c_square_Initial_r24 (F : String → Nat) : List LI := [⟨some 96, .bin .lss (.t 95) (.t 94), none⟩]
def c_square_Initial_r25 (F : String → Nat) : List LI := [⟨some 97, .mov (.t 95), none⟩,
  ⟨some 16, .mov (.t 97), none⟩]
def c_square_Initial_r26 (F : String → Nat) : List LI := [⟨some 98, .fad 0 (.t 5), none⟩,
  ⟨some 99, .load false 1 (.t 98), none⟩,
  ⟨some 100, .mov (.t 16), none⟩,
  ⟨some 101, .call (F "slices.Index.I") [.t 99, .t 100] [], none⟩,
  ⟨some 17, .mov (.t 101), none⟩]
def c_square_Initial_r27 (F : String → Nat) : List LI := [⟨some 102, .mov (.t 17), none⟩,
  ⟨some 103, .bin .lss (.t 102) (.k (.int .i64 (0))), none⟩,
  ⟨some 104, .mov (.t 103), none⟩,
  ⟨some 105, .fad 0 (.t 9), some (104, false)⟩,
  ⟨some 106, .load false 1 (.t 105), some (104, false)⟩,
  ⟨some 107, .mov (.t 17), some (104, false)⟩,
  ⟨some 108, .call (F "slices.Contains.I") [.t 106, .t 107] [], some (104, false)⟩,
  ⟨some 109, .pick (.t 104) (.k (.bool true)) (.t 108), none⟩]
def c_square_Initial_r28 (F : String → Nat) : List LI := [⟨some 110, .fad 0 (.t 10), none⟩,
  ⟨some 111, .load false 1 (.t 110), none⟩,
  ⟨some 112, .mov (.t 16), none⟩,
  ⟨some 113, .buildSl 1 8 (.int .i64 (0)) 1 [(0, .t 112)], none⟩,
  ⟨some 114, .app 1 8 (.t 111) (.t 113), none⟩,
  ⟨some 115, .fad 0 (.t 10), none⟩,
  ⟨none, .store 1 (.t 115) (.t 114), none⟩]
def c_square_Initial_r29 (F : String → Nat) : List LI := [⟨some 116, .bin .add (.t 95) (.k (.int .i64 (1))), none⟩,
  ⟨some 95, .mov (.t 116), none⟩]
def c_square_Initial_b30 (F : String → Nat) : LC := (.seq (.reg (c_square_Initial_r24 F) [3, 4, 5, 6, 9, 10, 94, 95, 96]) (.seq (.cond (.t 96) .skip (.exit 4)) (.seq (.block 5 (.seq (.reg (c_square_Initial_r25 F) [3, 4, 5, 6, 9, 10, 16, 94, 95]) (.seq (.reg (c_square_Initial_r26 F) [3, 4, 5, 6, 9, 10, 16, 17, 94, 95]) (.seq (.reg (c_square_Initial_r27 F) [3, 4, 5, 6, 9, 10, 16, 94, 95, 109]) (.cond (.t 109) (.reg (c_square_Initial_r28 F) [3, 4, 5, 6, 9, 10, 94, 95]) .skip))))) (.reg (c_square_Initial_r29 F) [3, 4, 5, 6, 9, 10, 94, 95]))))
def c_square_Initial_r31 (F : String → Nat) : List LI := [⟨some 118, .load true 2 (.t 3), none⟩,
  ⟨some 119, .load true 2 (.t 9), none⟩,
  ⟨some 120, .call (F "subgraph.Extract") [.t 118, .t 119] [], none⟩,
  ⟨some 117, .mov (.t 120), none⟩,
  ⟨some 121, .ext (.t 117) 0, none⟩,
  ⟨some 122, .ext (.t 117) 1, none⟩,
  ⟨some 123, .ext (.t 117) 2, none⟩,
  ⟨some 18, .alloc [.nl 1, .nl 3], none⟩,
  ⟨some 19, .alloc [.nl 1, .nl 1], none⟩,
  ⟨none, .store 2 (.t 18) (.t 121), none⟩,
  ⟨none, .store 2 (.t 19) (.t 122), none⟩,
  ⟨some 20, .mov (.t 123), none⟩]
def c_square_Initial_r32 (F : String → Nat) : List LI := [⟨some 124, .mov (.t 20), none⟩,
  ⟨some 125, .bin .neq (.t 124) (.k (.int .i64 (0))), none⟩]
def c_square_Initial_r33 (F : String → Nat) : List LI := [⟨some 126, .build [.nl 1, .nl 3, .nl 1, .nl 3, .nl 1, .nl 3, .nl 1, .nl 3, .nl 1, .nl 1, .nl 1, .nl 1, .nl 1, .nl 1, .nl 1, .nl 1] [], none⟩,
  ⟨some 127, .mov (.t 20), none⟩,
  ⟨none, .store 16 (.t 6) (.t 126), none⟩,
  ⟨some 7, .mov (.t 127), none⟩]
def c_square_Initial_r34 (F : String → Nat) : List LI := [⟨some 129, .load true 2 (.t 4), none⟩,
  ⟨some 130, .load true 2 (.t 10), none⟩,
  ⟨some 131, .call (F "subgraph.Extract") [.t 129, .t 130] [], none⟩,
  ⟨some 128, .mov (.t 131), none⟩,
  ⟨some 132, .ext (.t 128) 0, none⟩,
  ⟨some 133, .ext (.t 128) 1, none⟩,
  ⟨some 134, .ext (.t 128) 2, none⟩,
  ⟨some 21, .alloc [.nl 1, .nl 3], none⟩,
  ⟨some 22, .alloc [.nl 1, .nl 1], none⟩,
  ⟨none, .store 2 (.t 21) (.t 132), none⟩,
  ⟨none, .store 2 (.t 22) (.t 133), none⟩,
  ⟨some 20, .mov (.t 134), none⟩]
def c_square_Initial_r35 (F : String → Nat) : List LI := [⟨some 135, .mov (.t 20), none⟩,
  ⟨some 136, .bin .neq (.t 135) (.k (.int .i64 (0))), none⟩]
def c_square_Initial_r36 (F : String → Nat) : List LI := [⟨some 137, .build [.nl 1, .nl 3, .nl 1, .nl 3, .nl 1, .nl 3, .nl 1, .nl 3, .nl 1, .nl 1, .nl 1, .nl 1, .nl 1, .nl 1, .nl 1, .nl 1] [], none⟩,
  ⟨some 138, .mov (.t 20), none⟩,
  ⟨none, .store 16 (.t 6) (.t 137), none⟩,
  ⟨some 7, .mov (.t 138), none⟩]
def c_square_Initial_r37 (F : String → Nat) : List LI := [⟨some 23, .alloc [.nl 1, .nl 1], none⟩]
def c_square_Initial_r38 (F : String → Nat) : List LI := [⟨some 139, .fad 0 (.t 9), none⟩,
  ⟨some 140, .load false 1 (.t 139), none⟩,
  ⟨some 141, .len (.t 140), none⟩,
  ⟨some 142, .mov (.k (.int .i64 (0))), none⟩]
def c_square_Initial_r39 (F : String → Nat) : List LI := [⟨some 143, .bin .lss (.t 142) (.t 141), none⟩]
def c_square_Initial_r40 (F : String → Nat) : List LI := [⟨some 144, .iad 1 (.t 140) (.t 142), none⟩,
  ⟨some 145, .load false 1 (.t 144), none⟩,
  ⟨some 25, .mov (.t 145), none⟩]
def c_square_Initial_r41 (F : String → Nat) : List LI := [⟨some 146, .fad 0 (.t 23), none⟩,
  ⟨some 147, .load false 1 (.t 146), none⟩,
  ⟨some 148, .fad 0 (.t 10), none⟩,
  ⟨some 149, .load false 1 (.t 148), none⟩,
  ⟨some 150, .fad 0 (.t 5), none⟩,
  ⟨some 151, .load false 1 (.t 150), none⟩,
  ⟨some 152, .mov (.t 25), none⟩,
  ⟨some 153, .iad 1 (.t 151) (.t 152), none⟩,
  ⟨some 154, .load false 1 (.t 153), none⟩,
  ⟨some 155, .call (F "slices.Index.I") [.t 149, .t 154] [], none⟩,
  ⟨some 156, .buildSl 1 8 (.int .i64 (0)) 1 [(0, .t 155)], none⟩,
  ⟨some 157, .app 1 8 (.t 147) (.t 156), none⟩,
  ⟨some 158, .fad 0 (.t 23), none⟩,
  ⟨none, .store 1 (.t 158) (.t 157), none⟩]
def c_square_Initial_r42 (F : String → Nat) : List LI := [⟨some 159, .bin .add (.t 142) (.k (.int .i64 (1))), none⟩,
  ⟨some 142, .mov (.t 159), none⟩]
def c_square_Initial_b43 (F : String → Nat) : LC := (.seq (.reg (c_square_Initial_r39 F) [3, 4, 5, 6, 10, 18, 19, 21, 22, 23, 140, 141, 142, 143]) (.seq (.cond (.t 143) .skip (.exit 6)) (.seq (.block 7 (.seq (.reg (c_square_Initial_r40 F) [3, 4, 5, 6, 10, 18, 19, 21, 22, 23, 25, 140, 141, 142]) (.dreg [(1, none, [], true), (9, none, [1], false), (10, none, [1], false)] (c_square_Initial_r41 F) [3, 4, 5, 6, 10, 18, 19, 21, 22, 23, 140, 141, 142]))) (.reg (c_square_Initial_r42 F) [3, 4, 5, 6, 10, 18, 19, 21, 22, 23, 140, 141, 142]))))
def c_square_Initial_r44 (F : String → Nat) : List LI := [⟨some 160, .load true 2 (.t 18), none⟩,
  ⟨some 161, .load true 2 (.t 3), none⟩,
  ⟨some 162, .call (F "square.copied") [.t 161] [], none⟩,
  ⟨some 163, .load true 2 (.t 21), none⟩,
  ⟨some 164, .load true 2 (.t 4), none⟩,
  ⟨some 165, .call (F "square.copied") [.t 164] [], none⟩,
  ⟨some 166, .load true 2 (.t 19), none⟩,
  ⟨some 167, .load true 2 (.t 23), none⟩,
  ⟨some 168, .load true 2 (.t 5), none⟩,
  ⟨some 169, .call (F "square.arrow") [.t 168] [], none⟩,
  ⟨some 170, .load true 2 (.t 22), none⟩,
  ⟨some 171, .build [.nl 1, .nl 3, .nl 1, .nl 3, .nl 1, .nl 3, .nl 1, .nl 3, .nl 1, .nl 1, .nl 1, .nl 1, .nl 1, .nl 1, .nl 1, .nl 1] [(0, 2, .t 160), (2, 2, .t 162), (4, 2, .t 163), (6, 2, .t 165), (8, 2, .t 166), (10, 2, .t 167), (12, 2, .t 169), (14, 2, .t 170)], none⟩,
  ⟨none, .store 16 (.t 6) (.t 171), none⟩,
  ⟨some 7, .mov (.k (.int .i64 (0))), none⟩]
def c_square_Initial (F : String → Nat) : LC := (.seq (.reg (c_square_Initial_r0 F) [3, 4, 5, 6]) (.seq (.seq (.reg (c_square_Initial_r1 F) [3, 4, 5, 6, 8]) (.seq (.reg (c_square_Initial_r2 F) [3, 4, 5, 6, 8, 31]) (.cond (.t 31) (.seq (.reg (c_square_Initial_r3 F) [6, 7]) .ret) .skip))) (.seq (.seq (.reg (c_square_Initial_r4 F) [3, 4, 5, 6, 38]) (.cond (.t 38) (.seq (.reg (c_square_Initial_r5 F) [6, 7]) .ret) .skip)) (.seq (.reg (c_square_Initial_r6 F) [3, 4, 5, 6, 9, 10]) (.seq (.seq (.reg (c_square_Initial_r7 F) [3, 4, 5, 6, 9, 10, 41, 42, 43]) (.block 0 (.loop [3, 4, 5, 6, 9, 10, 41, 42, 43] (c_square_Initial_b21 F)))) (.seq (.reg (c_square_Initial_r22 F) [3, 4, 5, 6, 9, 10]) (.seq (.seq (.reg (c_square_Initial_r23 F) [3, 4, 5, 6, 9, 10, 94, 95]) (.block 4 (.loop [3, 4, 5, 6, 9, 10, 94, 95] (c_square_Initial_b30 F)))) (.seq (.reg (c_square_Initial_r31 F) [3, 4, 5, 6, 9, 10, 18, 19, 20]) (.seq (.seq (.reg (c_square_Initial_r32 F) [3, 4, 5, 6, 9, 10, 18, 19, 20, 125]) (.cond (.t 125) (.seq (.reg (c_square_Initial_r33 F) [6, 7]) .ret) .skip)) (.seq (.reg (c_square_Initial_r34 F) [3, 4, 5, 6, 9, 10, 18, 19, 20, 21, 22]) (.seq (.seq (.reg (c_square_Initial_r35 F) [3, 4, 5, 6, 9, 10, 18, 19, 20, 21, 22, 136]) (.cond (.t 136) (.seq (.reg (c_square_Initial_r36 F) [6, 7]) .ret) .skip)) (.seq (.reg (c_square_Initial_r37 F) [3, 4, 5, 6, 9, 10, 18, 19, 21, 22, 23]) (.seq (.seq (.reg (c_square_Initial_r38 F) [3, 4, 5, 6, 10, 18, 19, 21, 22, 23, 140, 141, 142]) (.block 6 (.loop [3, 4, 5, 6, 10, 18, 19, 21, 22, 23, 140, 141, 142] (c_square_Initial_b43 F)))) (.seq (.dreg [(0, none, [], true), (2, none, [0], true), (3, (some 0), [2], true), (4, (some 0), [2], false), (5, none, [0, 3], true), (6, (some 0), [2, 5], true), (7, (some 0), [2, 5], true), (8, (some 0), [2, 5], false), (9, none, [0, 3, 6, 7], true), (10, (some 0), [2, 5, 9], false)] (c_square_Initial_r44 F) [6, 7]) .ret))))))))))))))
def h_square_Initial : Hints := ⟨[], fun _ => [], tab [(0, [3, 4, 5, 6]), (1, [3, 4, 5, 6, 8]), (2, [3, 4, 5, 6, 8, 31]), (3, [6, 7]), (4, [3, 4, 5, 6, 38]), (5, [6, 7]), (6, [3, 4, 5, 6, 9, 10]), (7, [3, 4, 5, 6, 9, 10, 41, 42, 43]), (8, [3, 4, 5, 6, 9, 10, 41, 42, 43, 44]), (9, [3, 4, 5, 6, 9, 10, 11, 12, 41, 42, 43]), (10, [3, 4, 5, 6, 9, 10, 11, 12, 41, 42, 43, 51]), (11, [3, 4, 5, 6, 9, 10, 12, 41, 42, 43]), (12, [3, 4, 5, 6, 9, 10, 41, 42, 43, 62, 63, 64]), (13, [3, 4, 5, 6, 9, 10, 41, 42, 43, 62, 63, 64, 65]), (14, [3, 4, 5, 6, 9, 10, 14, 41, 42, 43, 62, 63, 64]), (15, [3, 4, 5, 6, 9, 10, 15, 41, 42, 43, 62, 63, 64]), (16, [3, 4, 5, 6, 9, 10, 15, 41, 42, 43, 62, 63, 64, 80]), (17, [3, 4, 5, 6, 9, 10, 41, 42, 43, 62, 63, 64]), (18, [3, 4, 5, 6, 9, 10, 41, 42, 43, 62, 63, 64]), (19, [3, 4, 5, 6, 9, 10, 41, 42, 43]), (20, [3, 4, 5, 6, 9, 10]), (21, [3, 4, 5, 6, 9, 10, 94, 95]), (22, [3, 4, 5, 6, 9, 10, 94, 95, 96]), (23, [3, 4, 5, 6, 9, 10, 16, 94, 95]), (24, [3, 4, 5, 6, 9, 10, 16, 17, 94, 95]), (25, [3, 4, 5, 6, 9, 10, 16, 94, 95, 109]), (26, [3, 4, 5, 6, 9, 10, 94, 95]), (27, [3, 4, 5, 6, 9, 10, 94, 95]), (28, [3, 4, 5, 6, 9, 10, 18, 19, 20]), (29, [3, 4, 5, 6, 9, 10, 18, 19, 20, 125]), (30, [6, 7]), (31, [3, 4, 5, 6, 9, 10, 18, 19, 20, 21, 22]), (32, [3, 4, 5, 6, 9, 10, 18, 19, 20, 21, 22, 136]), (33, [6, 7]), (34, [3, 4, 5, 6, 9, 10, 18, 19, 21, 22, 23]), (35, [3, 4, 5, 6, 10, 18, 19, 21, 22, 23, 140, 141, 142]), (36, [3, 4, 5, 6, 10, 18, 19, 21, 22, 23, 140, 141, 142, 143]), (37, [3, 4, 5, 6, 10, 18, 19, 21, 22, 23, 25, 140, 141, 142]), (38, [3, 4, 5, 6, 10, 18, 19, 21, 22, 23, 140, 141, 142]), (39, [3, 4, 5, 6, 10, 18, 19, 21, 22, 23, 140, 141, 142]), (40, [6, 7])], tab [(8, [3, 4, 5, 6, 9, 10, 41, 42, 43]), (13, [3, 4, 5, 6, 9, 10, 41, 42, 43, 62, 63, 64]), (22, [3, 4, 5, 6, 9, 10, 94, 95]), (36, [3, 4, 5, 6, 10, 18, 19, 21, 22, 23, 140, 141, 142])]⟩

attribute [go_sem] c_square_Initial_r0 c_square_Initial_r1 c_square_Initial_r2 c_square_Initial_r3 c_square_Initial_r4 c_square_Initial_r5 c_square_Initial_r6 c_square_Initial_r7 c_square_Initial_r8 c_square_Initial_r9 c_square_Initial_r10 c_square_Initial_r11 c_square_Initial_r12 c_square_Initial_r13 c_square_Initial_r14 c_square_Initial_r15 c_square_Initial_r16 c_square_Initial_r17 c_square_Initial_r18 c_square_Initial_r20 c_square_Initial_r22 c_square_Initial_r23 c_square_Initial_r24 c_square_Initial_r25 c_square_Initial_r26 c_square_Initial_r27 c_square_Initial_r28 c_square_Initial_r29 c_square_Initial_r31 c_square_Initial_r32 c_square_Initial_r33 c_square_Initial_r34 c_square_Initial_r35 c_square_Initial_r36 c_square_Initial_r37 c_square_Initial_r38 c_square_Initial_r39 c_square_Initial_r40 c_square_Initial_r41 c_square_Initial_r42 c_square_Initial_r44 c_square_Initial
/-- The place of a number, added to a list of places. -/
def addB (im U : List Int) (x : Int) : List Int := if 0 ≤ idx (fun y => decide (x = y)) im 0 ∧ ¬ idx (fun y => decide (x = y)) im 0 ∈ U then U ++ [idx (fun y => decide (x = y)) im 0] else U
def bndU (b : G) (m : Mo) : Nat → List Int
  | 0 => []
  | i + 1 => if (i : Int) ∈ m.e then bndU b m i else addB m.n (addB m.n (bndU b m i) (gt b.e i).f) (gt b.e i).o
/-- The edges of b outside of the image; the nodes of a at their ends; what else of b there is. -/
def ctE (b : G) (m : Mo) : List Int := sel (fun i : Nat => !decide ((i : Int) ∈ m.e)) b.e.length
def bdN (a b : G) (m : Mo) : List Int := sel (fun k : Nat => decide (gt m.n k ∈ endsL b (ctE b m))) a.n.length
def ctN (a b : G) (m : Mo) : List Int := sel (fun i : Nat => !decide ((i : Int) ∈ m.n) || decide ((i : Int) ∈ thr (bdN a b m) m.n)) b.n.length
def bdP (a b : G) (m : Mo) : Mo := ⟨bdN a b m, []⟩
def ctP (a b : G) (m : Mo) : Mo := ⟨ctN a b m, ctE b m⟩
def giM (a b : G) (m : Mo) : Mo := ⟨(bdN a b m).map fun k => (cntB (ctN a b m) (gt m.n k) : Int), []⟩
def iniS (a b : G) (m : Mo) : Sq := ⟨ptG a (bdP a b m), a, ptG b (ctP a b m), b, bdP a b m, giM a b m, m, ctP a b m⟩
def iniE (a b : G) (m : Mo) : Int := if validM a b m ≠ 0 then validM a b m else if injM a b m = true then 0 else 15
def iniR (a b : G) (m : Mo) : Sq × Int := if iniE a b m = 0 then (iniS a b m, 0) else (sq0, iniE a b m)
section
variable (P : Program) (F : String → Nat)
def K_square_Initial : Prop := ∀ (a b : G) (m : Mo), FC P (F "square.Initial") [gD a, gD b, mD m] (.tup [sqA (iniR a b m).1, .int .i64 (iniR a b m).2]) []
end
section
variable {P : Program} {F : String → Nat} {α : Type}
/-- The place of a number in a list without repetition. -/
theorem idx_neg {l : List Int} {x : Int} : idx (fun y => decide (x = y)) l 0 < 0 ↔ ¬ x ∈ l := by
  have := idx_ge (fun y => decide (x = y)) l 0 (by omega)
  have h2 : (l.any fun y => decide (x = y)) = decide (x ∈ l) := by
    rw [Bool.eq_iff_iff]; simp
  rw [h2, decide_eq_decide] at this
  rw [← this]
  omega
theorem idx_nd {l : List Int} (hn : l.Nodup) {k : Nat} (hk : k < l.length) : idx (fun y => decide (gt l k = y)) l 0 = k := by
  have hm : gt l k ∈ l := gt_mem (by omega) (by omega)
  have h0 : ¬ idx (fun y => decide (gt l k = y)) l 0 < 0 := fun h => idx_neg.1 h hm
  have hs := idx_some (fun y => decide (gt l k = y)) l 0 (by omega)
  obtain ⟨j, e, hj, he, _⟩ := hs
  rw [Int.zero_add] at e
  rw [e]
  have he : gt l k = gt l j := of_decide_eq_true he
  exact congrArg _ (gt_inj hn hj hk he.symm)
theorem addB_mem {im U : List Int} (hn : im.Nodup) {x y : Int} : y ∈ addB im U x ↔ y ∈ U ∨ ∃ k : Nat, k < im.length ∧ gt im k = x ∧ y = k := by
  unfold addB
  by_cases hx : x ∈ im
  · obtain ⟨k, hk, rfl⟩ := mem_gt hx
    rw [idx_nd hn hk]
    have key : (∃ k' : Nat, k' < im.length ∧ gt im k' = gt im k ∧ y = k') ↔ y = k := by
      constructor
      · rintro ⟨k', h1, h2, rfl⟩; exact congrArg _ (gt_inj hn h1 hk h2)
      · rintro rfl; exact ⟨k, hk, rfl, rfl⟩
    rw [key]
    split
    · simp
    · rename_i h
      have : (k : Int) ∈ U := Decidable.byContradiction fun h2 => h ⟨by omega, h2⟩
      constructor
      · exact .inl
      · rintro (h | rfl)
        · exact h
        · exact this
  · have := idx_neg.2 hx
    rw [if_neg (by omega)]
    constructor
    · exact .inl
    · rintro (h | ⟨k, h1, rfl, _⟩)
      · exact h
      · exact absurd (gt_mem (by omega) (by omega)) hx
theorem addB_nodup {im U : List Int} {x : Int} (h : U.Nodup) : (addB im U x).Nodup := by
  unfold addB
  split
  · rename_i hc
    rw [List.nodup_append]
    exact ⟨h, by simp, fun a ha b hb e => by simp at hb; subst hb; subst e; exact hc.2 ha⟩
  · exact h
theorem addB_len (im U : List Int) (x : Int) : (addB im U x).length ≤ U.length + 1 := by
  unfold addB; split <;> simp
theorem bndU_mem {b : G} {m : Mo} (hn : m.n.Nodup) {y : Int} : ∀ {n : Nat}, y ∈ bndU b m n ↔ ∃ i : Nat, i < n ∧ ¬ (i : Int) ∈ m.e ∧ ∃ k : Nat, k < m.n.length ∧ (gt m.n k = (gt b.e i).f ∨ gt m.n k = (gt b.e i).o) ∧ y = k
  | 0 => by simp [bndU]
  | n + 1 => by
    rw [bndU]
    have ih := bndU_mem (b := b) hn (y := y) (n := n)
    split
    · rename_i h
      rw [ih]
      constructor
      · rintro ⟨i, h1, h2⟩; exact ⟨i, by omega, h2⟩
      · rintro ⟨i, h1, h2, h3⟩
        by_cases e : i = n
        · subst e; exact absurd h h2
        · exact ⟨i, by omega, h2, h3⟩
    · rename_i h
      rw [addB_mem hn, addB_mem hn, ih]
      constructor
      · rintro ((⟨i, h1, h2⟩ | ⟨k, h1, h2, h3⟩) | ⟨k, h1, h2, h3⟩)
        · exact ⟨i, by omega, h2⟩
        · exact ⟨n, by omega, h, k, h1, .inl h2, h3⟩
        · exact ⟨n, by omega, h, k, h1, .inr h2, h3⟩
      · rintro ⟨i, h1, h2, k, h3, h4, h5⟩
        by_cases e : i = n
        · subst e
          rcases h4 with h4 | h4
          · exact .inl (.inr ⟨k, h3, h4, h5⟩)
          · exact .inr ⟨k, h3, h4, h5⟩
        · exact .inl (.inl ⟨i, by omega, h2, k, h3, h4, h5⟩)
theorem bndU_nodup {b : G} {m : Mo} : ∀ n, (bndU b m n).Nodup
  | 0 => by simp [bndU]
  | n + 1 => by
    rw [bndU]
    split
    · exact bndU_nodup n
    · exact addB_nodup (addB_nodup (bndU_nodup n))
theorem bndU_len {b : G} {m : Mo} : ∀ n, (bndU b m n).length ≤ 2 * n
  | 0 => by simp [bndU]
  | n + 1 => by
    have := bndU_len (b := b) (m := m) n
    rw [bndU]
    split
    · omega
    · have h1 := addB_len m.n (bndU b m n) (gt b.e n).f
      have h2 := addB_len m.n (addB m.n (bndU b m n) (gt b.e n).f) (gt b.e n).o
      omega
theorem ctE_mem {b : G} {m : Mo} {i : Nat} : (i : Int) ∈ ctE b m ↔ i < b.e.length ∧ ¬ (i : Int) ∈ m.e := by
  unfold ctE; rw [sel_memN]; simp
theorem ctE_ends {b : G} {m : Mo} {x : Int} : x ∈ endsL b (ctE b m) ↔ ∃ i : Nat, i < b.e.length ∧ ¬ (i : Int) ∈ m.e ∧ ((gt b.e i).f = x ∨ (gt b.e i).o = x) := by
  rw [ends_mem]
  constructor
  · rintro ⟨e, he, hx⟩
    obtain ⟨i, _, _, rfl⟩ := sel_mem.1 (show e ∈ sel _ _ from he)
    obtain ⟨h1, h2⟩ := ctE_mem.1 he
    exact ⟨i, h1, h2, hx⟩
  · rintro ⟨i, h1, h2, hx⟩
    exact ⟨i, ctE_mem.2 ⟨h1, h2⟩, hx⟩
theorem bdN_mem {a b : G} {m : Mo} {k : Nat} : (k : Int) ∈ bdN a b m ↔ k < a.n.length ∧ gt m.n k ∈ endsL b (ctE b m) := by
  unfold bdN; rw [sel_memN]; simp
/-- The boundary, sorted. -/
theorem srt_bnd {a b : G} {m : Mo} (hm : MOk a b m) (hn : m.n.Nodup) : srt (bndU b m b.e.length) = bdN a b m := by
  have hs : (srt (bndU b m b.e.length)).Pairwise (· < ·) := by
    have h1 := srt_sorted (bndU b m b.e.length)
    have h2 : (srt (bndU b m b.e.length)).Nodup := by
      have := List.mergeSort_perm (bndU b m b.e.length) (fun x y => decide (x ≤ y))
      exact this.nodup_iff.2 (bndU_nodup _)
    rw [List.pairwise_iff_getElem] at h1 ⊢
    rw [List.nodup_iff_pairwise_ne, List.pairwise_iff_getElem] at h2
    intro i j hi hj hij
    have := h1 i j hi hj hij
    have := h2 i j hi hj hij
    omega
  refine asc_ext hs (sel_pair _ _) fun x => ?_
  have hmem : x ∈ srt (bndU b m b.e.length) ↔ x ∈ bndU b m b.e.length := (List.mergeSort_perm (bndU b m b.e.length) (fun x y => decide (x ≤ y))).mem_iff
  rw [hmem, bndU_mem hn]
  constructor
  · rintro ⟨i, h1, h2, k, h3, h4, rfl⟩
    exact bdN_mem.2 ⟨by rw [← hm.ln]; exact h3, ctE_ends.2 ⟨i, h1, h2, h4.imp Eq.symm Eq.symm⟩⟩
  · intro hx
    obtain ⟨k, _, _, rfl⟩ := sel_mem.1 (show x ∈ sel _ _ from hx)
    obtain ⟨h1, h2⟩ := bdN_mem.1 hx
    obtain ⟨i, h3, h4, h5⟩ := ctE_ends.1 h2
    exact ⟨i, h3, h4, k, by rw [hm.ln]; exact h1, h5.imp Eq.symm Eq.symm, rfl⟩
theorem ctN_mem {a b : G} {m : Mo} {i : Nat} : (i : Int) ∈ ctN a b m ↔ i < b.n.length ∧ (¬ (i : Int) ∈ m.n ∨ (i : Int) ∈ thr (bdN a b m) m.n) := by
  unfold ctN; rw [sel_memN]; simp
theorem thr_memN {p im : List Int} {x : Int} : x ∈ thr p im ↔ ∃ k ∈ p, gt im k = x := List.mem_map
/-- Both are parts. -/
theorem bdP_ok {a b : G} {m : Mo} (hm : MOk a b m) : PK a (bdP a b m) := ⟨hm.va, sel_asc _ _, ⟨by simp [bdP], by simp [bdP]⟩, by simp [bdP]⟩
theorem ctP_ok {a b : G} {m : Mo} (hm : MOk a b m) : PK b (ctP a b m) := by
  refine ⟨hm.vb, sel_asc _ _, sel_asc _ _, fun x hx => ?_⟩
  have hx' : x ∈ ctE b m := hx
  obtain ⟨i, _, _, rfl⟩ := sel_mem.1 (show x ∈ sel _ _ from hx')
  obtain ⟨h1, h2⟩ := ctE_mem.1 hx'
  have hf := edge_fits hm.vb (i := (i : Int)) (by omega)
  have key : ∀ y : Int, 0 ≤ y ∧ y < b.n.length → ((gt b.e i).f = y ∨ (gt b.e i).o = y) → y ∈ ctN a b m := fun y hy he => by
    obtain ⟨j, hj, rfl⟩ := gtI hy
    refine ctN_mem.2 ⟨hj, ?_⟩
    by_cases hm2 : (j : Int) ∈ m.n
    · obtain ⟨k, hk, e⟩ := mem_gt hm2
      refine .inr (thr_memN.2 ⟨k, bdN_mem.2 ⟨by rw [← hm.ln]; exact hk, ?_⟩, e⟩)
      rw [e]
      exact ctE_ends.2 ⟨i, h1, h2, he⟩
    · exact .inl hm2
  exact ⟨key _ hf.2.1 (.inl rfl), key _ hf.2.2 (.inr rfl)⟩
set_option maxHeartbeats 4000000 in
theorem w_square_Initial (hv : K_morphism_Valid P F) (hj : K_morphism_Injective P F) (hc : K_slices_Contains_I P F) (hx : K_slices_Index_I P F) (hs : K_slices_Sort_I P F) (he : K_subgraph_Extract P F) (hcp : K_square_copied P F) (har : K_square_arrow P F) (a b : G) (m : Mo) : W P (c_square_Initial F) (Done [.c 6 true 16, .t 7] [] (.tup [sqA (iniR a b m).1, .int .i64 (iniR a b m).2]) []) (init [gD a, gD b, mD m]) := by
  refine W_of ?_
  have r1 := hv a b m
  have r2 := hj a b m
  have hR : iniR a b m = if iniE a b m = 0 then (iniS a b m, 0) else (sq0, iniE a b m) := rfl
  have hE : iniE a b m = if validM a b m ≠ 0 then validM a b m else if injM a b m = true then 0 else 15 := rfl
  by_cases c0 : validM a b m = 0
  case neg =>
    rw [if_pos c0] at hE
    rw [hE, if_neg c0] at hR
    rw [hR]
    clear hR hE
    generalize validM a b m = v at *
    simp only [gD, mD] at *
    simp (config := { maxSteps := 1000000 }) (disch := first | omega | (simp only [go_sem]; omega)) only [go_sem, ↓reduceIte]
    refine call_by r1 ?_
    simp (config := { maxSteps := 1000000 }) (disch := first | omega | (simp only [go_sem]; omega)) only [go_sem, ↓reduceIte]
    refine bran_ndec (fun c => ?_) (fun c => absurd c c0)
    simp (config := { maxSteps := 1000000 }) (disch := first | omega | (simp only [go_sem]; omega)) only [go_sem, ↓reduceIte]
    simp [sqA, sq0, g0, m0, ints, eds]
  rw [if_neg (by simp [c0])] at hE
  rw [c0] at r1
  by_cases c1 : injM a b m = true
  case neg =>
    rw [if_neg c1] at hE
    rw [hE] at hR
    rw [hR]
    rw [Bool.not_eq_true] at c1
    rw [c1] at r2
    clear hR hE
    simp only [gD, mD] at *
    simp (config := { maxSteps := 1000000 }) (disch := first | omega | (simp only [go_sem]; omega)) only [go_sem, ↓reduceIte]
    refine call_by r1 ?_
    simp (config := { maxSteps := 1000000 }) (disch := first | omega | (simp only [go_sem]; omega)) only [go_sem, ↓reduceIte]
    refine call_by r2 ?_
    simp (config := { maxSteps := 1000000 }) (disch := first | omega | (simp only [go_sem]; omega)) only [go_sem, ↓reduceIte]
    simp [sqA, sq0, g0, m0, ints, eds]
  rw [if_pos c1] at hE
  rw [hE, if_pos rfl] at hR
  rw [hR]
  rw [c1] at r2
  have hm := mok.1 c0
  have hn : m.n.Nodup := ((injM_ok hm).1 c1).1
  have va := valid_spec hm.va
  have vb := valid_spec hm.vb
  have l1 := hm.ln
  have l2 := hm.le
  have hsb := srt_bnd hm hn
  have ul := bndU_len (b := b) (m := m)
  have us : ∀ i : Nat, bndU b m (i + 1) = if (i : Int) ∈ m.e then bndU b m i else addB m.n (addB m.n (bndU b m i) (gt b.e i).f) (gt b.e i).o := fun i => rfl
  have uz : bndU b m 0 = [] := rfl
  have rc := fun x : Int => hc m.e x (by unfold maxL; omega)
  have rx := fun x : Int => hx m.n x (by unfold maxL; omega)
  have rs := hs (bndU b m b.e.length) (by have := ul b.e.length; unfold maxL; omega)
  rw [hsb] at rs
  have es := sel_succ (fun i : Nat => !decide ((i : Int) ∈ m.e))
  have ez := sel_zero (fun i : Nat => !decide ((i : Int) ∈ m.e))
  have esl := sel_len (fun i : Nat => !decide ((i : Int) ∈ m.e))
  have hbl := srt_len (bndU b m b.e.length)
  rw [hsb] at hbl
  have hab := fun U x => addB_len m.n U x
  generalize hE' : sel (fun i : Nat => !decide ((i : Int) ∈ m.e)) = E at *
  have hCe : ctE b m = E b.e.length := by rw [← hE']; rfl
  generalize bndU b m = U at *
  have hcU := fun (i : Nat) (x : Int) (hi : i ≤ b.e.length) => hc (U i) x (by have := ul i; unfold maxL; omega)
  obtain ⟨an, ae⟩ := a
  obtain ⟨bn, be⟩ := b
  obtain ⟨mn, me⟩ := m
  simp only [gD, mD] at *
  simp (config := { maxSteps := 1000000 }) (disch := first | omega | (simp only [go_sem]; omega)) only [go_sem, ↓reduceIte]
  refine call_by r1 ?_
  simp (config := { maxSteps := 1000000 }) (disch := first | omega | (simp only [go_sem]; omega)) only [go_sem, ↓reduceIte]
  refine call_by r2 ?_
  simp (config := { maxSteps := 1000000 }) (disch := first | omega | (simp only [go_sem]; omega)) only [go_sem, ↓reduceIte]
  refine W_loop (fun i : Nat => ⟨[(3, .pt 0 0), (4, .pt 1 0), (5, .pt 2 0), (6, .pt 19 0), (9, .pt 22 0), (10, .pt 25 0), (41, .lst 3 (eds be)), (42, .int .i64 be.length), (43, .int .i64 i)], [(0, .box [.lst 1 (ints an), .lst 3 (eds ae)]), (1, .box [.lst 1 (ints bn), .lst 3 (eds be)]), (2, .box [.lst 1 (ints mn), .lst 1 (ints me)]), (3, .arr 1 []), (4, .arr 3 []), (5, .arr 1 []), (6, .arr 3 []), (7, .arr 1 []), (8, .arr 3 []), (9, .arr 1 []), (10, .arr 3 []), (11, .arr 1 []), (12, .arr 1 []), (13, .arr 1 []), (14, .arr 1 []), (15, .arr 1 []), (16, .arr 1 []), (17, .arr 1 []), (18, .arr 1 []), (19, .box [.sl 3 0 0, .sl 4 0 0, .sl 5 0 0, .sl 6 0 0, .sl 7 0 0, .sl 8 0 0, .sl 9 0 0, .sl 10 0 0, .sl 11 0 0, .sl 12 0 0, .sl 13 0 0, .sl 14 0 0, .sl 15 0 0, .sl 16 0 0, .sl 17 0 0, .sl 18 0 0]), (20, .arr 1 (ints (U i))), (21, .arr 1 []), (22, .box [.sl 20 0 (U i).length, .sl 21 0 0]), (23, .arr 1 (ints [])), (24, .arr 1 (ints (E i))), (25, .box [.sl 23 0 0, .sl 24 0 (E i).length])], 26⟩) (fun i => i ≤ be.length) (fun i => be.length - i) 0 ?_ ?_ ?_
  · simp (config := { maxSteps := 1000000 }) (disch := first | omega | (simp only [go_sem]; omega)) only [go_sem, ↓reduceIte, uz, ez]
    rfl
  · simp
  · intro i hi
    have ui := ul i
    have eil := esl i
    by_cases e : i < be.length
    · have d1 : decide ((i : Int) < be.length) = true := decide_eq_true (by omega)
      have r3 := rc i
      have st := us i
      have se := es i
      by_cases c2 : (i : Int) ∈ me
      · rw [decide_eq_true c2] at r3 se
        rw [if_pos c2] at st
        rw [if_neg (by simp)] at se
        simp (config := { maxSteps := 1000000 }) (disch := first | omega | (simp only [go_sem]; omega)) only [go_sem, ↓reduceIte, c_square_Initial_b21, d1]
        refine call_by r3 ?_
        simp (config := { maxSteps := 1000000 }) (disch := first | omega | (simp only [go_sem]; omega)) only [go_sem, ↓reduceIte]
        exact ⟨i + 1, by simp [st, se], by omega, by omega⟩
      · rw [decide_eq_false c2] at r3 se
        rw [if_neg c2] at st
        rw [if_pos (by simp)] at se
        simp (config := { maxSteps := 1000000 }) (disch := first | omega | (simp only [go_sem]; omega)) only [go_sem, ↓reduceIte, c_square_Initial_b21, d1]
        refine call_by r3 ?_
        simp (config := { maxSteps := 1000000 }) (disch := first | omega | (simp only [go_sem]; omega)) only [go_sem, ↓reduceIte]
        obtain ⟨fo, hfo, lfo⟩ : ∃ fo : List Int, fo = [(gt be i).f, (gt be i).o] ∧ fo.length = 2 := ⟨_, rfl, rfl⟩
        obtain ⟨V, v0, v1, v2, v3⟩ : ∃ V : Nat → List Int, V 0 = U i ∧ (∀ j : Nat, j < 2 → V (j + 1) = addB mn (V j) (gt fo j)) ∧ V 2 = U (i + 1) ∧ ∀ j : Nat, j ≤ 2 → (V j).length ≤ 1000 := by
          have h1 := hab (U i) (gt be i).f
          have h2 := hab (addB mn (U i) (gt be i).f) (gt be i).o
          refine ⟨fun j => if j = 0 then U i else if j = 1 then addB mn (U i) (gt be i).f else addB mn (addB mn (U i) (gt be i).f) (gt be i).o, rfl, fun j hj => ?_, by simp [st], fun j hj => ?_⟩
          · subst hfo
            by_cases e0 : j = 0
            · subst e0; rfl
            · have : j = 1 := by omega
              subst this; rfl
          · simp only
            split
            · omega
            · split <;> omega
        refine W_loop (fun j : Nat => ⟨[(3, .pt 0 0), (4, .pt 1 0), (5, .pt 2 0), (6, .pt 19 0), (9, .pt 22 0), (10, .pt 25 0), (41, .lst 3 (eds be)), (42, .int .i64 be.length), (43, .int .i64 i), (62, .sl 26 0 2), (63, .int .i64 2), (64, .int .i64 j)], [(0, .box [.lst 1 (ints an), .lst 3 (eds ae)]), (1, .box [.lst 1 (ints bn), .lst 3 (eds be)]), (2, .box [.lst 1 (ints mn), .lst 1 (ints me)]), (3, .arr 1 []), (4, .arr 3 []), (5, .arr 1 []), (6, .arr 3 []), (7, .arr 1 []), (8, .arr 3 []), (9, .arr 1 []), (10, .arr 3 []), (11, .arr 1 []), (12, .arr 1 []), (13, .arr 1 []), (14, .arr 1 []), (15, .arr 1 []), (16, .arr 1 []), (17, .arr 1 []), (18, .arr 1 []), (19, .box [.sl 3 0 0, .sl 4 0 0, .sl 5 0 0, .sl 6 0 0, .sl 7 0 0, .sl 8 0 0, .sl 9 0 0, .sl 10 0 0, .sl 11 0 0, .sl 12 0 0, .sl 13 0 0, .sl 14 0 0, .sl 15 0 0, .sl 16 0 0, .sl 17 0 0, .sl 18 0 0]), (20, .arr 1 (ints (V j))), (21, .arr 1 []), (22, .box [.sl 20 0 (V j).length, .sl 21 0 0]), (23, .arr 1 (ints [])), (24, .arr 1 (ints (E (i + 1)))), (25, .box [.sl 23 0 0, .sl 24 0 (E (i + 1)).length]), (26, .arr 1 (ints fo))], 27⟩) (fun j => j ≤ 2) (fun j => 2 - j) 0 ?_ ?_ ?_
        · simp (config := { maxSteps := 1000000 }) (disch := first | omega | (simp only [go_sem]; omega)) only [go_sem, ↓reduceIte, se, v0, hfo]
          rfl
        · simp
        · intro j hj
          have l3 := v3 j hj
          by_cases f : j < 2
          · have d2 : decide ((j : Int) < 2) = true := decide_eq_true (by omega)
            have r4 := rx (gt fo j)
            have r5 := hc (V j) (idx (fun y => decide (gt fo j = y)) mn 0) (by unfold maxL; omega)
            have stj := v1 j f
            unfold addB at stj
            generalize idx (fun y => decide (gt fo j = y)) mn 0 = k at *
            by_cases n0 : k < 0
            · have d3 : decide (0 ≤ k) = false := decide_eq_false (by omega)
              rw [if_neg (by omega)] at stj
              simp (config := { maxSteps := 1000000 }) (disch := first | omega | (simp only [go_sem]; omega)) only [go_sem, ↓reduceIte, c_square_Initial_b19, d2, lfo]
              refine call_by r4 ?_
              simp (config := { maxSteps := 1000000 }) (disch := first | omega | (simp only [go_sem]; omega)) only [go_sem, ↓reduceIte, d3]
              exact ⟨j + 1, by simp [stj], by omega, by omega⟩
            · have d3 : decide (0 ≤ k) = true := decide_eq_true (by omega)
              by_cases n1 : k ∈ V j
              · rw [if_neg (fun h => h.2 n1)] at stj
                rw [decide_eq_true n1] at r5
                simp (config := { maxSteps := 1000000 }) (disch := first | omega | (simp only [go_sem]; omega)) only [go_sem, ↓reduceIte, c_square_Initial_b19, d2, lfo]
                refine call_by r4 ?_
                simp (config := { maxSteps := 1000000 }) (disch := first | omega | (simp only [go_sem]; omega)) only [go_sem, ↓reduceIte, d3]
                refine call_by r5 ?_
                simp (config := { maxSteps := 1000000 }) (disch := first | omega | (simp only [go_sem]; omega)) only [go_sem, ↓reduceIte]
                exact ⟨j + 1, by simp [stj], by omega, by omega⟩
              · rw [if_pos ⟨by omega, n1⟩] at stj
                rw [decide_eq_false n1] at r5
                simp (config := { maxSteps := 1000000 }) (disch := first | omega | (simp only [go_sem]; omega)) only [go_sem, ↓reduceIte, c_square_Initial_b19, d2, lfo]
                refine call_by r4 ?_
                simp (config := { maxSteps := 1000000 }) (disch := first | omega | (simp only [go_sem]; omega)) only [go_sem, ↓reduceIte, d3]
                refine call_by r5 ?_
                simp (config := { maxSteps := 1000000 }) (disch := first | omega | (simp only [go_sem]; omega)) only [go_sem, ↓reduceIte]
                exact ⟨j + 1, by simp [stj], by omega, by omega⟩
          · have d2 : decide ((j : Int) < 2) = false := decide_eq_false (by omega)
            obtain rfl : j = 2 := by omega
            simp (config := { maxSteps := 1000000 }) (disch := first | omega | (simp only [go_sem]; omega)) only [go_sem, ↓reduceIte, c_square_Initial_b19, d2]
            exact ⟨i + 1, by simp [v2], by omega, by omega⟩
    · have d1 : decide ((i : Int) < be.length) = false := decide_eq_false (by omega)
      obtain rfl : i = be.length := by omega
      simp (config := { maxSteps := 1000000 }) (disch := first | omega | (simp only [go_sem]; omega)) only [go_sem, ↓reduceIte, c_square_Initial_b21, d1]
      refine call_by rs ?_
      simp (config := { maxSteps := 1000000 }) (disch := first | omega | (simp only [go_sem]; omega)) only [go_sem, ↓reduceIte, ← hbl]
      have cs := sel_succ (fun i : Nat => !decide ((i : Int) ∈ mn) || decide ((i : Int) ∈ thr (bdN ⟨an, ae⟩ ⟨bn, be⟩ ⟨mn, me⟩) mn))
      have cz := sel_zero (fun i : Nat => !decide ((i : Int) ∈ mn) || decide ((i : Int) ∈ thr (bdN ⟨an, ae⟩ ⟨bn, be⟩ ⟨mn, me⟩) mn))
      have cl := sel_len (fun i : Nat => !decide ((i : Int) ∈ mn) || decide ((i : Int) ∈ thr (bdN ⟨an, ae⟩ ⟨bn, be⟩ ⟨mn, me⟩) mn))
      have hCN : ctN ⟨an, ae⟩ ⟨bn, be⟩ ⟨mn, me⟩ = sel (fun i : Nat => !decide ((i : Int) ∈ mn) || decide ((i : Int) ∈ thr (bdN ⟨an, ae⟩ ⟨bn, be⟩ ⟨mn, me⟩) mn)) bn.length := rfl
      have hk1 := bdP_ok hm
      have hk2 := ctP_ok hm
      have hI : iniS ⟨an, ae⟩ ⟨bn, be⟩ ⟨mn, me⟩ = ⟨ptG ⟨an, ae⟩ ⟨bdN ⟨an, ae⟩ ⟨bn, be⟩ ⟨mn, me⟩, []⟩, ⟨an, ae⟩, ptG ⟨bn, be⟩ ⟨ctN ⟨an, ae⟩ ⟨bn, be⟩ ⟨mn, me⟩, ctE ⟨bn, be⟩ ⟨mn, me⟩⟩, ⟨bn, be⟩, ⟨bdN ⟨an, ae⟩ ⟨bn, be⟩ ⟨mn, me⟩, []⟩, ⟨(bdN ⟨an, ae⟩ ⟨bn, be⟩ ⟨mn, me⟩).map fun k => (cntB (ctN ⟨an, ae⟩ ⟨bn, be⟩ ⟨mn, me⟩) (gt mn k) : Int), []⟩, ⟨mn, me⟩, ⟨ctN ⟨an, ae⟩ ⟨bn, be⟩ ⟨mn, me⟩, ctE ⟨bn, be⟩ ⟨mn, me⟩⟩⟩ := rfl
      have x1 := he ⟨an, ae⟩ ⟨bdN ⟨an, ae⟩ ⟨bn, be⟩ ⟨mn, me⟩, []⟩ hk1.sm
      have x2 := he ⟨bn, be⟩ ⟨ctN ⟨an, ae⟩ ⟨bn, be⟩ ⟨mn, me⟩, ctE ⟨bn, be⟩ ⟨mn, me⟩⟩ hk2.sm
      have y1 : exR ⟨an, ae⟩ ⟨bdN ⟨an, ae⟩ ⟨bn, be⟩ ⟨mn, me⟩, []⟩ = (ptG ⟨an, ae⟩ ⟨bdN ⟨an, ae⟩ ⟨bn, be⟩ ⟨mn, me⟩, []⟩, ⟨bdN ⟨an, ae⟩ ⟨bn, be⟩ ⟨mn, me⟩, []⟩, 0) := by unfold exR; rw [if_neg (fun h => h (validP_ok.2 hk1))]
      have y2 : exR ⟨bn, be⟩ ⟨ctN ⟨an, ae⟩ ⟨bn, be⟩ ⟨mn, me⟩, ctE ⟨bn, be⟩ ⟨mn, me⟩⟩ = (ptG ⟨bn, be⟩ ⟨ctN ⟨an, ae⟩ ⟨bn, be⟩ ⟨mn, me⟩, ctE ⟨bn, be⟩ ⟨mn, me⟩⟩, ⟨ctN ⟨an, ae⟩ ⟨bn, be⟩ ⟨mn, me⟩, ctE ⟨bn, be⟩ ⟨mn, me⟩⟩, 0) := by unfold exR; rw [if_neg (fun h => h (validP_ok.2 hk2))]
      rw [y1] at x1
      rw [y2] at x2
      have hbl2 := hk1.len.1
      have hbm : ∀ i : Nat, i < (bdN ⟨an, ae⟩ ⟨bn, be⟩ ⟨mn, me⟩).length → ∃ k : Nat, k < mn.length ∧ gt (bdN ⟨an, ae⟩ ⟨bn, be⟩ ⟨mn, me⟩) i = k ∧ gt mn k ∈ ctN ⟨an, ae⟩ ⟨bn, be⟩ ⟨mn, me⟩ := fun i hi => by
        have hmem := gt_mem (l := bdN ⟨an, ae⟩ ⟨bn, be⟩ ⟨mn, me⟩) (j := (i : Int)) (by omega) (by omega)
        obtain ⟨k, hk, _, e⟩ := sel_mem.1 (show _ ∈ sel _ _ from hmem)
        rw [e] at hmem ⊢
        have hk' : k < an.length := hk
        have hkb := (hm.nd k hk).1
        refine ⟨k, by omega, rfl, ?_⟩
        obtain ⟨j, hj, ej⟩ := gtI hkb
        simp only at ej
        rw [ej]
        exact ctN_mem.2 ⟨hj, .inr (thr_memN.2 ⟨k, hmem, ej⟩)⟩
      have hidx : ∀ i : Nat, i < bn.length → (idx (fun y => decide ((i : Int) = y)) mn 0 < 0 ∧ ¬ (i : Int) ∈ mn) ∨ (¬ idx (fun y => decide ((i : Int) = y)) mn 0 < 0 ∧ (i : Int) ∈ mn ∧ (idx (fun y => decide ((i : Int) = y)) mn 0 ∈ bdN ⟨an, ae⟩ ⟨bn, be⟩ ⟨mn, me⟩ ↔ (i : Int) ∈ thr (bdN ⟨an, ae⟩ ⟨bn, be⟩ ⟨mn, me⟩) mn)) := fun i hi => by
        by_cases h : (i : Int) ∈ mn
        · refine .inr ⟨fun h2 => idx_neg.1 h2 h, h, ?_⟩
          obtain ⟨k, hk, e⟩ := mem_gt h
          rw [← e, idx_nd hn hk, thr_memN]
          constructor
          · intro hb; exact ⟨k, hb, rfl⟩
          · rintro ⟨k', hk', e'⟩
            obtain ⟨j, hj, _, rfl⟩ := sel_mem.1 (show k' ∈ sel _ _ from hk')
            have hj' : j < an.length := hj
            have := gt_inj hn (i := j) (j := k) (by omega) hk e'
            subst this
            exact hk'
        · exact .inl ⟨idx_neg.2 h, h⟩
      rw [hI, hCe]
      rw [hCe] at x2
      rw [hCN] at hbm x2
      clear hk1 hk2 y1 y2 hI
      rw [hCN]
      clear hCN
      have hCa := sel_pair (fun i : Nat => !decide ((i : Int) ∈ mn) || decide ((i : Int) ∈ thr (bdN ⟨an, ae⟩ ⟨bn, be⟩ ⟨mn, me⟩) mn)) bn.length
      generalize sel (fun i : Nat => !decide ((i : Int) ∈ mn) || decide ((i : Int) ∈ thr (bdN ⟨an, ae⟩ ⟨bn, be⟩ ⟨mn, me⟩) mn)) = C at *
      generalize bdN ⟨an, ae⟩ ⟨bn, be⟩ ⟨mn, me⟩ = Bd at *
      refine W_loop (fun i : Nat => ⟨[(3, .pt 0 0), (4, .pt 1 0), (5, .pt 2 0), (6, .pt 19 0), (9, .pt 22 0), (10, .pt 25 0), (94, .int .i64 bn.length), (95, .int .i64 i)], [(0, .box [.lst 1 (ints an), .lst 3 (eds ae)]), (1, .box [.lst 1 (ints bn), .lst 3 (eds be)]), (2, .box [.lst 1 (ints mn), .lst 1 (ints me)]), (3, .arr 1 []), (4, .arr 3 []), (5, .arr 1 []), (6, .arr 3 []), (7, .arr 1 []), (8, .arr 3 []), (9, .arr 1 []), (10, .arr 3 []), (11, .arr 1 []), (12, .arr 1 []), (13, .arr 1 []), (14, .arr 1 []), (15, .arr 1 []), (16, .arr 1 []), (17, .arr 1 []), (18, .arr 1 []), (19, .box [.sl 3 0 0, .sl 4 0 0, .sl 5 0 0, .sl 6 0 0, .sl 7 0 0, .sl 8 0 0, .sl 9 0 0, .sl 10 0 0, .sl 11 0 0, .sl 12 0 0, .sl 13 0 0, .sl 14 0 0, .sl 15 0 0, .sl 16 0 0, .sl 17 0 0, .sl 18 0 0]), (20, .arr 1 (ints Bd)), (21, .arr 1 []), (22, .box [.sl 20 0 Bd.length, .sl 21 0 0]), (23, .arr 1 (ints (C i))), (24, .arr 1 (ints (E be.length))), (25, .box [.sl 23 0 (C i).length, .sl 24 0 (E be.length).length])], 26⟩) (fun i => i ≤ bn.length) (fun i => bn.length - i) 0 ?_ ?_ ?_
      · simp (config := { maxSteps := 1000000 }) (disch := first | omega | (simp only [go_sem]; omega)) only [go_sem, ↓reduceIte, cz]
        rfl
      · simp
      · intro i hi
        have cli := cl i
        by_cases e : i < bn.length
        · have d2 : decide ((i : Int) < bn.length) = true := decide_eq_true (by omega)
          have r4 := rx i
          have sti := cs i
          have r5 := hc Bd (idx (fun y => decide ((i : Int) = y)) mn 0) (by unfold maxL; omega)
          rcases hidx i e with ⟨q1, q2⟩ | ⟨q1, q2, q3⟩
          · generalize idx (fun y => decide ((i : Int) = y)) mn 0 = k at *
            have d3 : decide (k < 0) = true := decide_eq_true q1
            rw [if_pos (by simp [q2])] at sti
            simp (config := { maxSteps := 1000000 }) (disch := first | omega | (simp only [go_sem]; omega)) only [go_sem, ↓reduceIte, c_square_Initial_b30, d2]
            refine call_by r4 ?_
            simp (config := { maxSteps := 1000000 }) (disch := first | omega | (simp only [go_sem]; omega)) only [go_sem, ↓reduceIte, d3]
            exact ⟨i + 1, by simp [sti], by omega, by omega⟩
          · generalize idx (fun y => decide ((i : Int) = y)) mn 0 = k at *
            have d3 : decide (k < 0) = false := decide_eq_false q1
            by_cases q4 : k ∈ Bd
            · rw [decide_eq_true q4] at r5
              rw [if_pos (by simp [q3.1 q4])] at sti
              simp (config := { maxSteps := 1000000 }) (disch := first | omega | (simp only [go_sem]; omega)) only [go_sem, ↓reduceIte, c_square_Initial_b30, d2]
              refine call_by r4 ?_
              simp (config := { maxSteps := 1000000 }) (disch := first | omega | (simp only [go_sem]; omega)) only [go_sem, ↓reduceIte, d3]
              refine call_by r5 ?_
              simp (config := { maxSteps := 1000000 }) (disch := first | omega | (simp only [go_sem]; omega)) only [go_sem, ↓reduceIte]
              exact ⟨i + 1, by simp [sti], by omega, by omega⟩
            · rw [decide_eq_false q4] at r5
              rw [if_neg (by rw [decide_eq_true q2, decide_eq_false (fun h => q4 (q3.2 h))]; simp)] at sti
              simp (config := { maxSteps := 1000000 }) (disch := first | omega | (simp only [go_sem]; omega)) only [go_sem, ↓reduceIte, c_square_Initial_b30, d2]
              refine call_by r4 ?_
              simp (config := { maxSteps := 1000000 }) (disch := first | omega | (simp only [go_sem]; omega)) only [go_sem, ↓reduceIte, d3]
              refine call_by r5 ?_
              simp (config := { maxSteps := 1000000 }) (disch := first | omega | (simp only [go_sem]; omega)) only [go_sem, ↓reduceIte]
              exact ⟨i + 1, by simp [sti], by omega, by omega⟩
        · have d2 : decide ((i : Int) < bn.length) = false := decide_eq_false (by omega)
          obtain rfl : i = bn.length := by omega
          generalize ptG ⟨an, ae⟩ ⟨Bd, []⟩ = pa at *
          generalize ptG ⟨bn, be⟩ ⟨C bn.length, E be.length⟩ = pb at *
          obtain ⟨pan, pae⟩ := pa
          obtain ⟨pbn, pbe⟩ := pb
          simp only [gD, gA, mD, mA] at x1 x2
          change FC P _ [_, .agg [.lst 1 (ints Bd), .lst 1 []]] (.tup [_, .agg [.arr 1 (ints Bd), .arr 1 []], _]) _ at x1
          simp (config := { maxSteps := 1000000 }) (disch := first | omega | (simp only [go_sem]; omega)) only [go_sem, ↓reduceIte, c_square_Initial_b30, d2]
          refine call_by x1 ?_
          simp (config := { maxSteps := 1000000 }) (disch := first | omega | (simp only [go_sem]; omega)) only [go_sem, ↓reduceIte]
          refine call_by x2 ?_
          simp (config := { maxSteps := 1000000 }) (disch := first | omega | (simp only [go_sem]; omega)) only [go_sem, ↓reduceIte]
          have rI : ∀ i : Nat, i < Bd.length → (0 ≤ gt Bd i ∧ gt Bd i < mn.length) ∧ FC P (F "slices.Index.I") [.lst 1 (ints (C bn.length)), .int .i64 (gt mn (gt Bd i))] (.int .i64 (cntB (C bn.length) (gt mn (gt Bd i)))) [] := fun i hi => by
            obtain ⟨k, hk, e1, e2⟩ := hbm i hi
            rw [e1]
            refine ⟨by omega, ?_⟩
            rw [← idx_asc hCa e2]
            exact hx (C bn.length) (gt mn k) (by unfold maxL; omega)
          have rg1 := hcp ⟨an, ae⟩ (by simp only; omega) (by simp only; omega)
          have rg2 := hcp ⟨bn, be⟩ (by simp only; omega) (by simp only; omega)
          have rg3 := har ⟨mn, me⟩ (by simp only; omega) (by simp only; omega)
          have lE := esl be.length
          simp only [gD, gA, mD, mA] at rg1 rg2 rg3
          clear hbm hidx hcU rc rx r1 r2 rs x1 x2 hc hx hs he hcp har hv hj cs cz cl es ez esl ul us uz hab hR hE hsb
          generalize C bn.length = Cc at *
          generalize E be.length = Ec at *
          generalize hf : (fun k : Int => (cntB Cc (gt mn k) : Int)) = f at *
          have hff : ∀ k, (cntB Cc (gt mn k) : Int) = f k := fun k => by rw [← hf]
          refine W_loop (fun i : Nat => ⟨[(3, .pt 0 0), (4, .pt 1 0), (5, .pt 2 0), (6, .pt 19 0), (10, .pt 22 0), (18, .pt 25 0), (19, .pt 28 0), (21, .pt 31 0), (22, .pt 34 0), (23, .pt 37 0), (140, .sl 38 0 Bd.length), (141, .int .i64 Bd.length), (142, .int .i64 i)], [(0, .box [.lst 1 (ints an), .lst 3 (eds ae)]), (1, .box [.lst 1 (ints bn), .lst 3 (eds be)]), (2, .box [.lst 1 (ints mn), .lst 1 (ints me)]), (3, .arr 1 []), (4, .arr 3 []), (5, .arr 1 []), (6, .arr 3 []), (7, .arr 1 []), (8, .arr 3 []), (9, .arr 1 []), (10, .arr 3 []), (11, .arr 1 []), (12, .arr 1 []), (13, .arr 1 []), (14, .arr 1 []), (15, .arr 1 []), (16, .arr 1 []), (17, .arr 1 []), (18, .arr 1 []), (19, .box [.sl 3 0 0, .sl 4 0 0, .sl 5 0 0, .sl 6 0 0, .sl 7 0 0, .sl 8 0 0, .sl 9 0 0, .sl 10 0 0, .sl 11 0 0, .sl 12 0 0, .sl 13 0 0, .sl 14 0 0, .sl 15 0 0, .sl 16 0 0, .sl 17 0 0, .sl 18 0 0]), (20, .arr 1 (ints Cc)), (21, .arr 1 (ints Ec)), (22, .box [.sl 20 0 Cc.length, .sl 21 0 Ec.length]), (23, .arr 1 (ints pan)), (24, .arr 3 (eds pae)), (25, .box [.sl 23 0 pan.length, .sl 24 0 pae.length]), (26, .arr 1 (ints Bd)), (27, .arr 1 []), (28, .box [.sl 26 0 Bd.length, .sl 27 0 0]), (29, .arr 1 (ints pbn)), (30, .arr 3 (eds pbe)), (31, .box [.sl 29 0 pbn.length, .sl 30 0 pbe.length]), (32, .arr 1 (ints Cc)), (33, .arr 1 (ints Ec)), (34, .box [.sl 32 0 Cc.length, .sl 33 0 Ec.length]), (35, .arr 1 (ints ((Bd.take i).map f))), (36, .arr 1 []), (37, .box [.sl 35 0 i, .sl 36 0 0]), (38, .arr 1 (ints Bd))], 39⟩) (fun i => i ≤ Bd.length) (fun i => Bd.length - i) 0 ?_ ?_ ?_
          · simp (config := { maxSteps := 1000000 }) (disch := first | omega | (simp only [go_sem]; omega)) only [go_sem, ↓reduceIte]
            rfl
          · simp
          · intro i hi
            have ml : ((Bd.take i).map f).length = i := by simp; omega
            by_cases e : i < Bd.length
            · have d3 : decide ((i : Int) < Bd.length) = true := decide_eq_true (by omega)
              obtain ⟨⟨b1, b2⟩, r6⟩ := rI i e
              have st : (Bd.take (i + 1)).map f = (Bd.take i).map f ++ [(cntB Cc (gt mn (gt Bd i)) : Int)] := by rw [take_gt e, List.map_append, hff]; rfl
              simp (config := { maxSteps := 1000000 }) (disch := first | omega | (simp only [go_sem]; omega)) only [go_sem, ↓reduceIte, c_square_Initial_b43, d3, ml]
              refine call_by r6 ?_
              simp (config := { maxSteps := 1000000 }) (disch := first | omega | (simp only [go_sem]; omega)) only [go_sem, ↓reduceIte, ml]
              exact ⟨i + 1, by simp [st], by omega, by omega⟩
            · have d3 : decide ((i : Int) < Bd.length) = false := decide_eq_false (by omega)
              obtain rfl : i = Bd.length := by omega
              rw [List.take_length] at ml ⊢
              simp (config := { maxSteps := 1000000 }) (disch := first | omega | (simp only [go_sem]; omega)) only [go_sem, ↓reduceIte, c_square_Initial_b43, d3]
              refine call_by rg1 ?_
              simp (config := { maxSteps := 1000000 }) (disch := first | omega | (simp only [go_sem]; omega)) only [go_sem, ↓reduceIte]
              refine call_by rg2 ?_
              simp (config := { maxSteps := 1000000 }) (disch := first | omega | (simp only [go_sem]; omega)) only [go_sem, ↓reduceIte]
              refine call_by rg3 ?_
              simp (config := { maxSteps := 1000000 }) (disch := first | omega | (simp only [go_sem]; omega)) only [go_sem, ↓reduceIte, ml]
              rfl
end
end Go.Am
namespace Go.Am
open Go
set_option linter.unusedVariables false
set_option linter.unusedSimpArgs false
attribute [local irreducible] W
/- l14.awake -/
def c_l14_awake_r0 (F : String → Nat) : List LI := [⟨some 0, .mov (.k (.bool false)), none⟩]
def c_l14_awake_r1 (F : String → Nat) : List LI := [⟨some 7, .buildSl 1 8 (.int .i64 (0)) 2 [(0, .k (.int .i64 (0))), (1, .k (.int .i64 (0)))], none⟩,
  ⟨some 8, .build [.int .i64 (0), .int .i64 (0), .int .i64 (0)] [(1, 1, .k (.int .i64 (0))), (2, 1, .k (.int .i64 (1)))], none⟩,
  ⟨some 9, .buildSl 3 24 (.agg [.int .i64 (0), .int .i64 (0), .int .i64 (0)]) 1 [(0, .t 8)], none⟩,
  ⟨some 10, .build [.nl 1, .nl 3] [(0, 1, .t 7), (1, 1, .t 9)], none⟩,
  ⟨some 1, .alloc [.nl 1, .nl 3], none⟩,
  ⟨none, .store 2 (.t 1) (.t 10), none⟩]
def c_l14_awake_r2 (F : String → Nat) : List LI := [⟨some 11, .buildSl 1 8 (.int .i64 (0)) 1 [(0, .k (.int .i64 (0)))], none⟩,
  ⟨some 12, .build [.nl 1, .nl 3] [(0, 1, .t 11)], none⟩,
  ⟨some 2, .alloc [.nl 1, .nl 3], none⟩,
  ⟨none, .store 2 (.t 2) (.t 12), none⟩]
def c_l14_awake_r3 (F : String → Nat) : List LI := [⟨some 14, .load true 2 (.t 2), none⟩,
  ⟨some 15, .load true 2 (.t 1), none⟩,
  ⟨some 16, .buildSl 1 8 (.int .i64 (0)) 1 [(0, .k (.int .i64 (0)))], none⟩,
  ⟨some 17, .build [.nl 1, .nl 1] [(0, 1, .t 16)], none⟩,
  ⟨some 18, .call (F "square.Initial") [.t 14, .t 15, .t 17] [], none⟩,
  ⟨some 13, .mov (.t 18), none⟩,
  ⟨some 19, .ext (.t 13) 0, none⟩,
  ⟨some 20, .ext (.t 13) 1, none⟩,
  ⟨some 3, .alloc [.nl 1, .nl 3, .nl 1, .nl 3, .nl 1, .nl 3, .nl 1, .nl 3, .nl 1, .nl 1, .nl 1, .nl 1, .nl 1, .nl 1, .nl 1, .nl 1], none⟩,
  ⟨none, .store 16 (.t 3) (.t 19), none⟩,
  ⟨some 4, .mov (.t 20), none⟩]
def c_l14_awake_r4 (F : String → Nat) : List LI := [⟨some 22, .load true 16 (.t 3), none⟩,
  ⟨some 23, .call (F "square.Kind") [.t 22] [], none⟩,
  ⟨some 21, .mov (.t 23), none⟩,
  ⟨some 24, .ext (.t 21) 0, none⟩,
  ⟨some 25, .ext (.t 21) 1, none⟩,
  ⟨some 5, .mov (.t 24), none⟩,
  ⟨some 6, .mov (.t 25), none⟩]
def c_l14_awake_r5 (F : String → Nat) : List LI := [⟨some 26, .mov (.t 4), none⟩,
  ⟨some 27, .bin .eql (.t 26) (.k (.int .i64 (0))), none⟩,
  ⟨some 28, .mov (.t 27), none⟩,
  ⟨some 29, .mov (.t 6), some (28, true)⟩,
  ⟨some 30, .bin .eql (.t 29) (.k (.int .i64 (0))), some (28, true)⟩,
  ⟨some 31, .pick (.t 28) (.t 30) (.k (.bool false)), none⟩,
  ⟨some 32, .mov (.t 31), none⟩,
  ⟨some 33, .mov (.t 5), some (32, true)⟩,
  ⟨some 34, .bin .eql (.t 33) (.k (.int .i64 (3))), some (32, true)⟩,
  ⟨some 35, .pick (.t 32) (.t 34) (.k (.bool false)), none⟩,
  ⟨some 36, .mov (.t 35), none⟩,
  ⟨some 37, .fad 0 (.t 3), some (36, true)⟩,
  ⟨some 38, .load true 2 (.t 37), some (36, true)⟩,
  ⟨some 39, .load true 2 (.t 2), some (36, true)⟩,
  ⟨some 40, .call (F "r05.Same") [.t 38, .t 39] [], some (36, true)⟩,
  ⟨some 41, .pick (.t 36) (.t 40) (.k (.bool false)), none⟩,
  ⟨some 42, .mov (.t 41), none⟩,
  ⟨some 43, .fad 4 (.t 3), some (42, true)⟩,
  ⟨some 44, .load true 2 (.t 43), some (42, true)⟩,
  ⟨some 45, .load true 2 (.t 1), some (42, true)⟩,
  ⟨some 46, .call (F "r05.Same") [.t 44, .t 45] [], some (42, true)⟩,
  ⟨some 47, .pick (.t 42) (.t 46) (.k (.bool false)), none⟩,
  ⟨some 0, .mov (.t 47), none⟩]
def c_l14_awake (F : String → Nat) : LC := (.seq (.reg (c_l14_awake_r0 F) []) (.seq (.reg (c_l14_awake_r1 F) [1]) (.seq (.reg (c_l14_awake_r2 F) [1, 2]) (.seq (.reg (c_l14_awake_r3 F) [1, 2, 3, 4]) (.seq (.reg (c_l14_awake_r4 F) [1, 2, 3, 4, 5, 6]) (.seq (.reg (c_l14_awake_r5 F) [0]) .ret))))))
def h_l14_awake : Hints := ⟨[], fun _ => [], tab [(0, []), (1, [1]), (2, [1, 2]), (3, [1, 2, 3, 4]), (4, [1, 2, 3, 4, 5, 6]), (5, [0])], tab []⟩

attribute [go_sem] c_l14_awake_r0 c_l14_awake_r1 c_l14_awake_r2 c_l14_awake_r3 c_l14_awake_r4 c_l14_awake_r5 c_l14_awake
def exOne : G := ⟨[0], []⟩
def exPath : G := ⟨[0, 0], [⟨0, 0, 1⟩]⟩
section
variable (P : Program) (F : String → Nat)
def K_l14_awake : Prop := FC P (F "l14.awake") [] (.bool true) []
end
section
variable {P : Program} {F : String → Nat} {α : Type}
def exSq : Sq := ⟨⟨[0], []⟩, ⟨[0], []⟩, ⟨[0, 0], [⟨0, 0, 1⟩]⟩, ⟨[0, 0], [⟨0, 0, 1⟩]⟩, ⟨[0], []⟩, ⟨[0], []⟩, ⟨[0], []⟩, ⟨[0, 1], [0]⟩⟩
theorem ex_ini : iniR exOne exPath ⟨[0], []⟩ = (exSq, 0) := by decide +kernel
theorem ex_kind : kindR exSq = (3, 0) := by decide +kernel
set_option maxRecDepth 100000 in
theorem w_l14_awake (hi : K_square_Initial P F) (hk : K_square_Kind P F) (hg : K_r05_Same P F) : W P (c_l14_awake F) (Done [.t 0] [] (.bool true) []) (init []) := by
  refine W_of ?_
  have r1 := hi exOne exPath ⟨[0], []⟩
  rw [ex_ini] at r1
  have r2 := hk exSq
  rw [ex_kind] at r2
  have s1 := hg exOne exOne (by decide) (by decide)
  have s2 := hg exPath exPath (by decide) (by decide)
  simp only [exOne, exPath, exSq, gD, mD, sqD, sqA] at *
  simp (config := { maxSteps := 1000000 }) (disch := first | omega | (simp only [go_sem]; omega)) only [go_sem, ↓reduceIte]
  refine call_by r1 ?_
  simp (config := { maxSteps := 1000000 }) (disch := first | omega | (simp only [go_sem]; omega)) only [go_sem, ↓reduceIte, Int.cast_ofNat_Int, eq_self]
  refine call_by r2 ?_
  simp (config := { maxSteps := 1000000 }) (disch := first | omega | (simp only [go_sem]; omega)) only [go_sem, ↓reduceIte, Int.cast_ofNat_Int, eq_self]
  refine call_by s1 ?_
  simp (config := { maxSteps := 1000000 }) (disch := first | omega | (simp only [go_sem]; omega)) only [go_sem, ↓reduceIte]
  refine call_by s2 ?_
  simp (config := { maxSteps := 1000000 }) (disch := first | omega | (simp only [go_sem]; omega)) only [go_sem, ↓reduceIte]
end
end Go.Am
namespace Go.Am
open Go
set_option linter.unusedVariables false
set_option linter.unusedSimpArgs false
attribute [local irreducible] W
section
variable (P : Program) (F : String → Nat)
end
section
variable {P : Program} {F : String → Nat} {α : Type}
/-- What squares that are pasted are. -/
structure PsOk (s t : Sq) : Prop where
  qs : QOk s
  qt : QOk t
  a : t.a = s.b
  c : t.c = s.d
  g : t.g = s.h
theorem PsOk.ok {s t : Sq} (h : PsOk s t) : QOk (pasS s t) := by
  refine ⟨?_, h.qs.g, h.qt.h, ?_⟩
  · have := h.qt.f
    rw [h.a] at this
    exact then_okP h.qs.f this
  · have := h.qt.k
    rw [h.c] at this
    exact then_okP h.qs.k this
end
end Go.Am
