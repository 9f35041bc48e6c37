/- The graph package and its reference: Remove. -/
import Derived.Test.YtfkkngepnnkloaaSjC
import Derived.Test.YtfkkngepnnkloaaSkA
namespace Go.Am
open Go
set_option linter.unusedVariables false
set_option linter.unusedSimpArgs false
/- graph.Remove -/
def c_graph_Remove_r0 (F : String → Nat) : List LI := [⟨some 3, .bx (.t 0), none⟩,
  ⟨some 6, .alloc [.nl 1, .nl 3], none⟩,
  ⟨some 7, .alloc [.nl 1, .nl 1], none⟩,
  ⟨some 8, .mov (.k (.int .i64 (0))), none⟩]
def c_graph_Remove_r1 (F : String → Nat) : List LI := [⟨some 19, .load true 2 (.t 3), none⟩,
  ⟨some 20, .call (F "graph.Valid") [.t 19] [], none⟩,
  ⟨some 9, .mov (.t 20), none⟩]
def c_graph_Remove_r2 (F : String → Nat) : List LI := [⟨some 21, .mov (.t 9), none⟩,
  ⟨some 22, .bin .neq (.t 21) (.k (.int .i64 (0))), none⟩]
def c_graph_Remove_r3 (F : String → Nat) : List LI := [⟨some 23, .build [.nl 1, .nl 3] [], none⟩,
  ⟨some 24, .build [.nl 1, .nl 1] [], none⟩,
  ⟨some 25, .mov (.t 9), none⟩,
  ⟨none, .store 2 (.t 6) (.t 23), none⟩,
  ⟨none, .store 2 (.t 7) (.t 24), none⟩,
  ⟨some 8, .mov (.t 25), none⟩]
def c_graph_Remove_r4 (F : String → Nat) : List LI := [⟨some 26, .mov (.t 1), none⟩,
  ⟨some 27, .fad 0 (.t 3), none⟩,
  ⟨some 28, .load false 1 (.t 27), none⟩,
  ⟨some 29, .len (.t 28), none⟩,
  ⟨some 30, .call (F "graph.ascending") [.t 26, .t 29] [], none⟩,
  ⟨some 10, .mov (.t 30), none⟩]
def c_graph_Remove_r5 (F : String → Nat) : List LI := [⟨some 31, .mov (.t 10), none⟩,
  ⟨some 32, .bin .neq (.t 31) (.k (.int .i64 (0))), none⟩]
def c_graph_Remove_r6 (F : String → Nat) : List LI := [⟨some 33, .build [.nl 1, .nl 3] [], none⟩,
  ⟨some 34, .build [.nl 1, .nl 1] [], none⟩,
  ⟨some 35, .mov (.t 10), none⟩,
  ⟨none, .store 2 (.t 6) (.t 33), none⟩,
  ⟨none, .store 2 (.t 7) (.t 34), none⟩,
  ⟨some 8, .mov (.t 35), none⟩]
def c_graph_Remove_r7 (F : String → Nat) : List LI := [⟨some 36, .mov (.t 2), none⟩,
  ⟨some 37, .fad 1 (.t 3), none⟩,
  ⟨some 38, .load false 1 (.t 37), none⟩,
  ⟨some 39, .len (.t 38), none⟩,
  ⟨some 40, .call (F "graph.ascending") [.t 36, .t 39] [], none⟩,
  ⟨some 11, .mov (.t 40), none⟩]
def c_graph_Remove_r8 (F : String → Nat) : List LI := [⟨some 41, .mov (.t 11), none⟩,
  ⟨some 42, .bin .neq (.t 41) (.k (.int .i64 (0))), none⟩]
def c_graph_Remove_r9 (F : String → Nat) : List LI := [⟨some 43, .build [.nl 1, .nl 3] [], none⟩,
  ⟨some 44, .build [.nl 1, .nl 1] [], none⟩,
  ⟨some 45, .mov (.t 11), none⟩,
  ⟨none, .store 2 (.t 6) (.t 43), none⟩,
  ⟨none, .store 2 (.t 7) (.t 44), none⟩,
  ⟨some 8, .mov (.t 45), none⟩]
def c_graph_Remove_r10 (F : String → Nat) : List LI := [⟨some 46, .fad 0 (.t 3), none⟩,
  ⟨some 47, .load false 1 (.t 46), none⟩,
  ⟨some 48, .len (.t 47), none⟩,
  ⟨some 49, .mov (.t 1), none⟩,
  ⟨some 50, .call (F "graph.left") [.t 48, .t 49] [], none⟩,
  ⟨some 51, .fad 1 (.t 3), none⟩,
  ⟨some 52, .load false 1 (.t 51), none⟩,
  ⟨some 53, .len (.t 52), none⟩,
  ⟨some 54, .mov (.t 2), none⟩,
  ⟨some 55, .call (F "graph.left") [.t 53, .t 54] [], none⟩,
  ⟨some 56, .build [.nl 1, .nl 1] [(0, 1, .t 50), (1, 1, .t 55)], none⟩,
  ⟨some 12, .alloc [.nl 1, .nl 1], none⟩,
  ⟨none, .store 2 (.t 12) (.t 56), none⟩]
def c_graph_Remove_r11 (F : String → Nat) : List LI := [⟨some 13, .alloc [.nl 1, .nl 3], none⟩]
def c_graph_Remove_r12 (F : String → Nat) : List LI := [⟨some 57, .fad 0 (.t 3), none⟩,
  ⟨some 58, .load false 1 (.t 57), none⟩,
  ⟨some 59, .len (.t 58), none⟩,
  ⟨some 60, .mov (.k (.int .i64 (0))), none⟩]
def c_graph_Remove_r13 (F : String → Nat) : List LI := [⟨some 61, .bin .lss (.t 60) (.t 59), none⟩]
def c_graph_Remove_r14 (F : String → Nat) : List LI := [⟨some 62, .mov (.t 60), none⟩,
  ⟨some 63, .iad 1 (.t 58) (.t 60), none⟩,
  ⟨some 64, .load false 1 (.t 63), none⟩,
  ⟨some 14, .mov (.t 62), none⟩,
  ⟨some 15, .mov (.t 64), none⟩]
def c_graph_Remove_r15 (F : String → Nat) : List LI := [⟨some 65, .fad 0 (.t 12), none⟩,
  ⟨some 66, .load false 1 (.t 65), none⟩,
  ⟨some 67, .mov (.t 14), none⟩,
  ⟨some 68, .iad 1 (.t 66) (.t 67), none⟩,
  ⟨some 69, .load false 1 (.t 68), none⟩,
  ⟨some 70, .bin .geq (.t 69) (.k (.int .i64 (0))), none⟩]
def c_graph_Remove_r16 (F : String → Nat) : List LI := [⟨some 71, .fad 0 (.t 13), none⟩,
  ⟨some 72, .load false 1 (.t 71), none⟩,
  ⟨some 73, .mov (.t 15), none⟩,
  ⟨some 74, .buildSl 1 8 (.int .i64 (0)) 1 [(0, .t 73)], none⟩,
  ⟨some 75, .app 1 8 (.t 72) (.t 74), none⟩,
  ⟨some 76, .fad 0 (.t 13), none⟩,
  ⟨none, .store 1 (.t 76) (.t 75), none⟩]
def c_graph_Remove_r17 (F : String → Nat) : List LI := [⟨some 77, .bin .add (.t 60) (.k (.int .i64 (1))), none⟩,
  ⟨some 60, .mov (.t 77), none⟩]
def c_graph_Remove_b18 (F : String → Nat) : LC := (.seq (.reg (c_graph_Remove_r13 F) [3, 6, 7, 12, 13, 58, 59, 60, 61]) (.seq (.cond (.t 61) .skip (.exit 0)) (.seq (.block 1 (.seq (.reg (c_graph_Remove_r14 F) [3, 6, 7, 12, 13, 14, 15, 58, 59, 60]) (.seq (.reg (c_graph_Remove_r15 F) [3, 6, 7, 12, 13, 15, 58, 59, 60, 70]) (.cond (.t 70) (.reg (c_graph_Remove_r16 F) [3, 6, 7, 12, 13, 58, 59, 60]) .skip)))) (.reg (c_graph_Remove_r17 F) [3, 6, 7, 12, 13, 58, 59, 60]))))
def c_graph_Remove_r19 (F : String → Nat) : List LI := [⟨some 78, .fad 1 (.t 3), none⟩,
  ⟨some 79, .load false 1 (.t 78), none⟩,
  ⟨some 80, .len (.t 79), none⟩,
  ⟨some 81, .mov (.k (.int .i64 (0))), none⟩]
def c_graph_Remove_r20 (F : String → Nat) : List LI := [⟨some 82, .bin .lss (.t 81) (.t 80), none⟩]
def c_graph_Remove_r21 (F : String → Nat) : List LI := [⟨some 83, .mov (.t 81), none⟩,
  ⟨some 84, .iad 3 (.t 79) (.t 81), none⟩,
  ⟨some 85, .load true 3 (.t 84), none⟩,
  ⟨some 17, .alloc [.int .i64 (0), .int .i64 (0), .int .i64 (0)], none⟩,
  ⟨some 16, .mov (.t 83), none⟩,
  ⟨none, .store 3 (.t 17) (.t 85), none⟩]
def c_graph_Remove_r22 (F : String → Nat) : List LI := [⟨some 86, .fad 1 (.t 12), none⟩,
  ⟨some 87, .load false 1 (.t 86), none⟩,
  ⟨some 88, .mov (.t 16), none⟩,
  ⟨some 89, .iad 1 (.t 87) (.t 88), none⟩,
  ⟨some 90, .load false 1 (.t 89), none⟩,
  ⟨some 91, .bin .lss (.t 90) (.k (.int .i64 (0))), none⟩]
def c_graph_Remove_r23 (F : String → Nat) : List LI := [⟨some 92, .fad 0 (.t 17), none⟩,
  ⟨some 93, .load false 1 (.t 92), none⟩,
  ⟨some 94, .fad 0 (.t 12), none⟩,
  ⟨some 95, .load false 1 (.t 94), none⟩,
  ⟨some 96, .fad 1 (.t 17), none⟩,
  ⟨some 97, .load false 1 (.t 96), none⟩,
  ⟨some 98, .iad 1 (.t 95) (.t 97), none⟩,
  ⟨some 99, .load false 1 (.t 98), none⟩,
  ⟨some 100, .fad 0 (.t 12), none⟩,
  ⟨some 101, .load false 1 (.t 100), none⟩,
  ⟨some 102, .fad 2 (.t 17), none⟩,
  ⟨some 103, .load false 1 (.t 102), none⟩,
  ⟨some 104, .iad 1 (.t 101) (.t 103), none⟩,
  ⟨some 105, .load false 1 (.t 104), none⟩,
  ⟨some 106, .build [.int .i64 (0), .int .i64 (0), .int .i64 (0)] [(0, 1, .t 93), (1, 1, .t 99), (2, 1, .t 105)], none⟩,
  ⟨some 18, .alloc [.int .i64 (0), .int .i64 (0), .int .i64 (0)], none⟩,
  ⟨none, .store 3 (.t 18) (.t 106), none⟩]
def c_graph_Remove_r24 (F : String → Nat) : List LI := [⟨some 107, .fad 1 (.t 18), none⟩,
  ⟨some 108, .load false 1 (.t 107), none⟩,
  ⟨some 109, .bin .lss (.t 108) (.k (.int .i64 (0))), none⟩,
  ⟨some 110, .mov (.t 109), none⟩,
  ⟨some 111, .fad 2 (.t 18), some (110, false)⟩,
  ⟨some 112, .load false 1 (.t 111), some (110, false)⟩,
  ⟨some 113, .bin .lss (.t 112) (.k (.int .i64 (0))), some (110, false)⟩,
  ⟨some 114, .pick (.t 110) (.k (.bool true)) (.t 113), none⟩]
def c_graph_Remove_r25 (F : String → Nat) : List LI := [⟨some 115, .build [.nl 1, .nl 3] [], none⟩,
  ⟨some 116, .build [.nl 1, .nl 1] [], none⟩,
  ⟨none, .store 2 (.t 6) (.t 115), none⟩,
  ⟨none, .store 2 (.t 7) (.t 116), none⟩,
  ⟨some 8, .mov (.k (.int .i64 (14))), none⟩]
def c_graph_Remove_r26 (F : String → Nat) : List LI := [⟨some 117, .fad 1 (.t 13), none⟩,
  ⟨some 118, .load false 1 (.t 117), none⟩,
  ⟨some 119, .load true 3 (.t 18), none⟩,
  ⟨some 120, .buildSl 3 24 (.agg [.int .i64 (0), .int .i64 (0), .int .i64 (0)]) 1 [(0, .t 119)], none⟩,
  ⟨some 121, .app 3 24 (.t 118) (.t 120), none⟩,
  ⟨some 122, .fad 1 (.t 13), none⟩,
  ⟨none, .store 1 (.t 122) (.t 121), none⟩]
def c_graph_Remove_r27 (F : String → Nat) : List LI := [⟨some 123, .bin .add (.t 81) (.k (.int .i64 (1))), none⟩,
  ⟨some 81, .mov (.t 123), none⟩]
def c_graph_Remove_b28 (F : String → Nat) : LC := (.seq (.reg (c_graph_Remove_r20 F) [6, 7, 12, 13, 79, 80, 81, 82]) (.seq (.cond (.t 82) .skip (.exit 2)) (.seq (.block 3 (.seq (.reg (c_graph_Remove_r21 F) [6, 7, 12, 13, 16, 17, 79, 80, 81]) (.seq (.seq (.reg (c_graph_Remove_r22 F) [6, 7, 12, 13, 17, 79, 80, 81, 91]) (.cond (.t 91) (.exit 3) .skip)) (.seq (.dreg [] (c_graph_Remove_r23 F) [6, 7, 12, 13, 18, 79, 80, 81]) (.seq (.seq (.reg (c_graph_Remove_r24 F) [6, 7, 12, 13, 18, 79, 80, 81, 114]) (.cond (.t 114) (.seq (.reg (c_graph_Remove_r25 F) [6, 7, 8]) .ret) .skip)) (.reg (c_graph_Remove_r26 F) [6, 7, 12, 13, 79, 80, 81])))))) (.reg (c_graph_Remove_r27 F) [6, 7, 12, 13, 79, 80, 81]))))
def c_graph_Remove_r29 (F : String → Nat) : List LI := [⟨some 124, .load true 2 (.t 13), none⟩,
  ⟨some 125, .load true 2 (.t 12), none⟩,
  ⟨none, .store 2 (.t 6) (.t 124), none⟩,
  ⟨none, .store 2 (.t 7) (.t 125), none⟩,
  ⟨some 8, .mov (.k (.int .i64 (0))), none⟩]
def c_graph_Remove (F : String → Nat) : LC := (.seq (.reg (c_graph_Remove_r0 F) [1, 2, 3, 6, 7]) (.seq (.seq (.reg (c_graph_Remove_r1 F) [1, 2, 3, 6, 7, 9]) (.seq (.reg (c_graph_Remove_r2 F) [1, 2, 3, 6, 7, 9, 22]) (.cond (.t 22) (.seq (.reg (c_graph_Remove_r3 F) [6, 7, 8]) .ret) .skip))) (.seq (.seq (.reg (c_graph_Remove_r4 F) [1, 2, 3, 6, 7, 10]) (.seq (.reg (c_graph_Remove_r5 F) [1, 2, 3, 6, 7, 10, 32]) (.cond (.t 32) (.seq (.reg (c_graph_Remove_r6 F) [6, 7, 8]) .ret) .skip))) (.seq (.seq (.reg (c_graph_Remove_r7 F) [1, 2, 3, 6, 7, 11]) (.seq (.reg (c_graph_Remove_r8 F) [1, 2, 3, 6, 7, 11, 42]) (.cond (.t 42) (.seq (.reg (c_graph_Remove_r9 F) [6, 7, 8]) .ret) .skip))) (.seq (.dreg [(4, none, [], true), (6, (some 32), [4], false)] (c_graph_Remove_r10 F) [3, 6, 7, 12]) (.seq (.reg (c_graph_Remove_r11 F) [3, 6, 7, 12, 13]) (.seq (.seq (.reg (c_graph_Remove_r12 F) [3, 6, 7, 12, 13, 58, 59, 60]) (.block 0 (.loop [3, 6, 7, 12, 13, 58, 59, 60] (c_graph_Remove_b18 F)))) (.seq (.seq (.reg (c_graph_Remove_r19 F) [6, 7, 12, 13, 79, 80, 81]) (.block 2 (.loop [6, 7, 12, 13, 79, 80, 81] (c_graph_Remove_b28 F)))) (.seq (.dreg [(1, none, [], true), (2, none, [1], false)] (c_graph_Remove_r29 F) [6, 7, 8]) .ret)))))))))
def h_graph_Remove : Hints := ⟨[], fun _ => [], tab [(0, [1, 2, 3, 6, 7]), (1, [1, 2, 3, 6, 7, 9]), (2, [1, 2, 3, 6, 7, 9, 22]), (3, [6, 7, 8]), (4, [1, 2, 3, 6, 7, 10]), (5, [1, 2, 3, 6, 7, 10, 32]), (6, [6, 7, 8]), (7, [1, 2, 3, 6, 7, 11]), (8, [1, 2, 3, 6, 7, 11, 42]), (9, [6, 7, 8]), (10, [3, 6, 7, 12]), (11, [3, 6, 7, 12, 13]), (12, [3, 6, 7, 12, 13, 58, 59, 60]), (13, [3, 6, 7, 12, 13, 58, 59, 60, 61]), (14, [3, 6, 7, 12, 13, 14, 15, 58, 59, 60]), (15, [3, 6, 7, 12, 13, 15, 58, 59, 60, 70]), (16, [3, 6, 7, 12, 13, 58, 59, 60]), (17, [3, 6, 7, 12, 13, 58, 59, 60]), (18, [6, 7, 12, 13, 79, 80, 81]), (19, [6, 7, 12, 13, 79, 80, 81, 82]), (20, [6, 7, 12, 13, 16, 17, 79, 80, 81]), (21, [6, 7, 12, 13, 17, 79, 80, 81, 91]), (22, [6, 7, 12, 13, 18, 79, 80, 81]), (23, [6, 7, 12, 13, 18, 79, 80, 81, 114]), (24, [6, 7, 8]), (25, [6, 7, 12, 13, 79, 80, 81]), (26, [6, 7, 12, 13, 79, 80, 81]), (27, [6, 7, 8])], tab [(13, [3, 6, 7, 12, 13, 58, 59, 60]), (19, [6, 7, 12, 13, 79, 80, 81])]⟩

attribute [go_sem] c_graph_Remove_r0 c_graph_Remove_r1 c_graph_Remove_r2 c_graph_Remove_r3 c_graph_Remove_r4 c_graph_Remove_r5 c_graph_Remove_r6 c_graph_Remove_r7 c_graph_Remove_r8 c_graph_Remove_r9 c_graph_Remove_r10 c_graph_Remove_r11 c_graph_Remove_r12 c_graph_Remove_r13 c_graph_Remove_r14 c_graph_Remove_r15 c_graph_Remove_r16 c_graph_Remove_r17 c_graph_Remove_r19 c_graph_Remove_r20 c_graph_Remove_r21 c_graph_Remove_r22 c_graph_Remove_r23 c_graph_Remove_r24 c_graph_Remove_r25 c_graph_Remove_r26 c_graph_Remove_r27 c_graph_Remove_r29 c_graph_Remove
def remE (mn : List Int) (x : E) : E := ⟨x.t, gt mn x.f, gt mn x.o⟩
def remN (ns mn : List Int) : Nat → List Int
  | 0 => []
  | i + 1 => if 0 ≤ gt mn i then remN ns mn i ++ [gt ns i] else remN ns mn i
def remEd (es : List E) (mn me : List Int) : Nat → Option (List E)
  | 0 => some []
  | i + 1 => match remEd es mn me i with
    | none => none
    | some l => if gt me i < 0 then some l else if (remE mn (gt es i)).f < 0 ∨ (remE mn (gt es i)).o < 0 then none else some (l ++ [remE mn (gt es i)])
def removeG (g : G) (ns es : List Int) : G × Mo × Int :=
  if validG g ≠ 0 then (⟨[], []⟩, ⟨[], []⟩, validG g)
  else if ascG g.n.length none ns ≠ 0 then (⟨[], []⟩, ⟨[], []⟩, ascG g.n.length none ns)
  else if ascG g.e.length none es ≠ 0 then (⟨[], []⟩, ⟨[], []⟩, ascG g.e.length none es)
  else match remEd g.e (leftL ns g.n.length).1 (leftL es g.e.length).1 g.e.length with
    | none => (⟨[], []⟩, ⟨[], []⟩, 14)
    | some l => (⟨remN g.n (leftL ns g.n.length).1 g.n.length, l⟩, ⟨(leftL ns g.n.length).1, (leftL es g.e.length).1⟩, 0)
def remD (r : G × Mo × Int) : D := .tup [gA r.1, mA r.2.1, .int .i64 r.2.2]
section
variable (P : Program) (F : String → Nat)
def K_graph_Remove : Prop := ∀ (g : G) (ns es : List Int), ns.length ≤ maxL → es.length ≤ maxL → FC P (F "graph.Remove") [gD g, .lst 1 (ints ns), .lst 1 (ints es)] (remD (removeG g ns es)) []
end
section
variable {P : Program} {F : String → Nat} {α : Type}
theorem remN_len (ns mn : List Int) : ∀ i, (remN ns mn i).length ≤ i
  | 0 => by simp [remN]
  | i + 1 => by have := remN_len ns mn i; simp only [remN]; split <;> simp <;> omega
theorem remEd_len (es : List E) (mn me : List Int) : ∀ i l, remEd es mn me i = some l → l.length ≤ i
  | 0, l, h => by simp only [remEd, Option.some.injEq] at h; subst h; simp
  | i + 1, l, h => by
    simp only [remEd] at h
    split at h
    · cases h
    · rename_i l' hl
      have := remEd_len es mn me i l' hl
      split at h
      · simp only [Option.some.injEq] at h; subst h; omega
      · split at h
        · cases h
        · simp only [Option.some.injEq] at h; subst h; simp; omega
theorem remEd_none (es : List E) (mn me : List Int) {i : Nat} (h : remEd es mn me i = none) : ∀ k, remEd es mn me (i + k) = none
  | 0 => h
  | k + 1 => by
    rw [← Nat.add_assoc]
    simp only [remEd, remEd_none es mn me h k]
set_option maxHeartbeats 2000000 in
theorem w_graph_Remove (hv : K_graph_Valid P F) (ha : K_graph_ascending P F) (hl : K_graph_left P F) (g : G) (ns es : List Int) (h1 : ns.length ≤ maxL) (h2 : es.length ≤ maxL) :
    W P (c_graph_Remove F) (Done [.c 6 true 2, .c 7 true 2, .t 8] [] (remD (removeG g ns es)) []) (init [gD g, .lst 1 (ints ns), .lst 1 (ints es)]) := by
  refine W_of ?_
  obtain ⟨gn, ge⟩ := g
  simp (config := { maxSteps := 1000000 }) (disch := first | omega | (simp only [go_sem]; omega)) only [go_sem, ↓reduceIte, gD]
  refine call_by (hv ⟨gn, ge⟩) ?_
  simp (config := { maxSteps := 1000000 }) (disch := first | omega | (simp only [go_sem]; omega)) only [go_sem, ↓reduceIte]
  refine bran_ndec (fun c1 => ?_) (fun c1 => ?_)
  · simp (config := { maxSteps := 1000000 }) (disch := first | omega | (simp only [go_sem]; omega)) only [go_sem, ↓reduceIte]
    simp [removeG, c1, remD, gA, mA, ints, eds]
  · obtain ⟨v1, v2, v3, v4⟩ := valid_spec c1
    simp only at v1 v2 v3 v4
    simp (config := { maxSteps := 1000000 }) (disch := first | omega | (simp only [go_sem]; omega)) only [go_sem, ↓reduceIte]
    refine call_by (ha _ _ h1 (by omega) (by omega)) ?_
    simp (config := { maxSteps := 1000000 }) (disch := first | omega | (simp only [go_sem]; omega)) only [go_sem, ↓reduceIte]
    refine bran_ndec (fun c2 => ?_) (fun c2 => ?_)
    · simp (config := { maxSteps := 1000000 }) (disch := first | omega | (simp only [go_sem]; omega)) only [go_sem, ↓reduceIte]
      simp [removeG, c1, c2, remD, gA, mA, ints, eds]
    · simp (config := { maxSteps := 1000000 }) (disch := first | omega | (simp only [go_sem]; omega)) only [go_sem, ↓reduceIte]
      refine call_by (ha _ _ h2 (by omega) (by omega)) ?_
      simp (config := { maxSteps := 1000000 }) (disch := first | omega | (simp only [go_sem]; omega)) only [go_sem, ↓reduceIte]
      refine bran_ndec (fun c3 => ?_) (fun c3 => ?_)
      · simp (config := { maxSteps := 1000000 }) (disch := first | omega | (simp only [go_sem]; omega)) only [go_sem, ↓reduceIte]
        simp [removeG, c1, c2, c3, remD, gA, mA, ints, eds]
      · have e1 := left_len ns gn.length
        have e2 := left_len es ge.length
        simp (config := { maxSteps := 1000000 }) (disch := first | omega | (simp only [go_sem]; omega)) only [go_sem, ↓reduceIte]
        refine call_by (hl _ _ h1 (by omega)) ?_
        simp (config := { maxSteps := 1000000 }) (disch := first | omega | (simp only [go_sem]; omega)) only [go_sem, ↓reduceIte, e1]
        refine call_by (hl _ _ h2 (by omega)) ?_
        simp (config := { maxSteps := 1000000 }) (disch := first | omega | (simp only [go_sem]; omega)) only [go_sem, ↓reduceIte, e1, e2]
        have hb := remN_len gn (leftL ns gn.length).1
        refine W_loop (fun i : Nat => ⟨[(3, .pt 0 0), (6, .pt 3 0), (7, .pt 6 0), (12, .pt 9 0), (13, .pt 12 0), (58, .lst 1 (ints gn)), (59, .int .i64 gn.length), (60, .int .i64 i)],
          [(0, .box [.lst 1 (ints gn), .lst 3 (eds ge)]), (1, .arr 1 []), (2, .arr 3 []), (3, .box [.sl 1 0 0, .sl 2 0 0]), (4, .arr 1 []), (5, .arr 1 []), (6, .box [.sl 4 0 0, .sl 5 0 0]), (7, .arr 1 (ints (leftL ns gn.length).1)),
           (8, .arr 1 (ints (leftL es ge.length).1)), (9, .box [.sl 7 0 gn.length, .sl 8 0 ge.length]), (10, .arr 1 (ints (remN gn (leftL ns gn.length).1 i))), (11, .arr 3 []), (12, .box [.sl 10 0 (remN gn (leftL ns gn.length).1 i).length, .sl 11 0 0])], 13⟩) (fun i => i ≤ gn.length) (fun i => gn.length - i) 0 ?_ ?_ ?_
        · simp (config := { maxSteps := 1000000 }) (disch := first | omega | (simp only [go_sem]; omega)) only [go_sem, ↓reduceIte, e1, e2, remN, ints_nil]
          rfl
        · omega
        · intro i hi
          have hbi := hb i
          simp (config := { maxSteps := 1000000 }) (disch := first | omega | (simp only [go_sem]; omega)) only [go_sem, ↓reduceIte, c_graph_Remove_b18]
          refine bran_dec (fun c => ?_) (fun c => ?_)
          · simp (config := { maxSteps := 1000000 }) (disch := first | omega | (simp only [go_sem]; omega)) only [go_sem, ↓reduceIte, e1, e2]
            refine bran_dec (fun d => ?_) (fun d => ?_)
            · simp (config := { maxSteps := 1000000 }) (disch := first | omega | (simp only [go_sem]; omega)) only [go_sem, ↓reduceIte, e1, e2]
              exact ⟨i + 1, by simp [remN, d], by omega, by omega⟩
            · simp (config := { maxSteps := 1000000 }) (disch := first | omega | (simp only [go_sem]; omega)) only [go_sem, ↓reduceIte, e1, e2]
              exact ⟨i + 1, by simp [remN, d], by omega, by omega⟩
          · obtain rfl : i = gn.length := by omega
            simp (config := { maxSteps := 1000000 }) (disch := first | omega | (simp only [go_sem]; omega)) only [go_sem, ↓reduceIte, e1, e2]
            refine W_loop (fun p : Nat × List E => ⟨[(6, .pt 2 0), (7, .pt 5 0), (12, .pt 8 0), (13, .pt 11 0), (79, .lst 3 (eds ge)), (80, .int .i64 ge.length), (81, .int .i64 p.1)],
              [(0, .arr 1 []), (1, .arr 3 []), (2, .box [.sl 0 0 0, .sl 1 0 0]), (3, .arr 1 []), (4, .arr 1 []), (5, .box [.sl 3 0 0, .sl 4 0 0]), (6, .arr 1 (ints (leftL ns gn.length).1)), (7, .arr 1 (ints (leftL es ge.length).1)), (8, .box [.sl 6 0 gn.length, .sl 7 0 ge.length]),
               (9, .arr 1 (ints (remN gn (leftL ns gn.length).1 gn.length))), (10, .arr 3 (eds p.2)), (11, .box [.sl 9 0 (remN gn (leftL ns gn.length).1 gn.length).length, .sl 10 0 p.2.length])], 12⟩) (fun p => p.1 ≤ ge.length ∧ remEd ge (leftL ns gn.length).1 (leftL es ge.length).1 p.1 = some p.2) (fun p => ge.length - p.1) (0, []) ?_ ?_ ?_
            · simp (config := { maxSteps := 1000000 }) (disch := first | omega | (simp only [go_sem]; omega)) only [go_sem, ↓reduceIte, e1, e2]
              rfl
            · simp [remEd]
            · rintro ⟨i, l⟩ ⟨hi, hl⟩
              simp only at hi hl
              have hll := remEd_len _ _ _ _ _ hl
              simp (config := { maxSteps := 1000000 }) (disch := first | omega | (simp only [go_sem]; omega)) only [go_sem, ↓reduceIte, c_graph_Remove_b28]
              refine bran_dec (fun c => ?_) (fun c => ?_)
              · have hf := fits_spec (v4 _ (gt_mem (by omega) c))
                simp (config := { maxSteps := 1000000 }) (disch := first | omega | (simp only [go_sem]; omega)) only [go_sem, ↓reduceIte, e1, e2]
                refine bran_dec (fun d => ?_) (fun d => ?_)
                · simp (config := { maxSteps := 1000000 }) (disch := first | omega | (simp only [go_sem]; omega)) only [go_sem, ↓reduceIte, e1, e2]
                  exact ⟨(i + 1, l), by simp, ⟨by simp only; omega, by simp [remEd, hl, d]⟩, by simp only; omega⟩
                · simp (config := { maxSteps := 1000000 }) (disch := first | omega | (simp only [go_sem]; omega)) only [go_sem, ↓reduceIte, e1, e2]
                  refine bran_dec (fun d2 => ?_) (fun d2 => ?_)
                  · simp (config := { maxSteps := 1000000 }) (disch := first | omega | (simp only [go_sem]; omega)) only [go_sem, ↓reduceIte, e1, e2, d2]
                    have hn : remEd ge (leftL ns gn.length).1 (leftL es ge.length).1 (i + 1) = none := by simp [remEd, hl, d, remE, d2]
                    have hn' := remEd_none _ _ _ hn (ge.length - (i + 1))
                    rw [show i + 1 + (ge.length - (i + 1)) = ge.length by omega] at hn'
                    simp [removeG, c1, c2, c3, hn', remD, gA, mA, ints, eds]
                  · simp (config := { maxSteps := 1000000 }) (disch := first | omega | (simp only [go_sem]; omega)) only [go_sem, ↓reduceIte, e1, e2, d2]
                    refine bran_dec (fun d3 => ?_) (fun d3 => ?_)
                    · simp (config := { maxSteps := 1000000 }) (disch := first | omega | (simp only [go_sem]; omega)) only [go_sem, ↓reduceIte, e1, e2]
                      have hn : remEd ge (leftL ns gn.length).1 (leftL es ge.length).1 (i + 1) = none := by simp [remEd, hl, d, remE, d3]
                      have hn' := remEd_none _ _ _ hn (ge.length - (i + 1))
                      rw [show i + 1 + (ge.length - (i + 1)) = ge.length by omega] at hn'
                      simp [removeG, c1, c2, c3, hn', remD, gA, mA, ints, eds]
                    · simp (config := { maxSteps := 1000000 }) (disch := first | omega | (simp only [go_sem]; omega)) only [go_sem, ↓reduceIte, e1, e2]
                      exact ⟨(i + 1, l ++ [remE (leftL ns gn.length).1 (gt ge i)]), by simp [remE], ⟨by simp only; omega, by simp [remEd, hl, d, remE, d2, d3]⟩, by simp only; omega⟩
              · obtain rfl : i = ge.length := by omega
                simp (config := { maxSteps := 1000000 }) (disch := first | omega | (simp only [go_sem]; omega)) only [go_sem, ↓reduceIte, e1, e2]
                simp [removeG, c1, c2, c3, hl, remD, gA, mA]
end
end Go.Am
