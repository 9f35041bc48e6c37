/- The graph package: Components; copies. -/
import Derived.Test.YtfkkngepnnkloaaSjE
import Derived.Test.YtfkkngepnnkloaaSkV
namespace Go.Am
open Go
set_option linter.unusedVariables false
set_option linter.unusedSimpArgs false
/- graph.Components -/
def c_graph_Components_r0 (F : String → Nat) : List LI := [⟨some 1, .bx (.t 0), none⟩,
  ⟨some 2, .mov (.k (.nl 2)), none⟩,
  ⟨some 3, .mov (.k (.int .i64 (0))), none⟩]
def c_graph_Components_r1 (F : String → Nat) : List LI := [⟨some 18, .load true 2 (.t 1), none⟩,
  ⟨some 19, .call (F "graph.Valid") [.t 18] [], none⟩,
  ⟨some 4, .mov (.t 19), none⟩]
def c_graph_Components_r2 (F : String → Nat) : List LI := [⟨some 20, .mov (.t 4), none⟩,
  ⟨some 21, .bin .neq (.t 20) (.k (.int .i64 (0))), none⟩]
def c_graph_Components_r3 (F : String → Nat) : List LI := [⟨some 22, .mov (.t 4), none⟩,
  ⟨some 2, .mov (.k (.nl 2)), none⟩,
  ⟨some 3, .mov (.t 22), none⟩]
def c_graph_Components_r4 (F : String → Nat) : List LI := [⟨some 23, .fad 0 (.t 1), none⟩,
  ⟨some 24, .load false 1 (.t 23), none⟩,
  ⟨some 25, .len (.t 24), none⟩,
  ⟨some 26, .call (F "graph.numbers") [.k (.int .i64 (0)), .t 25] [], none⟩,
  ⟨some 5, .mov (.t 26), none⟩]
def c_graph_Components_r5 (F : String → Nat) : List LI := [⟨some 6, .mov (.k (.bool true)), none⟩]
def c_graph_Components_r6 (F : String → Nat) : List LI := [⟨some 27, .mov (.t 6), none⟩]
def c_graph_Components_r7 (F : String → Nat) : List LI := [⟨some 6, .mov (.k (.bool false)), none⟩]
def c_graph_Components_r8 (F : String → Nat) : List LI := [⟨some 28, .fad 1 (.t 1), none⟩,
  ⟨some 29, .load false 1 (.t 28), none⟩,
  ⟨some 30, .len (.t 29), none⟩,
  ⟨some 31, .mov (.k (.int .i64 (0))), none⟩]
def c_graph_Components_r9 (F : String → Nat) : List LI := [⟨some 32, .bin .lss (.t 31) (.t 30), none⟩]
def c_graph_Components_r10 (F : String → Nat) : List LI := [⟨some 33, .iad 3 (.t 29) (.t 31), none⟩,
  ⟨some 34, .load true 3 (.t 33), none⟩,
  ⟨some 8, .alloc [.int .i64 (0), .int .i64 (0), .int .i64 (0)], none⟩,
  ⟨none, .store 3 (.t 8) (.t 34), none⟩]
def c_graph_Components_r11 (F : String → Nat) : List LI := [⟨some 35, .mov (.t 5), none⟩,
  ⟨some 36, .fad 1 (.t 8), none⟩,
  ⟨some 37, .load false 1 (.t 36), none⟩,
  ⟨some 38, .iad 1 (.t 35) (.t 37), none⟩,
  ⟨some 39, .load false 1 (.t 38), none⟩,
  ⟨some 40, .mov (.t 5), none⟩,
  ⟨some 41, .fad 2 (.t 8), none⟩,
  ⟨some 42, .load false 1 (.t 41), none⟩,
  ⟨some 43, .iad 1 (.t 40) (.t 42), none⟩,
  ⟨some 44, .load false 1 (.t 43), none⟩,
  ⟨some 45, .mn [.t 39, .t 44], none⟩,
  ⟨some 9, .mov (.t 45), none⟩]
def c_graph_Components_r12 (F : String → Nat) : List LI := [⟨some 46, .mov (.t 5), none⟩,
  ⟨some 47, .fad 1 (.t 8), none⟩,
  ⟨some 48, .load false 1 (.t 47), none⟩,
  ⟨some 49, .iad 1 (.t 46) (.t 48), none⟩,
  ⟨some 50, .load false 1 (.t 49), none⟩,
  ⟨some 51, .mov (.t 9), none⟩,
  ⟨some 52, .bin .neq (.t 50) (.t 51), none⟩,
  ⟨some 53, .mov (.t 52), none⟩,
  ⟨some 54, .mov (.t 5), some (53, false)⟩,
  ⟨some 55, .fad 2 (.t 8), some (53, false)⟩,
  ⟨some 56, .load false 1 (.t 55), some (53, false)⟩,
  ⟨some 57, .iad 1 (.t 54) (.t 56), some (53, false)⟩,
  ⟨some 58, .load false 1 (.t 57), some (53, false)⟩,
  ⟨some 59, .mov (.t 9), some (53, false)⟩,
  ⟨some 60, .bin .neq (.t 58) (.t 59), some (53, false)⟩,
  ⟨some 61, .pick (.t 53) (.k (.bool true)) (.t 60), none⟩]
def c_graph_Components_r13 (F : String → Nat) : List LI := [⟨some 62, .mov (.t 5), none⟩,
  ⟨some 63, .fad 1 (.t 8), none⟩,
  ⟨some 64, .load false 1 (.t 63), none⟩,
  ⟨some 65, .mov (.t 5), none⟩,
  ⟨some 66, .fad 2 (.t 8), none⟩,
  ⟨some 67, .load false 1 (.t 66), none⟩,
  ⟨some 68, .mov (.t 9), none⟩,
  ⟨some 69, .mov (.t 9), none⟩,
  ⟨some 70, .iad 1 (.t 62) (.t 64), none⟩,
  ⟨none, .store 1 (.t 70) (.t 68), none⟩,
  ⟨some 71, .iad 1 (.t 65) (.t 67), none⟩,
  ⟨none, .store 1 (.t 71) (.t 69), none⟩,
  ⟨some 6, .mov (.k (.bool true)), none⟩]
def c_graph_Components_r14 (F : String → Nat) : List LI := [⟨some 72, .bin .add (.t 31) (.k (.int .i64 (1))), none⟩,
  ⟨some 31, .mov (.t 72), none⟩]
def c_graph_Components_b15 (F : String → Nat) : LC := (.seq (.reg (c_graph_Components_r9 F) [1, 5, 6, 29, 30, 31, 32]) (.seq (.cond (.t 32) .skip (.exit 2)) (.seq (.block 3 (.seq (.reg (c_graph_Components_r10 F) [1, 5, 6, 8, 29, 30, 31]) (.seq (.dreg [] (c_graph_Components_r11 F) [1, 5, 6, 8, 9, 29, 30, 31]) (.seq (.reg (c_graph_Components_r12 F) [1, 5, 6, 8, 9, 29, 30, 31, 61]) (.cond (.t 61) (.dreg [(5, none, [], true), (9, none, [5], false)] (c_graph_Components_r13 F) [1, 5, 6, 29, 30, 31]) .skip))))) (.reg (c_graph_Components_r14 F) [1, 5, 6, 29, 30, 31]))))
def c_graph_Components_b16 (F : String → Nat) : LC := (.seq (.seq (.reg (c_graph_Components_r6 F) [1, 5, 27]) (.cond (.t 27) .skip (.exit 0))) (.block 1 (.seq (.reg (c_graph_Components_r7 F) [1, 5, 6]) (.seq (.reg (c_graph_Components_r8 F) [1, 5, 6, 29, 30, 31]) (.block 2 (.loop [1, 5, 6, 29, 30, 31] (c_graph_Components_b15 F)))))))
def c_graph_Components_r17 (F : String → Nat) : List LI := [⟨some 10, .mov (.k (.nl 2)), none⟩]
def c_graph_Components_r18 (F : String → Nat) : List LI := [⟨some 73, .mov (.t 5), none⟩,
  ⟨some 74, .len (.t 73), none⟩,
  ⟨some 75, .mov (.k (.int .i64 (0))), none⟩]
def c_graph_Components_r19 (F : String → Nat) : List LI := [⟨some 76, .bin .lss (.t 75) (.t 74), none⟩]
def c_graph_Components_r20 (F : String → Nat) : List LI := [⟨some 77, .mov (.t 75), none⟩,
  ⟨some 78, .iad 1 (.t 73) (.t 75), none⟩,
  ⟨some 79, .load false 1 (.t 78), none⟩,
  ⟨some 11, .mov (.t 77), none⟩,
  ⟨some 12, .mov (.t 79), none⟩]
def c_graph_Components_r21 (F : String → Nat) : List LI := [⟨some 80, .mov (.t 11), none⟩,
  ⟨some 81, .mov (.t 12), none⟩,
  ⟨some 82, .bin .neq (.t 80) (.t 81), none⟩]
def c_graph_Components_r22 (F : String → Nat) : List LI := [⟨some 13, .alloc [.nl 1, .nl 1], none⟩]
def c_graph_Components_r23 (F : String → Nat) : List LI := [⟨some 83, .mov (.t 5), none⟩,
  ⟨some 84, .len (.t 83), none⟩,
  ⟨some 85, .mov (.k (.int .i64 (0))), none⟩]
def c_graph_Components_r24 (F : String → Nat) : List LI := [⟨some 86, .bin .lss (.t 85) (.t 84), none⟩]
def c_graph_Components_r25 (F : String → Nat) : List LI := [⟨some 87, .mov (.t 85), none⟩,
  ⟨some 88, .iad 1 (.t 83) (.t 85), none⟩,
  ⟨some 89, .load false 1 (.t 88), none⟩,
  ⟨some 14, .mov (.t 87), none⟩,
  ⟨some 15, .mov (.t 89), none⟩]
def c_graph_Components_r26 (F : String → Nat) : List LI := [⟨some 90, .mov (.t 15), none⟩,
  ⟨some 91, .mov (.t 11), none⟩,
  ⟨some 92, .bin .eql (.t 90) (.t 91), none⟩]
def c_graph_Components_r27 (F : String → Nat) : List LI := [⟨some 93, .fad 0 (.t 13), none⟩,
  ⟨some 94, .load false 1 (.t 93), none⟩,
  ⟨some 95, .mov (.t 14), none⟩,
  ⟨some 96, .buildSl 1 8 (.int .i64 (0)) 1 [(0, .t 95)], none⟩,
  ⟨some 97, .app 1 8 (.t 94) (.t 96), none⟩,
  ⟨some 98, .fad 0 (.t 13), none⟩,
  ⟨none, .store 1 (.t 98) (.t 97), none⟩]
def c_graph_Components_r28 (F : String → Nat) : List LI := [⟨some 99, .bin .add (.t 85) (.k (.int .i64 (1))), none⟩,
  ⟨some 85, .mov (.t 99), none⟩]
def c_graph_Components_b29 (F : String → Nat) : LC := (.seq (.reg (c_graph_Components_r24 F) [1, 5, 10, 11, 13, 73, 74, 75, 83, 84, 85, 86]) (.seq (.cond (.t 86) .skip (.exit 6)) (.seq (.block 7 (.seq (.reg (c_graph_Components_r25 F) [1, 5, 10, 11, 13, 14, 15, 73, 74, 75, 83, 84, 85]) (.seq (.reg (c_graph_Components_r26 F) [1, 5, 10, 11, 13, 14, 73, 74, 75, 83, 84, 85, 92]) (.cond (.t 92) (.reg (c_graph_Components_r27 F) [1, 5, 10, 11, 13, 73, 74, 75, 83, 84, 85]) .skip)))) (.reg (c_graph_Components_r28 F) [1, 5, 10, 11, 13, 73, 74, 75, 83, 84, 85]))))
def c_graph_Components_r30 (F : String → Nat) : List LI := [⟨some 100, .fad 1 (.t 1), none⟩,
  ⟨some 101, .load false 1 (.t 100), none⟩,
  ⟨some 102, .len (.t 101), none⟩,
  ⟨some 103, .mov (.k (.int .i64 (0))), none⟩]
def c_graph_Components_r31 (F : String → Nat) : List LI := [⟨some 104, .bin .lss (.t 103) (.t 102), none⟩]
def c_graph_Components_r32 (F : String → Nat) : List LI := [⟨some 105, .mov (.t 103), none⟩,
  ⟨some 106, .iad 3 (.t 101) (.t 103), none⟩,
  ⟨some 107, .load true 3 (.t 106), none⟩,
  ⟨some 17, .alloc [.int .i64 (0), .int .i64 (0), .int .i64 (0)], none⟩,
  ⟨some 16, .mov (.t 105), none⟩,
  ⟨none, .store 3 (.t 17) (.t 107), none⟩]
def c_graph_Components_r33 (F : String → Nat) : List LI := [⟨some 108, .mov (.t 5), none⟩,
  ⟨some 109, .fad 1 (.t 17), none⟩,
  ⟨some 110, .load false 1 (.t 109), none⟩,
  ⟨some 111, .iad 1 (.t 108) (.t 110), none⟩,
  ⟨some 112, .load false 1 (.t 111), none⟩,
  ⟨some 113, .mov (.t 11), none⟩,
  ⟨some 114, .bin .eql (.t 112) (.t 113), none⟩]
def c_graph_Components_r34 (F : String → Nat) : List LI := [⟨some 115, .fad 1 (.t 13), none⟩,
  ⟨some 116, .load false 1 (.t 115), none⟩,
  ⟨some 117, .mov (.t 16), none⟩,
  ⟨some 118, .buildSl 1 8 (.int .i64 (0)) 1 [(0, .t 117)], none⟩,
  ⟨some 119, .app 1 8 (.t 116) (.t 118), none⟩,
  ⟨some 120, .fad 1 (.t 13), none⟩,
  ⟨none, .store 1 (.t 120) (.t 119), none⟩]
def c_graph_Components_r35 (F : String → Nat) : List LI := [⟨some 121, .bin .add (.t 103) (.k (.int .i64 (1))), none⟩,
  ⟨some 103, .mov (.t 121), none⟩]
def c_graph_Components_b36 (F : String → Nat) : LC := (.seq (.reg (c_graph_Components_r31 F) [1, 5, 10, 11, 13, 73, 74, 75, 101, 102, 103, 104]) (.seq (.cond (.t 104) .skip (.exit 8)) (.seq (.block 9 (.seq (.reg (c_graph_Components_r32 F) [1, 5, 10, 11, 13, 16, 17, 73, 74, 75, 101, 102, 103]) (.seq (.reg (c_graph_Components_r33 F) [1, 5, 10, 11, 13, 16, 73, 74, 75, 101, 102, 103, 114]) (.cond (.t 114) (.reg (c_graph_Components_r34 F) [1, 5, 10, 11, 13, 73, 74, 75, 101, 102, 103]) .skip)))) (.reg (c_graph_Components_r35 F) [1, 5, 10, 11, 13, 73, 74, 75, 101, 102, 103]))))
def c_graph_Components_r37 (F : String → Nat) : List LI := [⟨some 122, .mov (.t 10), none⟩,
  ⟨some 123, .load true 2 (.t 13), none⟩,
  ⟨some 124, .buildSl 2 48 (.agg [.lst 1 [], .lst 1 []]) 1 [(0, .t 123)], none⟩,
  ⟨some 125, .app 2 48 (.t 122) (.t 124), none⟩,
  ⟨some 10, .mov (.t 125), none⟩]
def c_graph_Components_r38 (F : String → Nat) : List LI := [⟨some 126, .bin .add (.t 75) (.k (.int .i64 (1))), none⟩,
  ⟨some 75, .mov (.t 126), none⟩]
def c_graph_Components_b39 (F : String → Nat) : LC := (.seq (.reg (c_graph_Components_r19 F) [1, 5, 10, 73, 74, 75, 76]) (.seq (.cond (.t 76) .skip (.exit 4)) (.seq (.block 5 (.seq (.reg (c_graph_Components_r20 F) [1, 5, 10, 11, 12, 73, 74, 75]) (.seq (.seq (.reg (c_graph_Components_r21 F) [1, 5, 10, 11, 73, 74, 75, 82]) (.cond (.t 82) (.exit 5) .skip)) (.seq (.reg (c_graph_Components_r22 F) [1, 5, 10, 11, 13, 73, 74, 75]) (.seq (.seq (.reg (c_graph_Components_r23 F) [1, 5, 10, 11, 13, 73, 74, 75, 83, 84, 85]) (.block 6 (.loop [1, 5, 10, 11, 13, 73, 74, 75, 83, 84, 85] (c_graph_Components_b29 F)))) (.seq (.seq (.reg (c_graph_Components_r30 F) [1, 5, 10, 11, 13, 73, 74, 75, 101, 102, 103]) (.block 8 (.loop [1, 5, 10, 11, 13, 73, 74, 75, 101, 102, 103] (c_graph_Components_b36 F)))) (.reg (c_graph_Components_r37 F) [1, 5, 10, 73, 74, 75]))))))) (.reg (c_graph_Components_r38 F) [1, 5, 10, 73, 74, 75]))))
def c_graph_Components_r40 (F : String → Nat) : List LI := [⟨some 127, .mov (.t 10), none⟩,
  ⟨some 2, .mov (.t 127), none⟩,
  ⟨some 3, .mov (.k (.int .i64 (0))), none⟩]
def c_graph_Components (F : String → Nat) : LC := (.seq (.reg (c_graph_Components_r0 F) [1]) (.seq (.seq (.reg (c_graph_Components_r1 F) [1, 4]) (.seq (.reg (c_graph_Components_r2 F) [1, 4, 21]) (.cond (.t 21) (.seq (.reg (c_graph_Components_r3 F) [2, 3]) .ret) .skip))) (.seq (.reg (c_graph_Components_r4 F) [1, 5]) (.seq (.seq (.reg (c_graph_Components_r5 F) [1, 5, 6]) (.block 0 (.loop [1, 5, 6] (c_graph_Components_b16 F)))) (.seq (.reg (c_graph_Components_r17 F) [1, 5, 10]) (.seq (.seq (.reg (c_graph_Components_r18 F) [1, 5, 10, 73, 74, 75]) (.block 4 (.loop [1, 5, 10, 73, 74, 75] (c_graph_Components_b39 F)))) (.seq (.reg (c_graph_Components_r40 F) [2, 3]) .ret)))))))
def h_graph_Components : Hints := ⟨[], fun _ => [], tab [(0, [1]), (1, [1, 4]), (2, [1, 4, 21]), (3, [2, 3]), (4, [1, 5]), (5, [1, 5, 6]), (6, [1, 5, 27]), (7, [1, 5, 6]), (8, [1, 5, 6, 29, 30, 31]), (9, [1, 5, 6, 29, 30, 31, 32]), (10, [1, 5, 6, 8, 29, 30, 31]), (11, [1, 5, 6, 8, 9, 29, 30, 31]), (12, [1, 5, 6, 8, 9, 29, 30, 31, 61]), (13, [1, 5, 6, 29, 30, 31]), (14, [1, 5, 6, 29, 30, 31]), (15, [1, 5, 10]), (16, [1, 5, 10, 73, 74, 75]), (17, [1, 5, 10, 73, 74, 75, 76]), (18, [1, 5, 10, 11, 12, 73, 74, 75]), (19, [1, 5, 10, 11, 73, 74, 75, 82]), (20, [1, 5, 10, 11, 13, 73, 74, 75]), (21, [1, 5, 10, 11, 13, 73, 74, 75, 83, 84, 85]), (22, [1, 5, 10, 11, 13, 73, 74, 75, 83, 84, 85, 86]), (23, [1, 5, 10, 11, 13, 14, 15, 73, 74, 75, 83, 84, 85]), (24, [1, 5, 10, 11, 13, 14, 73, 74, 75, 83, 84, 85, 92]), (25, [1, 5, 10, 11, 13, 73, 74, 75, 83, 84, 85]), (26, [1, 5, 10, 11, 13, 73, 74, 75, 83, 84, 85]), (27, [1, 5, 10, 11, 13, 73, 74, 75, 101, 102, 103]), (28, [1, 5, 10, 11, 13, 73, 74, 75, 101, 102, 103, 104]), (29, [1, 5, 10, 11, 13, 16, 17, 73, 74, 75, 101, 102, 103]), (30, [1, 5, 10, 11, 13, 16, 73, 74, 75, 101, 102, 103, 114]), (31, [1, 5, 10, 11, 13, 73, 74, 75, 101, 102, 103]), (32, [1, 5, 10, 11, 13, 73, 74, 75, 101, 102, 103]), (33, [1, 5, 10, 73, 74, 75]), (34, [1, 5, 10, 73, 74, 75]), (35, [2, 3])], tab [(6, [1, 5, 6]), (9, [1, 5, 6, 29, 30, 31]), (17, [1, 5, 10, 73, 74, 75]), (22, [1, 5, 10, 11, 13, 73, 74, 75, 83, 84, 85]), (28, [1, 5, 10, 11, 13, 73, 74, 75, 101, 102, 103])]⟩

attribute [go_sem] c_graph_Components_r0 c_graph_Components_r1 c_graph_Components_r2 c_graph_Components_r3 c_graph_Components_r4 c_graph_Components_r5 c_graph_Components_r6 c_graph_Components_r7 c_graph_Components_r8 c_graph_Components_r9 c_graph_Components_r10 c_graph_Components_r11 c_graph_Components_r12 c_graph_Components_r13 c_graph_Components_r14 c_graph_Components_r17 c_graph_Components_r18 c_graph_Components_r19 c_graph_Components_r20 c_graph_Components_r21 c_graph_Components_r22 c_graph_Components_r23 c_graph_Components_r24 c_graph_Components_r25 c_graph_Components_r26 c_graph_Components_r27 c_graph_Components_r28 c_graph_Components_r30 c_graph_Components_r31 c_graph_Components_r32 c_graph_Components_r33 c_graph_Components_r34 c_graph_Components_r35 c_graph_Components_r37 c_graph_Components_r38 c_graph_Components_r40 c_graph_Components
def mn2 (a b : Int) : Int := if b < a then b else a
/-- One edge: both ends get the lesser number. -/
def stepC (l : List Int) (x : E) : List Int := (l.set x.f.toNat (mn2 (gt l x.f) (gt l x.o))).set x.o.toNat (mn2 (gt l x.f) (gt l x.o))
def passC (es : List E) (l : List Int) : List Int := es.foldl stepC l
def sumN (l : List Int) : Nat := (l.map Int.toNat).sum
def limK (es : List E) : Nat → List Int → List Int
  | 0, l => l
  | k + 1, l => if passC es l = l then l else limK es k (passC es l)
def limC (es : List E) (l : List Int) : List Int := limK es (sumN l + 1) l
/-- The numbers below `n` that meet a condition. -/
def idxs (p : Nat → Bool) : Nat → List Int
  | 0 => []
  | n + 1 => if p n then idxs p n ++ [(n : Int)] else idxs p n
def partC (es : List E) (l : List Int) (i : Nat) : Mo := ⟨idxs (fun n => decide (gt l n = (i : Int))) l.length, idxs (fun m => decide (gt l (gt es m).f = (i : Int))) es.length⟩
def partsC (es : List E) (l : List Int) : Nat → List Mo
  | 0 => []
  | i + 1 => if gt l i = (i : Int) then partsC es l i ++ [partC es l i] else partsC es l i
def compsG (g : G) : List Mo × Int := if validG g ≠ 0 then ([], validG g) else (partsC g.e (limC g.e (nums 0 g.n.length)) g.n.length, 0)
section
variable (P : Program) (F : String → Nat)
def K_graph_Components : Prop := ∀ g : G, FC P (F "graph.Components") [gD g] (.tup [.arr 2 (pts (compsG g).1), .int .i64 (compsG g).2]) []
end
section
variable {P : Program} {F : String → Nat} {α : Type}
theorem stepC_len (l : List Int) (x : E) : (stepC l x).length = l.length := by simp [stepC]
theorem foldC_len (es : List E) (l : List Int) : (es.foldl stepC l).length = l.length := by
  induction es generalizing l with
  | nil => rfl
  | cons x es ih => rw [List.foldl_cons, ih, stepC_len]
/-- All entries are at least 0. -/
def NN0 (l : List Int) : Prop := ∀ i : Nat, 0 ≤ gt l (i : Int)
theorem gt_toNat [Inhabited α] (l : List α) (x : Int) : gt l ((x.toNat : Nat) : Int) = gt l x := by simp only [gt, Int.toNat_natCast]
theorem gt_set {l : List Int} {i : Nat} {v : Int} (j : Nat) : gt (l.set i v) (j : Int) = if j = i ∧ i < l.length then v else gt l (j : Int) := by
  simp only [gt, Int.toNat_natCast, List.getD_eq_getElem?_getD, List.getElem?_set]
  by_cases h : j = i
  · subst h
    by_cases h2 : j < l.length <;> simp [h2]
  · rw [if_neg (Ne.symm h), if_neg (fun e => h e.1)]
theorem sum_set_le (l : List Int) (i : Nat) (v : Int) (h0 : 0 ≤ v) (hv : v ≤ gt l (i : Int)) : sumN (l.set i v) ≤ sumN l ∧ (sumN (l.set i v) = sumN l → l.set i v = l) := by
  induction l generalizing i with
  | nil => simp [sumN]
  | cons a l ih =>
    cases i with
    | zero =>
      have hv' : v ≤ a := by simpa [gt] using hv
      simp only [List.set_cons_zero, sumN, List.map_cons, List.sum_cons]
      refine ⟨by omega, fun h => ?_⟩
      have : v = a := by omega
      rw [this]
    | succ i =>
      have hv' : v ≤ gt l (i : Int) := by simpa [gt] using hv
      obtain ⟨h1, h2⟩ := ih i hv'
      simp only [List.set_cons_succ, sumN, List.map_cons, List.sum_cons] at h1 h2 ⊢
      refine ⟨by omega, fun h => ?_⟩
      rw [h2 (by omega)]
theorem mn2_spec (a b : Int) : mn2 a b ≤ a ∧ mn2 a b ≤ b ∧ (mn2 a b = a ∨ mn2 a b = b) := by unfold mn2; split <;> omega
theorem stepC_nn {l : List Int} (h : NN0 l) (x : E) : NN0 (stepC l x) := by
  intro j
  have h1 : 0 ≤ gt l x.f := by have := h x.f.toNat; rwa [gt_toNat] at this
  have h2 : 0 ≤ gt l x.o := by have := h x.o.toNat; rwa [gt_toNat] at this
  have h3 := mn2_spec (gt l x.f) (gt l x.o)
  simp only [stepC, gt_set]
  split
  · omega
  · split
    · omega
    · exact h j
theorem stepC_sum {l : List Int} (h : NN0 l) (x : E) : sumN (stepC l x) ≤ sumN l ∧ (sumN (stepC l x) = sumN l → stepC l x = l) := by
  have h1 : 0 ≤ gt l x.f := by have := h x.f.toNat; rwa [gt_toNat] at this
  have h2 : 0 ≤ gt l x.o := by have := h x.o.toNat; rwa [gt_toNat] at this
  have e1 : gt l ((x.f.toNat : Nat) : Int) = gt l x.f := gt_toNat _ _
  have e2 : gt l ((x.o.toNat : Nat) : Int) = gt l x.o := gt_toNat _ _
  have h3 := mn2_spec (gt l x.f) (gt l x.o)
  obtain ⟨a1, a2⟩ := sum_set_le l x.f.toNat (mn2 (gt l x.f) (gt l x.o)) (by omega) (by rw [e1]; omega)
  obtain ⟨b1, b2⟩ := sum_set_le (l.set x.f.toNat (mn2 (gt l x.f) (gt l x.o))) x.o.toNat (mn2 (gt l x.f) (gt l x.o)) (by omega) (by rw [gt_set]; split <;> omega)
  refine ⟨Nat.le_trans b1 a1, fun e => ?_⟩
  unfold stepC at e ⊢
  have e3 := a2 (by omega)
  rw [e3] at b2 e ⊢
  exact b2 e
theorem foldC_sum (es : List E) {l : List Int} (h : NN0 l) : NN0 (es.foldl stepC l) ∧ sumN (es.foldl stepC l) ≤ sumN l ∧ (sumN (es.foldl stepC l) = sumN l → es.foldl stepC l = l) := by
  induction es generalizing l with
  | nil => exact ⟨h, Nat.le_refl _, fun _ => rfl⟩
  | cons x es ih =>
    obtain ⟨a, b, c⟩ := ih (stepC_nn h x)
    obtain ⟨d, e⟩ := stepC_sum h x
    rw [List.foldl_cons]
    refine ⟨a, Nat.le_trans b d, fun hs => ?_⟩
    rw [c (by omega)]
    exact e (by rw [c (by omega)] at hs; exact hs)
theorem limK_more {es : List E} {l : List Int} (h : NN0 l) : ∀ k k', sumN l < k → sumN l < k' → limK es k l = limK es k' l := by
  intro k
  induction k generalizing l with
  | zero => intro k' h1; omega
  | succ k ih =>
    intro k' h1 h2
    cases k' with
    | zero => omega
    | succ k' =>
      simp only [limK]
      split
      · rfl
      · rename_i hne
        obtain ⟨a, b, c⟩ := foldC_sum es h
        change sumN (passC es l) ≤ sumN l at b
        change NN0 (passC es l) at a
        have : sumN (passC es l) < sumN l := Nat.lt_of_le_of_ne b (fun e => hne (c e))
        exact ih a k' (by omega) (by omega)
theorem limC_eq {es : List E} {l : List Int} (h : NN0 l) : limC es l = if passC es l = l then l else limC es (passC es l) := by
  conv => lhs; unfold limC
  simp only [limK]
  split
  · rfl
  · rename_i hne
    obtain ⟨a, b, c⟩ := foldC_sum es h
    change sumN (passC es l) ≤ sumN l at b
    change NN0 (passC es l) at a
    have : sumN (passC es l) < sumN l := Nat.lt_of_le_of_ne b (fun e => hne (c e))
    exact limK_more a _ _ (by omega) (by omega)
theorem set_gt {l : List Int} {i : Nat} : l.set i (gt l (i : Int)) = l := by
  apply List.ext_getElem?
  intro j
  rw [List.getElem?_set]
  split
  · rename_i h
    subst h
    split
    · rename_i h2; rw [gt_nat h2]; simp [h2]
    · rename_i h2; simp [h2]
  · rfl
/-- A step that changes nothing; a step that changes something. -/
theorem stepC_same {l : List Int} {x : E} (h1 : gt l x.f = mn2 (gt l x.f) (gt l x.o)) (h2 : gt l x.o = mn2 (gt l x.f) (gt l x.o)) : stepC l x = l := by
  unfold stepC
  rw [← h1]
  conv => lhs; arg 1; rw [← gt_toNat l x.f, set_gt]
  rw [h1, ← h2, ← gt_toNat l x.o, set_gt]
theorem stepC_diff {l : List Int} {x : E} (hf : 0 ≤ x.f ∧ x.f < l.length) (ho : 0 ≤ x.o ∧ x.o < l.length) (h : ¬ (gt l x.f = mn2 (gt l x.f) (gt l x.o) ∧ gt l x.o = mn2 (gt l x.f) (gt l x.o))) : stepC l x ≠ l := by
  intro e
  apply h
  have e1 : gt (stepC l x) ((x.o.toNat : Nat) : Int) = mn2 (gt l x.f) (gt l x.o) := by
    simp only [stepC, gt_set]
    rw [if_pos ⟨by trivial, by simp; omega⟩]
  have e2 : gt (stepC l x) ((x.f.toNat : Nat) : Int) = mn2 (gt l x.f) (gt l x.o) := by
    simp only [stepC, gt_set]
    split
    · rfl
    · rw [if_pos ⟨by trivial, by omega⟩]
  rw [e, gt_toNat] at e1 e2
  exact ⟨e2, e1⟩
/-- From the first change on the list is another one. -/
theorem fold_diff {es : List E} {l : List Int} (h : NN0 l) {x : E} : (es.foldl stepC l ≠ l ∨ stepC (es.foldl stepC l) x ≠ es.foldl stepC l) → stepC (es.foldl stepC l) x ≠ l := by
  intro hd e
  obtain ⟨a, b, c⟩ := foldC_sum es h
  obtain ⟨d, f⟩ := stepC_sum a x
  rw [e] at d f
  have hs : sumN l = sumN (es.foldl stepC l) := by omega
  rcases hd with hd | hd
  · exact hd (c hs.symm)
  · apply hd; rw [e]; exact f hs
theorem idxs_len (p : Nat → Bool) : ∀ n, (idxs p n).length ≤ n
  | 0 => by simp [idxs]
  | n + 1 => by have := idxs_len p n; simp only [idxs]; split <;> simp <;> omega
theorem partsC_len (es : List E) (l : List Int) : ∀ i, (partsC es l i).length ≤ i
  | 0 => by simp [partsC]
  | i + 1 => by have := partsC_len es l i; simp only [partsC]; split <;> simp <;> omega
theorem w_graph_Components (hv : K_graph_Valid P F) (hn : K_graph_numbers P F) (g : G) : W P (c_graph_Components F) (Done [.t 2, .t 3] [] (.tup [.arr 2 (pts (compsG g).1), .int .i64 (compsG g).2]) []) (init [gD g]) := by
  refine W_of ?_
  obtain ⟨gn, ge⟩ := g
  simp (config := { maxSteps := 1000000 }) (disch := first | omega | (simp only [go_sem]; omega)) only [go_sem, ↓reduceIte, gD]
  refine call_by (hv ⟨gn, ge⟩) ?_
  simp (config := { maxSteps := 1000000 }) (disch := first | omega | (simp only [go_sem]; omega)) only [go_sem, ↓reduceIte]
  refine bran_ndec (fun c1 => ?_) (fun c1 => ?_)
  · simp (config := { maxSteps := 1000000 }) (disch := first | omega | (simp only [go_sem]; omega)) only [go_sem, ↓reduceIte]
    simp [compsG, c1, pts]
  · obtain ⟨v1, v2, v3, v4⟩ := valid_spec c1
    simp only at v1 v2 v3 v4
    have hc : compsG ⟨gn, ge⟩ = (partsC ge (limC ge (nums 0 gn.length)) gn.length, 0) := by simp [compsG, c1]
    rw [hc]
    have e1 := nums_len 0 gn.length
    simp (config := { maxSteps := 1000000 }) (disch := first | omega | (simp only [go_sem]; omega)) only [go_sem, ↓reduceIte]
    refine call_by (hn _ _ (by omega) (by omega) (by omega)) ?_
    simp (config := { maxSteps := 1000000 }) (disch := first | omega | (simp only [go_sem]; omega)) only [go_sem, ↓reduceIte, e1]
    refine W_loop (fun p : List Int × Bool => ⟨[(1, .pt 0 0), (5, .sl 1 0 gn.length), (6, .bool p.2)], [(0, .box [.lst 1 (ints gn), .lst 3 (eds ge)]), (1, .arr 1 (ints p.1))], 2⟩)
      (fun p => p.1.length = gn.length ∧ NN0 p.1 ∧ limC ge (nums 0 gn.length) = limC ge p.1 ∧ (p.2 = false → passC ge p.1 = p.1)) (fun p => 2 * sumN p.1 + (if p.2 then 1 else 0)) (nums 0 gn.length, true) ?_ ?_ ?_
    · simp (config := { maxSteps := 1000000 }) (disch := first | omega | (simp only [go_sem]; omega)) only [go_sem, ↓reduceIte, e1]
    · refine ⟨e1, fun i => ?_, rfl, by simp⟩
      by_cases h : i < gn.length
      · rw [gt_nat (by rw [e1]; exact h)]; simp [nums]
      · simp [gt, e1, h]
    · rintro ⟨l, ch⟩ ⟨q1, q2, q3, q4⟩
      simp only at q1 q2 q3 q4
      simp (config := { maxSteps := 1000000 }) (disch := first | omega | (simp only [go_sem]; omega)) only [go_sem, ↓reduceIte, c_graph_Components_b16]
      refine bran_by (fun hch => ?_) (fun hch => ?_)
      · simp (config := { maxSteps := 1000000 }) (disch := first | omega | (simp only [go_sem]; omega)) only [go_sem, ↓reduceIte]
        have hlen : ∀ i, ((ge.take i).foldl stepC l).length = gn.length := fun i => by rw [foldC_len, q1]
        refine W_loop (fun i : Nat => ⟨[(1, .pt 0 0), (5, .sl 1 0 gn.length), (6, .bool (decide ((ge.take i).foldl stepC l ≠ l))), (29, .lst 3 (eds ge)), (30, .int .i64 ge.length), (31, .int .i64 i)], [(0, .box [.lst 1 (ints gn), .lst 3 (eds ge)]), (1, .arr 1 (ints ((ge.take i).foldl stepC l)))], 2⟩)
          (fun i => i ≤ ge.length) (fun i => ge.length - i) 0 ?_ ?_ ?_
        · simp (config := { maxSteps := 1000000 }) (disch := first | omega | (simp only [go_sem]; omega)) only [go_sem, ↓reduceIte, q1]
          simp
        · omega
        · intro i hi
          have hli := hlen i
          have hli2 := hlen (i + 1)
          simp (config := { maxSteps := 1000000 }) (disch := first | omega | (simp only [go_sem]; omega)) only [go_sem, ↓reduceIte, c_graph_Components_b15]
          refine bran_dec (fun c => ?_) (fun c => ?_)
          · have hf := fits_spec (v4 _ (gt_mem (by omega) c))
            have hst := take_gt (l := ge) (i := i) (by omega)
            have hfold : (ge.take (i + 1)).foldl stepC l = stepC ((ge.take i).foldl stepC l) (gt ge i) := by rw [hst, List.foldl_append]; rfl
            have hmn : ∀ a b : Int, (if b < a then b else a) = mn2 a b := fun _ _ => rfl
            have hd := fold_diff (es := ge.take i) q2 (x := gt ge i)
            have fin : ∀ b : Bool, b = decide (stepC ((ge.take i).foldl stepC l) (gt ge i) ≠ l) → True := fun _ _ => trivial
            simp (config := { maxSteps := 1000000 }) (disch := first | omega | (simp only [go_sem]; omega)) only [go_sem, ↓reduceIte, hli, hmn]
            refine bran_ndec (fun d => ?_) (fun d => ?_)
            · simp (config := { maxSteps := 1000000 }) (disch := first | omega | (simp only [go_sem]; omega)) only [go_sem, ↓reduceIte, hli, d, hmn]
              refine ⟨i + 1, ?_, by omega, by omega⟩
              rw [hfold]
              have hne := hd (.inr (stepC_diff ⟨by omega, by omega⟩ ⟨by omega, by omega⟩ (fun e => d e.1)))
              simp only [stepC] at hne
              simp [stepC, hne]
            · have d' := decide_eq_true d
              simp (config := { maxSteps := 1000000 }) (disch := first | omega | (simp only [go_sem]; omega)) only [go_sem, ↓reduceIte, hli, d', hmn]
              refine bran_ndec (fun d2 => ?_) (fun d2 => ?_)
              · simp (config := { maxSteps := 1000000 }) (disch := first | omega | (simp only [go_sem]; omega)) only [go_sem, ↓reduceIte, hli, hmn]
                refine ⟨i + 1, ?_, by omega, by omega⟩
                rw [hfold]
                have hne := hd (.inr (stepC_diff ⟨by omega, by omega⟩ ⟨by omega, by omega⟩ (fun e => d2 e.2)))
                simp only [stepC] at hne
                simp [stepC, hne]
              · simp (config := { maxSteps := 1000000 }) (disch := first | omega | (simp only [go_sem]; omega)) only [go_sem, ↓reduceIte, hli, hmn]
                refine ⟨i + 1, ?_, by omega, by omega⟩
                rw [hfold, stepC_same d d2]
                simp
          · obtain rfl : i = ge.length := by omega
            obtain ⟨s1, s2, s3⟩ := foldC_sum ge q2
            simp (config := { maxSteps := 1000000 }) (disch := first | omega | (simp only [go_sem]; omega)) only [go_sem, ↓reduceIte, hli, hch]
            refine ⟨(ge.foldl stepC l, decide (ge.foldl stepC l ≠ l)), rfl, ⟨by simp only; rw [foldC_len, q1], s1, ?_, ?_⟩, ?_⟩
            · simp only
              rw [q3, limC_eq q2]
              split
              · rename_i h; unfold passC at h; rw [h, limC_eq q2, if_pos (show passC ge l = l from h)]
              · rfl
            · intro h
              have h : ge.foldl stepC l = l := by simpa using h
              unfold passC
              rw [h, h]
            · simp only [decide_eq_true_eq]
              split
              · rename_i h
                have : sumN (ge.foldl stepC l) < sumN l := Nat.lt_of_le_of_ne s2 (fun e => h (s3 e))
                omega
              · omega
      · have hfx := q4 hch
        have hlim : limC ge (nums 0 gn.length) = l := by rw [q3, limC_eq q2, if_pos hfx]
        rw [hlim]
        have hb := idxs_len
        have hpl := partsC_len ge l
        simp (config := { maxSteps := 1000000 }) (disch := first | omega | (simp only [go_sem]; omega)) only [go_sem, ↓reduceIte]
        refine W_loop (fun i : Nat => ⟨[(1, .pt 0 0), (5, .sl 1 0 gn.length), (10, .sl 2 0 (partsC ge l i).length), (73, .sl 1 0 gn.length), (74, .int .i64 gn.length), (75, .int .i64 i)],
          [(0, .box [.lst 1 (ints gn), .lst 3 (eds ge)]), (1, .arr 1 (ints l)), (2, .arr 2 (pts (partsC ge l i)))], 3⟩) (fun i => i ≤ gn.length) (fun i => gn.length - i) 0 ?_ ?_ ?_
        · simp (config := { maxSteps := 1000000 }) (disch := first | omega | (simp only [go_sem]; omega)) only [go_sem, ↓reduceIte, q1]
          rfl
        · omega
        · intro i hi
          have hpi := hpl i
          simp (config := { maxSteps := 1000000 }) (disch := first | omega | (simp only [go_sem]; omega)) only [go_sem, ↓reduceIte, c_graph_Components_b39]
          refine bran_dec (fun c => ?_) (fun c => ?_)
          · simp (config := { maxSteps := 1000000 }) (disch := first | omega | (simp only [go_sem]; omega)) only [go_sem, ↓reduceIte, q1]
            refine bran_ndec (fun d => ?_) (fun d => ?_)
            · simp (config := { maxSteps := 1000000 }) (disch := first | omega | (simp only [go_sem]; omega)) only [go_sem, ↓reduceIte, q1]
              exact ⟨i + 1, by simp [partsC, Ne.symm d], by omega, by omega⟩
            · simp (config := { maxSteps := 1000000 }) (disch := first | omega | (simp only [go_sem]; omega)) only [go_sem, ↓reduceIte, q1]
              refine W_loop (fun m : Nat => ⟨[(1, .pt 0 0), (5, .sl 1 0 gn.length), (10, .sl 2 0 (partsC ge l i).length), (11, .int .i64 i), (13, .pt 5 0), (73, .sl 1 0 gn.length), (74, .int .i64 gn.length), (75, .int .i64 i), (83, .sl 1 0 gn.length), (84, .int .i64 gn.length), (85, .int .i64 m)],
                [(0, .box [.lst 1 (ints gn), .lst 3 (eds ge)]), (1, .arr 1 (ints l)), (2, .arr 2 (pts (partsC ge l i))), (3, .arr 1 (ints (idxs (fun n => decide (gt l n = (i : Int))) m))), (4, .arr 1 []), (5, .box [.sl 3 0 (idxs (fun n => decide (gt l n = (i : Int))) m).length, .sl 4 0 0])], 6⟩) (fun m => m ≤ gn.length) (fun m => gn.length - m) 0 ?_ ?_ ?_
              · simp (config := { maxSteps := 1000000 }) (disch := first | omega | (simp only [go_sem]; omega)) only [go_sem, ↓reduceIte, q1, idxs, ints_nil]
                rfl
              · omega
              · intro m hm
                have hbm := hb (fun n => decide (gt l n = (i : Int))) m
                simp (config := { maxSteps := 1000000 }) (disch := first | omega | (simp only [go_sem]; omega)) only [go_sem, ↓reduceIte, c_graph_Components_b29]
                refine bran_dec (fun e => ?_) (fun e => ?_)
                · simp (config := { maxSteps := 1000000 }) (disch := first | omega | (simp only [go_sem]; omega)) only [go_sem, ↓reduceIte, q1]
                  refine bran_dec (fun f => ?_) (fun f => ?_)
                  · simp (config := { maxSteps := 1000000 }) (disch := first | omega | (simp only [go_sem]; omega)) only [go_sem, ↓reduceIte, q1]
                    exact ⟨m + 1, by simp [idxs, f], by omega, by omega⟩
                  · simp (config := { maxSteps := 1000000 }) (disch := first | omega | (simp only [go_sem]; omega)) only [go_sem, ↓reduceIte, q1]
                    exact ⟨m + 1, by simp [idxs, f], by omega, by omega⟩
                · obtain rfl : m = gn.length := by omega
                  simp (config := { maxSteps := 1000000 }) (disch := first | omega | (simp only [go_sem]; omega)) only [go_sem, ↓reduceIte, q1]
                  refine W_loop (fun k : Nat => ⟨[(1, .pt 0 0), (5, .sl 1 0 gn.length), (10, .sl 2 0 (partsC ge l i).length), (11, .int .i64 i), (13, .pt 5 0), (73, .sl 1 0 gn.length), (74, .int .i64 gn.length), (75, .int .i64 i), (101, .lst 3 (eds ge)), (102, .int .i64 ge.length), (103, .int .i64 k)],
                    [(0, .box [.lst 1 (ints gn), .lst 3 (eds ge)]), (1, .arr 1 (ints l)), (2, .arr 2 (pts (partsC ge l i))), (3, .arr 1 (ints (idxs (fun n => decide (gt l n = (i : Int))) gn.length))), (4, .arr 1 (ints (idxs (fun m => decide (gt l (gt ge m).f = (i : Int))) k))),
                     (5, .box [.sl 3 0 (idxs (fun n => decide (gt l n = (i : Int))) gn.length).length, .sl 4 0 (idxs (fun m => decide (gt l (gt ge m).f = (i : Int))) k).length])], 6⟩) (fun k => k ≤ ge.length) (fun k => ge.length - k) 0 ?_ ?_ ?_
                  · simp (config := { maxSteps := 1000000 }) (disch := first | omega | (simp only [go_sem]; omega)) only [go_sem, ↓reduceIte, q1, idxs, ints_nil]
                    rfl
                  · omega
                  · intro k hk
                    have hbk := hb (fun m => decide (gt l (gt ge m).f = (i : Int))) k
                    simp (config := { maxSteps := 1000000 }) (disch := first | omega | (simp only [go_sem]; omega)) only [go_sem, ↓reduceIte, c_graph_Components_b36]
                    refine bran_dec (fun e => ?_) (fun e => ?_)
                    · have hf := fits_spec (v4 _ (gt_mem (by omega) e))
                      simp (config := { maxSteps := 1000000 }) (disch := first | omega | (simp only [go_sem]; omega)) only [go_sem, ↓reduceIte, q1]
                      refine bran_dec (fun f => ?_) (fun f => ?_)
                      · simp (config := { maxSteps := 1000000 }) (disch := first | omega | (simp only [go_sem]; omega)) only [go_sem, ↓reduceIte, q1]
                        exact ⟨k + 1, by simp [idxs, f], by omega, by omega⟩
                      · simp (config := { maxSteps := 1000000 }) (disch := first | omega | (simp only [go_sem]; omega)) only [go_sem, ↓reduceIte, q1]
                        exact ⟨k + 1, by simp [idxs, f], by omega, by omega⟩
                    · obtain rfl : k = ge.length := by omega
                      simp (config := { maxSteps := 1000000 }) (disch := first | omega | (simp only [go_sem]; omega)) only [go_sem, ↓reduceIte, q1]
                      exact ⟨i + 1, by simp [partsC, ← d, partC, q1], by omega, by omega⟩
          · obtain rfl : i = gn.length := by omega
            simp (config := { maxSteps := 1000000 }) (disch := first | omega | (simp only [go_sem]; omega)) only [go_sem, ↓reduceIte, q1]
end
end Go.Am
