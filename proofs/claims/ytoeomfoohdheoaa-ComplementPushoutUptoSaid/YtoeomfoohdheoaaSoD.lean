/- Quotients of graphs: the program's and the reference's functions; coequalizers. -/
import Derived.Test.YtoeomfoohdheoaaSoPa
import Derived.Test.YtoeomfoohdheoaaSoC
namespace Go.Am
open Go
set_option linter.unusedVariables false
set_option linter.unusedSimpArgs false
attribute [local irreducible] W
/- pushout.quotient -/
def c_pushout_quotient_r0 (F : String → Nat) : List LI := [⟨some 3, .bx (.t 0), none⟩,
  ⟨some 6, .alloc [.nl 1, .nl 3], none⟩,
  ⟨some 7, .alloc [.nl 1, .nl 1], none⟩,
  ⟨some 8, .mov (.k (.int .i64 (0))), none⟩]
def c_pushout_quotient_r1 (F : String → Nat) : List LI := [⟨some 25, .fad 0 (.t 3), none⟩,
  ⟨some 26, .load false 1 (.t 25), none⟩,
  ⟨some 27, .len (.t 26), none⟩,
  ⟨some 28, .mov (.t 1), none⟩,
  ⟨some 29, .call (F "partition.Generate") [.t 27, .t 28] [], none⟩,
  ⟨some 24, .mov (.t 29), none⟩,
  ⟨some 30, .ext (.t 24) 0, none⟩,
  ⟨some 31, .ext (.t 24) 1, none⟩,
  ⟨some 9, .mov (.t 30), none⟩,
  ⟨some 10, .mov (.t 31), none⟩]
def c_pushout_quotient_r2 (F : String → Nat) : List LI := [⟨some 32, .mov (.t 10), none⟩,
  ⟨some 33, .bin .neq (.t 32) (.k (.int .i64 (0))), none⟩]
def c_pushout_quotient_r3 (F : String → Nat) : List LI := [⟨some 34, .build [.nl 1, .nl 3] [], none⟩,
  ⟨some 35, .build [.nl 1, .nl 1] [], none⟩,
  ⟨some 36, .mov (.t 10), none⟩,
  ⟨none, .store 2 (.t 6) (.t 34), none⟩,
  ⟨none, .store 2 (.t 7) (.t 35), none⟩,
  ⟨some 8, .mov (.t 36), none⟩]
def c_pushout_quotient_r4 (F : String → Nat) : List LI := [⟨some 38, .fad 1 (.t 3), none⟩,
  ⟨some 39, .load false 1 (.t 38), none⟩,
  ⟨some 40, .len (.t 39), none⟩,
  ⟨some 41, .mov (.t 2), none⟩,
  ⟨some 42, .call (F "partition.Generate") [.t 40, .t 41] [], none⟩,
  ⟨some 37, .mov (.t 42), none⟩,
  ⟨some 43, .ext (.t 37) 0, none⟩,
  ⟨some 44, .ext (.t 37) 1, none⟩,
  ⟨some 11, .mov (.t 43), none⟩,
  ⟨some 10, .mov (.t 44), none⟩]
def c_pushout_quotient_r5 (F : String → Nat) : List LI := [⟨some 45, .mov (.t 10), none⟩,
  ⟨some 46, .bin .neq (.t 45) (.k (.int .i64 (0))), none⟩]
def c_pushout_quotient_r6 (F : String → Nat) : List LI := [⟨some 47, .build [.nl 1, .nl 3] [], none⟩,
  ⟨some 48, .build [.nl 1, .nl 1] [], none⟩,
  ⟨some 49, .mov (.t 10), none⟩,
  ⟨none, .store 2 (.t 6) (.t 47), none⟩,
  ⟨none, .store 2 (.t 7) (.t 48), none⟩,
  ⟨some 8, .mov (.t 49), none⟩]
def c_pushout_quotient_r7 (F : String → Nat) : List LI := [⟨some 51, .mov (.t 9), none⟩,
  ⟨some 52, .call (F "partition.Quotient") [.t 51] [], none⟩,
  ⟨some 50, .mov (.t 52), none⟩,
  ⟨some 53, .ext (.t 50) 0, none⟩,
  ⟨some 54, .ext (.t 50) 1, none⟩,
  ⟨some 55, .ext (.t 50) 2, none⟩,
  ⟨some 12, .mov (.t 53), none⟩,
  ⟨some 13, .mov (.t 54), none⟩,
  ⟨some 14, .mov (.t 55), none⟩]
def c_pushout_quotient_r8 (F : String → Nat) : List LI := [⟨some 57, .mov (.t 11), none⟩,
  ⟨some 58, .call (F "partition.Quotient") [.t 57] [], none⟩,
  ⟨some 56, .mov (.t 58), none⟩,
  ⟨some 59, .ext (.t 56) 0, none⟩,
  ⟨some 60, .ext (.t 56) 1, none⟩,
  ⟨some 61, .ext (.t 56) 2, none⟩,
  ⟨some 15, .mov (.t 59), none⟩,
  ⟨some 16, .mov (.t 60), none⟩,
  ⟨some 17, .mov (.t 61), none⟩]
def c_pushout_quotient_r9 (F : String → Nat) : List LI := [⟨some 18, .alloc [.nl 1, .nl 3], none⟩]
def c_pushout_quotient_r10 (F : String → Nat) : List LI := [⟨some 62, .mov (.t 9), none⟩,
  ⟨some 63, .len (.t 62), none⟩,
  ⟨some 64, .mov (.k (.int .i64 (0))), none⟩]
def c_pushout_quotient_r11 (F : String → Nat) : List LI := [⟨some 65, .bin .lss (.t 64) (.t 63), none⟩]
def c_pushout_quotient_r12 (F : String → Nat) : List LI := [⟨some 66, .mov (.t 64), none⟩,
  ⟨some 67, .iad 1 (.t 62) (.t 64), none⟩,
  ⟨some 68, .load false 1 (.t 67), none⟩,
  ⟨some 19, .mov (.t 66), none⟩,
  ⟨some 20, .mov (.t 68), none⟩]
def c_pushout_quotient_r13 (F : String → Nat) : List LI := [⟨some 69, .mov (.t 20), none⟩,
  ⟨some 70, .mov (.t 19), none⟩,
  ⟨some 71, .bin .eql (.t 69) (.t 70), none⟩]
def c_pushout_quotient_r14 (F : String → Nat) : List LI := [⟨some 72, .fad 0 (.t 18), none⟩,
  ⟨some 73, .load false 1 (.t 72), none⟩,
  ⟨some 74, .fad 0 (.t 3), none⟩,
  ⟨some 75, .load false 1 (.t 74), none⟩,
  ⟨some 76, .mov (.t 19), none⟩,
  ⟨some 77, .iad 1 (.t 75) (.t 76), none⟩,
  ⟨some 78, .load false 1 (.t 77), none⟩,
  ⟨some 79, .buildSl 1 8 (.int .i64 (0)) 1 [(0, .t 78)], none⟩,
  ⟨some 80, .app 1 8 (.t 73) (.t 79), none⟩,
  ⟨some 81, .fad 0 (.t 18), none⟩,
  ⟨none, .store 1 (.t 81) (.t 80), none⟩]
def c_pushout_quotient_r15 (F : String → Nat) : List LI := [⟨some 82, .bin .add (.t 64) (.k (.int .i64 (1))), none⟩,
  ⟨some 64, .mov (.t 82), none⟩]
def c_pushout_quotient_b16 (F : String → Nat) : LC := (.seq (.reg (c_pushout_quotient_r11 F) [3, 6, 7, 11, 12, 15, 18, 62, 63, 64, 65]) (.seq (.cond (.t 65) .skip (.exit 0)) (.seq (.block 1 (.seq (.reg (c_pushout_quotient_r12 F) [3, 6, 7, 11, 12, 15, 18, 19, 20, 62, 63, 64]) (.seq (.reg (c_pushout_quotient_r13 F) [3, 6, 7, 11, 12, 15, 18, 19, 62, 63, 64, 71]) (.cond (.t 71) (.dreg [(1, none, [], true), (7, none, [1], false)] (c_pushout_quotient_r14 F) [3, 6, 7, 11, 12, 15, 18, 62, 63, 64]) .skip)))) (.reg (c_pushout_quotient_r15 F) [3, 6, 7, 11, 12, 15, 18, 62, 63, 64]))))
def c_pushout_quotient_r17 (F : String → Nat) : List LI := [⟨some 83, .mov (.t 11), none⟩,
  ⟨some 84, .len (.t 83), none⟩,
  ⟨some 85, .mov (.k (.int .i64 (0))), none⟩]
def c_pushout_quotient_r18 (F : String → Nat) : List LI := [⟨some 86, .bin .lss (.t 85) (.t 84), none⟩]
def c_pushout_quotient_r19 (F : String → Nat) : List LI := [⟨some 87, .mov (.t 85), none⟩,
  ⟨some 88, .iad 1 (.t 83) (.t 85), none⟩,
  ⟨some 89, .load false 1 (.t 88), none⟩,
  ⟨some 21, .mov (.t 87), none⟩,
  ⟨some 22, .mov (.t 89), none⟩]
def c_pushout_quotient_r20 (F : String → Nat) : List LI := [⟨some 90, .mov (.t 22), none⟩,
  ⟨some 91, .mov (.t 21), none⟩,
  ⟨some 92, .bin .eql (.t 90) (.t 91), none⟩]
def c_pushout_quotient_r21 (F : String → Nat) : List LI := [⟨some 93, .fad 1 (.t 3), none⟩,
  ⟨some 94, .load false 1 (.t 93), none⟩,
  ⟨some 95, .mov (.t 21), none⟩,
  ⟨some 96, .iad 3 (.t 94) (.t 95), none⟩,
  ⟨some 97, .load true 3 (.t 96), none⟩,
  ⟨some 23, .alloc [.int .i64 (0), .int .i64 (0), .int .i64 (0)], none⟩,
  ⟨none, .store 3 (.t 23) (.t 97), none⟩]
def c_pushout_quotient_r22 (F : String → Nat) : List LI := [⟨some 98, .fad 1 (.t 18), none⟩,
  ⟨some 99, .load false 1 (.t 98), none⟩,
  ⟨some 100, .fad 0 (.t 23), none⟩,
  ⟨some 101, .load false 1 (.t 100), none⟩,
  ⟨some 102, .mov (.t 12), none⟩,
  ⟨some 103, .fad 1 (.t 23), none⟩,
  ⟨some 104, .load false 1 (.t 103), none⟩,
  ⟨some 105, .iad 1 (.t 102) (.t 104), none⟩,
  ⟨some 106, .load false 1 (.t 105), none⟩,
  ⟨some 107, .mov (.t 12), none⟩,
  ⟨some 108, .fad 2 (.t 23), none⟩,
  ⟨some 109, .load false 1 (.t 108), none⟩,
  ⟨some 110, .iad 1 (.t 107) (.t 109), none⟩,
  ⟨some 111, .load false 1 (.t 110), none⟩,
  ⟨some 112, .build [.int .i64 (0), .int .i64 (0), .int .i64 (0)] [(0, 1, .t 101), (1, 1, .t 106), (2, 1, .t 111)], none⟩,
  ⟨some 113, .buildSl 3 24 (.agg [.int .i64 (0), .int .i64 (0), .int .i64 (0)]) 1 [(0, .t 112)], none⟩,
  ⟨some 114, .app 3 24 (.t 99) (.t 113), none⟩,
  ⟨some 115, .fad 1 (.t 18), none⟩,
  ⟨none, .store 1 (.t 115) (.t 114), none⟩]
def c_pushout_quotient_r23 (F : String → Nat) : List LI := [⟨some 116, .bin .add (.t 85) (.k (.int .i64 (1))), none⟩,
  ⟨some 85, .mov (.t 116), none⟩]
def c_pushout_quotient_b24 (F : String → Nat) : LC := (.seq (.reg (c_pushout_quotient_r18 F) [3, 6, 7, 12, 15, 18, 83, 84, 85, 86]) (.seq (.cond (.t 86) .skip (.exit 2)) (.seq (.block 3 (.seq (.reg (c_pushout_quotient_r19 F) [3, 6, 7, 12, 15, 18, 21, 22, 83, 84, 85]) (.seq (.reg (c_pushout_quotient_r20 F) [3, 6, 7, 12, 15, 18, 21, 83, 84, 85, 92]) (.cond (.t 92) (.seq (.reg (c_pushout_quotient_r21 F) [3, 6, 7, 12, 15, 18, 23, 83, 84, 85]) (.dreg [(1, none, [], true), (15, none, [1], false)] (c_pushout_quotient_r22 F) [3, 6, 7, 12, 15, 18, 83, 84, 85])) .skip)))) (.reg (c_pushout_quotient_r23 F) [3, 6, 7, 12, 15, 18, 83, 84, 85]))))
def c_pushout_quotient_r25 (F : String → Nat) : List LI := [⟨some 117, .load true 2 (.t 18), none⟩,
  ⟨some 118, .mov (.t 12), none⟩,
  ⟨some 119, .mov (.t 15), none⟩,
  ⟨some 120, .build [.nl 1, .nl 1] [(0, 1, .t 118), (1, 1, .t 119)], none⟩,
  ⟨none, .store 2 (.t 6) (.t 117), none⟩,
  ⟨none, .store 2 (.t 7) (.t 120), none⟩,
  ⟨some 8, .mov (.k (.int .i64 (0))), none⟩]
def c_pushout_quotient (F : String → Nat) : LC := (.seq (.reg (c_pushout_quotient_r0 F) [1, 2, 3, 6, 7]) (.seq (.reg (c_pushout_quotient_r1 F) [2, 3, 6, 7, 9, 10]) (.seq (.seq (.reg (c_pushout_quotient_r2 F) [2, 3, 6, 7, 9, 10, 33]) (.cond (.t 33) (.seq (.reg (c_pushout_quotient_r3 F) [6, 7, 8]) .ret) .skip)) (.seq (.reg (c_pushout_quotient_r4 F) [3, 6, 7, 9, 10, 11]) (.seq (.seq (.reg (c_pushout_quotient_r5 F) [3, 6, 7, 9, 10, 11, 46]) (.cond (.t 46) (.seq (.reg (c_pushout_quotient_r6 F) [6, 7, 8]) .ret) .skip)) (.seq (.reg (c_pushout_quotient_r7 F) [3, 6, 7, 9, 11, 12]) (.seq (.reg (c_pushout_quotient_r8 F) [3, 6, 7, 9, 11, 12, 15]) (.seq (.reg (c_pushout_quotient_r9 F) [3, 6, 7, 9, 11, 12, 15, 18]) (.seq (.seq (.reg (c_pushout_quotient_r10 F) [3, 6, 7, 11, 12, 15, 18, 62, 63, 64]) (.block 0 (.loop [3, 6, 7, 11, 12, 15, 18, 62, 63, 64] (c_pushout_quotient_b16 F)))) (.seq (.seq (.reg (c_pushout_quotient_r17 F) [3, 6, 7, 12, 15, 18, 83, 84, 85]) (.block 2 (.loop [3, 6, 7, 12, 15, 18, 83, 84, 85] (c_pushout_quotient_b24 F)))) (.seq (.reg (c_pushout_quotient_r25 F) [6, 7, 8]) .ret)))))))))))
def h_pushout_quotient : Hints := ⟨[], fun _ => [], tab [(0, [1, 2, 3, 6, 7]), (1, [2, 3, 6, 7, 9, 10]), (2, [2, 3, 6, 7, 9, 10, 33]), (3, [6, 7, 8]), (4, [3, 6, 7, 9, 10, 11]), (5, [3, 6, 7, 9, 10, 11, 46]), (6, [6, 7, 8]), (7, [3, 6, 7, 9, 11, 12]), (8, [3, 6, 7, 9, 11, 12, 15]), (9, [3, 6, 7, 9, 11, 12, 15, 18]), (10, [3, 6, 7, 11, 12, 15, 18, 62, 63, 64]), (11, [3, 6, 7, 11, 12, 15, 18, 62, 63, 64, 65]), (12, [3, 6, 7, 11, 12, 15, 18, 19, 20, 62, 63, 64]), (13, [3, 6, 7, 11, 12, 15, 18, 19, 62, 63, 64, 71]), (14, [3, 6, 7, 11, 12, 15, 18, 62, 63, 64]), (15, [3, 6, 7, 11, 12, 15, 18, 62, 63, 64]), (16, [3, 6, 7, 12, 15, 18, 83, 84, 85]), (17, [3, 6, 7, 12, 15, 18, 83, 84, 85, 86]), (18, [3, 6, 7, 12, 15, 18, 21, 22, 83, 84, 85]), (19, [3, 6, 7, 12, 15, 18, 21, 83, 84, 85, 92]), (20, [3, 6, 7, 12, 15, 18, 23, 83, 84, 85]), (21, [3, 6, 7, 12, 15, 18, 83, 84, 85]), (22, [3, 6, 7, 12, 15, 18, 83, 84, 85]), (23, [6, 7, 8])], tab [(11, [3, 6, 7, 11, 12, 15, 18, 62, 63, 64]), (17, [3, 6, 7, 12, 15, 18, 83, 84, 85])]⟩

/- pushout.pairs -/
def c_pushout_pairs_r0 (F : String → Nat) : List LI := [⟨some 8, .mov (.k (.nl 2)), none⟩]
def c_pushout_pairs_r1 (F : String → Nat) : List LI := [⟨some 9, .mov (.k (.nl 2)), none⟩]
def c_pushout_pairs_r2 (F : String → Nat) : List LI := [⟨some 11, .mov (.t 0), none⟩,
  ⟨some 12, .len (.t 11), none⟩,
  ⟨some 13, .mov (.k (.int .i64 (0))), none⟩]
def c_pushout_pairs_r3 (F : String → Nat) : List LI := [⟨some 14, .bin .lss (.t 13) (.t 12), none⟩]
def c_pushout_pairs_r4 (F : String → Nat) : List LI := [⟨some 15, .mov (.t 13), none⟩,
  ⟨some 10, .mov (.t 15), none⟩]
def c_pushout_pairs_r5 (F : String → Nat) : List LI := [⟨some 16, .mov (.t 9), none⟩,
  ⟨some 17, .mov (.t 2), none⟩,
  ⟨some 18, .mov (.t 0), none⟩,
  ⟨some 19, .mov (.t 10), none⟩,
  ⟨some 20, .iad 1 (.t 18) (.t 19), none⟩,
  ⟨some 21, .load false 1 (.t 20), none⟩,
  ⟨some 22, .iad 1 (.t 17) (.t 21), none⟩,
  ⟨some 23, .load false 1 (.t 22), none⟩,
  ⟨some 24, .mov (.t 3), none⟩,
  ⟨some 25, .mov (.t 1), none⟩,
  ⟨some 26, .mov (.t 10), none⟩,
  ⟨some 27, .iad 1 (.t 25) (.t 26), none⟩,
  ⟨some 28, .load false 1 (.t 27), none⟩,
  ⟨some 29, .iad 1 (.t 24) (.t 28), none⟩,
  ⟨some 30, .load false 1 (.t 29), none⟩,
  ⟨some 31, .build [.int .i64 (0), .int .i64 (0)] [(0, 1, .t 23), (1, 1, .t 30)], none⟩,
  ⟨some 32, .buildSl 2 16 (.agg [.int .i64 (0), .int .i64 (0)]) 1 [(0, .t 31)], none⟩,
  ⟨some 33, .app 2 16 (.t 16) (.t 32), none⟩,
  ⟨some 9, .mov (.t 33), none⟩]
def c_pushout_pairs_r6 (F : String → Nat) : List LI := [⟨some 34, .bin .add (.t 13) (.k (.int .i64 (1))), none⟩,
  ⟨some 13, .mov (.t 34), none⟩]
def c_pushout_pairs_b7 (F : String → Nat) : LC := (.seq (.reg (c_pushout_pairs_r3 F) [0, 1, 2, 3, 9, 12, 13, 14]) (.seq (.cond (.t 14) .skip (.exit 0)) (.seq (.block 1 (.seq (.reg (c_pushout_pairs_r4 F) [0, 1, 2, 3, 9, 10, 12, 13]) (.dreg [] (c_pushout_pairs_r5 F) [0, 1, 2, 3, 9, 12, 13]))) (.reg (c_pushout_pairs_r6 F) [0, 1, 2, 3, 9, 12, 13]))))
def c_pushout_pairs_r8 (F : String → Nat) : List LI := [⟨some 35, .mov (.t 9), none⟩,
  ⟨some 8, .mov (.t 35), none⟩]
def c_pushout_pairs (F : String → Nat) : LC := (.seq (.reg (c_pushout_pairs_r0 F) [0, 1, 2, 3]) (.seq (.reg (c_pushout_pairs_r1 F) [0, 1, 2, 3, 9]) (.seq (.seq (.reg (c_pushout_pairs_r2 F) [0, 1, 2, 3, 9, 12, 13]) (.block 0 (.loop [0, 1, 2, 3, 9, 12, 13] (c_pushout_pairs_b7 F)))) (.seq (.reg (c_pushout_pairs_r8 F) [8]) .ret))))
def h_pushout_pairs : Hints := ⟨[], fun _ => [], tab [(0, [0, 1, 2, 3]), (1, [0, 1, 2, 3, 9]), (2, [0, 1, 2, 3, 9, 12, 13]), (3, [0, 1, 2, 3, 9, 12, 13, 14]), (4, [0, 1, 2, 3, 9, 10, 12, 13]), (5, [0, 1, 2, 3, 9, 12, 13]), (6, [0, 1, 2, 3, 9, 12, 13]), (7, [8])], tab [(3, [0, 1, 2, 3, 9, 12, 13])]⟩

/- pushout.follow -/
def c_pushout_follow_r0 (F : String → Nat) : List LI := [⟨some 4, .mov (.k (.nl 1)), none⟩]
def c_pushout_follow_r1 (F : String → Nat) : List LI := [⟨some 8, .mov (.t 0), none⟩,
  ⟨some 9, .len (.t 8), none⟩,
  ⟨some 10, .makeSl 1 8 (.int .i64 (0)) (.t 9), none⟩,
  ⟨some 5, .mov (.t 10), none⟩]
def c_pushout_follow_r2 (F : String → Nat) : List LI := [⟨some 11, .mov (.t 0), none⟩,
  ⟨some 12, .len (.t 11), none⟩,
  ⟨some 13, .mov (.k (.int .i64 (0))), none⟩]
def c_pushout_follow_r3 (F : String → Nat) : List LI := [⟨some 14, .bin .lss (.t 13) (.t 12), none⟩]
def c_pushout_follow_r4 (F : String → Nat) : List LI := [⟨some 15, .mov (.t 13), none⟩,
  ⟨some 16, .iad 1 (.t 11) (.t 13), none⟩,
  ⟨some 17, .load false 1 (.t 16), none⟩,
  ⟨some 6, .mov (.t 15), none⟩,
  ⟨some 7, .mov (.t 17), none⟩]
def c_pushout_follow_r5 (F : String → Nat) : List LI := [⟨some 18, .mov (.t 5), none⟩,
  ⟨some 19, .mov (.t 6), none⟩,
  ⟨some 20, .mov (.t 1), none⟩,
  ⟨some 21, .mov (.t 7), none⟩,
  ⟨some 22, .iad 1 (.t 20) (.t 21), none⟩,
  ⟨some 23, .load false 1 (.t 22), none⟩,
  ⟨some 24, .iad 1 (.t 18) (.t 19), none⟩,
  ⟨none, .store 1 (.t 24) (.t 23), none⟩]
def c_pushout_follow_r6 (F : String → Nat) : List LI := [⟨some 25, .bin .add (.t 13) (.k (.int .i64 (1))), none⟩,
  ⟨some 13, .mov (.t 25), none⟩]
def c_pushout_follow_b7 (F : String → Nat) : LC := (.seq (.reg (c_pushout_follow_r3 F) [1, 5, 11, 12, 13, 14]) (.seq (.cond (.t 14) .skip (.exit 0)) (.seq (.block 1 (.seq (.reg (c_pushout_follow_r4 F) [1, 5, 6, 7, 11, 12, 13]) (.reg (c_pushout_follow_r5 F) [1, 5, 11, 12, 13]))) (.reg (c_pushout_follow_r6 F) [1, 5, 11, 12, 13]))))
def c_pushout_follow_r8 (F : String → Nat) : List LI := [⟨some 26, .mov (.t 5), none⟩,
  ⟨some 4, .mov (.t 26), none⟩]
def c_pushout_follow (F : String → Nat) : LC := (.seq (.reg (c_pushout_follow_r0 F) [0, 1]) (.seq (.reg (c_pushout_follow_r1 F) [0, 1, 5]) (.seq (.seq (.reg (c_pushout_follow_r2 F) [1, 5, 11, 12, 13]) (.block 0 (.loop [1, 5, 11, 12, 13] (c_pushout_follow_b7 F)))) (.seq (.reg (c_pushout_follow_r8 F) [4]) .ret))))
def h_pushout_follow : Hints := ⟨[], fun _ => [], tab [(0, [0, 1]), (1, [0, 1, 5]), (2, [1, 5, 11, 12, 13]), (3, [1, 5, 11, 12, 13, 14]), (4, [1, 5, 6, 7, 11, 12, 13]), (5, [1, 5, 11, 12, 13]), (6, [1, 5, 11, 12, 13]), (7, [4])], tab [(3, [1, 5, 11, 12, 13])]⟩

/- pushout.then -/
def c_pushout_then_r0 (F : String → Nat) : List LI := [⟨some 2, .bx (.t 0), none⟩,
  ⟨some 3, .bx (.t 1), none⟩,
  ⟨some 4, .alloc [.nl 1, .nl 1], none⟩]
def c_pushout_then_r1 (F : String → Nat) : List LI := [⟨some 5, .fad 0 (.t 2), none⟩,
  ⟨some 6, .load false 1 (.t 5), none⟩,
  ⟨some 7, .fad 0 (.t 3), none⟩,
  ⟨some 8, .load false 1 (.t 7), none⟩,
  ⟨some 9, .call (F "pushout.follow") [.t 6, .t 8] [], none⟩,
  ⟨some 10, .fad 1 (.t 2), none⟩,
  ⟨some 11, .load false 1 (.t 10), none⟩,
  ⟨some 12, .fad 1 (.t 3), none⟩,
  ⟨some 13, .load false 1 (.t 12), none⟩,
  ⟨some 14, .call (F "pushout.follow") [.t 11, .t 13] [], none⟩,
  ⟨some 15, .build [.nl 1, .nl 1] [(0, 1, .t 9), (1, 1, .t 14)], none⟩,
  ⟨none, .store 2 (.t 4) (.t 15), none⟩]
def c_pushout_then (F : String → Nat) : LC := (.seq (.reg (c_pushout_then_r0 F) [2, 3, 4]) (.seq (.dreg [(4, none, [], true), (6, (some 32), [4], false), (8, (some 128), [4], false)] (c_pushout_then_r1 F) [4]) .ret))
def h_pushout_then : Hints := ⟨[], fun _ => [], tab [(0, [2, 3, 4]), (1, [4])], tab []⟩

attribute [go_sem] c_pushout_quotient_r0 c_pushout_quotient_r1 c_pushout_quotient_r2 c_pushout_quotient_r3 c_pushout_quotient_r4 c_pushout_quotient_r5 c_pushout_quotient_r6 c_pushout_quotient_r7 c_pushout_quotient_r8 c_pushout_quotient_r9 c_pushout_quotient_r10 c_pushout_quotient_r11 c_pushout_quotient_r12 c_pushout_quotient_r13 c_pushout_quotient_r14 c_pushout_quotient_r15 c_pushout_quotient_r17 c_pushout_quotient_r18 c_pushout_quotient_r19 c_pushout_quotient_r20 c_pushout_quotient_r21 c_pushout_quotient_r22 c_pushout_quotient_r23 c_pushout_quotient_r25 c_pushout_quotient c_pushout_pairs_r0 c_pushout_pairs_r1 c_pushout_pairs_r2 c_pushout_pairs_r3 c_pushout_pairs_r4 c_pushout_pairs_r5 c_pushout_pairs_r6 c_pushout_pairs_r8 c_pushout_pairs c_pushout_follow_r0 c_pushout_follow_r1 c_pushout_follow_r2 c_pushout_follow_r3 c_pushout_follow_r4 c_pushout_follow_r5 c_pushout_follow_r6 c_pushout_follow_r8 c_pushout_follow c_pushout_then_r0 c_pushout_then_r1 c_pushout_then
section
variable (P : Program) (F : String → Nat)
def K_pushout_quotient : Prop := ∀ (g : G) (ns es : List Pr), validG g = 0 → ns.length ≤ 1000 → es.length ≤ 1000 → PrIn g.n.length ns → PrIn g.e.length es → FC P (F "pushout.quotient") [gD g, .lst 2 (prs ns), .lst 2 (prs es)] (.tup [gA (quoG g (genL g.n.length ns) (genL g.e.length es)), mA (quoM (genL g.n.length ns) (genL g.e.length es)), .int .i64 0]) []
def K_pushout_pairs : Prop := ∀ (f g l r : List Int), f.length ≤ 1000 → g.length = f.length → (∀ x ∈ f, 0 ≤ x ∧ x < l.length) → (∀ x ∈ g, 0 ≤ x ∧ x < r.length) → FC P (F "pushout.pairs") [.lst 1 (ints f), .lst 1 (ints g), .lst 1 (ints l), .lst 1 (ints r)] (.arr 2 (prs (prL (thr f l) (thr g r) (thr f l).length))) []
def K_pushout_follow : Prop := ∀ l b : List Int, l.length ≤ 1000000 → (∀ x ∈ l, 0 ≤ x ∧ x < b.length) → FC P (F "pushout.follow") [.lst 1 (ints l), .lst 1 (ints b)] (.arr 1 (ints (thr l b))) []
def K_pushout_then : Prop := ∀ m n : Mo, m.n.length ≤ 1000000 → m.e.length ≤ 1000000 → (∀ x ∈ m.n, 0 ≤ x ∧ x < n.n.length) → (∀ x ∈ m.e, 0 ≤ x ∧ x < n.e.length) → FC P (F "pushout.then") [mD m, mD n] (mA (thenM m n)) []
end
section
variable {P : Program} {F : String → Nat} {α : Type}
theorem qN_le {α : Type} [Inhabited α] (l : List α) (p : List Int) : ∀ n : Nat, (qN l p n).length ≤ n
  | 0 => by simp [qN]
  | n + 1 => by rw [qN]; have := qN_le l p n; split <;> simp <;> omega
set_option maxRecDepth 100000 in
set_option maxHeartbeats 4000000 in
theorem w_pushout_quotient (hg : K_partition_Generate P F) (hq : K_partition_Quotient P F) (g : G) (ns es : List Pr) (hv : validG g = 0) (l1 : ns.length ≤ 1000) (l2 : es.length ≤ 1000) (p1 : PrIn g.n.length ns) (p2 : PrIn g.e.length es) :
    W P (c_pushout_quotient F) (Done [.c 6 true 2, .c 7 true 2, .t 8] [] (.tup [gA (quoG g (genL g.n.length ns) (genL g.e.length es)), mA (quoM (genL g.n.length ns) (genL g.e.length es)), .int .i64 0]) []) (init [gD g, .lst 2 (prs ns), .lst 2 (prs es)]) := by
  refine W_of ?_
  have vs := valid_spec hv
  have r1 := hg g.n.length ns (by omega) l1 p1
  have r2 := hg g.e.length es (by omega) l2 p2
  have i1 : Idem (genL g.n.length ns) := gen_idem p1 (Nat.le_refl _)
  have i2 : Idem (genL g.e.length es) := gen_idem p2 (Nat.le_refl _)
  have gl1 : (genL g.n.length ns).length = g.n.length := gen_len _
  have gl2 : (genL g.e.length es).length = g.e.length := gen_len _
  have r3 := hq _ i1 (by omega)
  have r4 := hq _ i2 (by omega)
  have q1 := quo_QS i1 _ (Nat.le_refl _)
  have q2 := quo_QS i2 _ (Nat.le_refl _)
  unfold quoG quoM
  generalize genL g.n.length ns = p at *
  generalize genL g.e.length es = r at *
  have hb1 := q1.b
  have hl1 := q1.l
  have hl2 := q2.l
  clear q1 q2
  rw [gl1] at r3 hb1 hl1 ⊢
  rw [gl2] at r4 hl2 ⊢
  generalize (quo p g.n.length).1 = q at *
  generalize (quo p g.n.length).2 = qc at *
  generalize (quo r g.e.length).1 = qe at *
  generalize (quo r g.e.length).2 = qec at *
  have hef : ∀ i : Nat, i < g.e.length → (0 ≤ (gt g.e i).f ∧ (gt g.e i).f < g.n.length) ∧ (0 ≤ (gt g.e i).o ∧ (gt g.e i).o < g.n.length) := fun i hi => (edge_fits hv (i := i) (by omega)).2
  have hr : ∀ i : Nat, i < g.e.length → gt (reE q g.e) i = ⟨(gt g.e i).t, gt q (gt g.e i).f, gt q (gt g.e i).o⟩ := fun i hi => reE_gt hi
  have hrl := reE_len q g.e
  generalize reE q g.e = re at *
  obtain ⟨gn, ge⟩ := g
  simp only [gD, gA, mA] at *
  simp (config := { maxSteps := 1000000 }) (disch := first | omega | (simp only [go_sem]; omega)) only [go_sem, ↓reduceIte]
  refine call_by r1 ?_
  simp (config := { maxSteps := 1000000 }) (disch := first | omega | (simp only [go_sem]; omega)) only [go_sem, ↓reduceIte, gl1]
  refine call_by r2 ?_
  simp (config := { maxSteps := 1000000 }) (disch := first | omega | (simp only [go_sem]; omega)) only [go_sem, ↓reduceIte, gl1, gl2]
  refine call_by r3 ?_
  simp (config := { maxSteps := 1000000 }) (disch := first | omega | (simp only [go_sem]; omega)) only [go_sem, ↓reduceIte, gl1, gl2, hl1]
  refine call_by r4 ?_
  simp (config := { maxSteps := 1000000 }) (disch := first | omega | (simp only [go_sem]; omega)) only [go_sem, ↓reduceIte, gl1, gl2, hl1, hl2]
  have lN := qN_le gn p
  refine W_loop (fun i : Nat => ⟨[(3, .pt 0 0), (6, .pt 3 0), (7, .pt 6 0), (11, .sl 7 0 ge.length), (12, .sl 8 0 gn.length), (15, .sl 9 0 ge.length), (18, .pt 12 0), (62, .sl 13 0 gn.length), (63, .int .i64 gn.length), (64, .int .i64 i)],
    [(0, .box [.lst 1 (ints gn), .lst 3 (eds ge)]), (1, .arr 1 []), (2, .arr 3 []), (3, .box [.sl 1 0 0, .sl 2 0 0]), (4, .arr 1 []), (5, .arr 1 []), (6, .box [.sl 4 0 0, .sl 5 0 0]), (7, .arr 1 (ints r)), (8, .arr 1 (ints q)), (9, .arr 1 (ints qe)),
     (10, .arr 1 (ints (qN gn p i))), (11, .arr 3 []), (12, .box [.sl 10 0 (qN gn p i).length, .sl 11 0 0]), (13, .arr 1 (ints p))], 14⟩) (fun i => i ≤ gn.length) (fun i => gn.length - i) 0 ?_ ?_ ?_
  · simp (config := { maxSteps := 1000000 }) (disch := first | omega | (simp only [go_sem]; omega)) only [go_sem, ↓reduceIte, qN, gl1, gl2, hl1, hl2, ints_nil]
    rfl
  · simp
  · intro i hi
    have lNi := lN i
    by_cases c : i < gn.length
    · have g1 : decide ((i : Int) < gn.length) = true := decide_eq_true (by omega)
      have hs : qN gn p (i + 1) = if gt p i = i then qN gn p i ++ [gt gn i] else qN gn p i := rfl
      by_cases d : gt p i = i
      · have g2 : decide (gt p i = i) = true := decide_eq_true d
        rw [if_pos d] at hs
        simp (config := { maxSteps := 1000000 }) (disch := first | omega | (simp only [go_sem]; omega)) only [go_sem, ↓reduceIte, c_pushout_quotient_b16, g1, g2, gl1]
        exact ⟨i + 1, by simp [hs], by omega, by omega⟩
      · have g2 : decide (gt p i = i) = false := decide_eq_false d
        rw [if_neg d] at hs
        simp (config := { maxSteps := 1000000 }) (disch := first | omega | (simp only [go_sem]; omega)) only [go_sem, ↓reduceIte, c_pushout_quotient_b16, g1, g2, gl1]
        exact ⟨i + 1, by simp [hs], by omega, by omega⟩
    · have g1 : decide ((i : Int) < gn.length) = false := decide_eq_false (by omega)
      obtain rfl : i = gn.length := by omega
      simp (config := { maxSteps := 1000000 }) (disch := first | omega | (simp only [go_sem]; omega)) only [go_sem, ↓reduceIte, c_pushout_quotient_b16, g1, gl1, gl2, hl1, hl2]
      generalize qN gn p gn.length = on at *
      have lE := qN_le re r
      refine W_loop (fun i : Nat => ⟨[(3, .pt 0 0), (6, .pt 3 0), (7, .pt 6 0), (12, .sl 7 0 gn.length), (15, .sl 8 0 ge.length), (18, .pt 11 0), (83, .sl 12 0 ge.length), (84, .int .i64 ge.length), (85, .int .i64 i)],
        [(0, .box [.lst 1 (ints gn), .lst 3 (eds ge)]), (1, .arr 1 []), (2, .arr 3 []), (3, .box [.sl 1 0 0, .sl 2 0 0]), (4, .arr 1 []), (5, .arr 1 []), (6, .box [.sl 4 0 0, .sl 5 0 0]), (7, .arr 1 (ints q)), (8, .arr 1 (ints qe)),
         (9, .arr 1 (ints on)), (10, .arr 3 (eds (qN re r i))), (11, .box [.sl 9 0 on.length, .sl 10 0 (qN re r i).length]), (12, .arr 1 (ints r))], 13⟩) (fun i => i ≤ ge.length) (fun i => ge.length - i) 0 ?_ ?_ ?_
      · simp (config := { maxSteps := 1000000 }) (disch := first | omega | (simp only [go_sem]; omega)) only [go_sem, ↓reduceIte, qN, gl1, gl2, hl1, hl2, ints_nil]
        rfl
      · simp
      · intro i hi
        have lEi := lE i
        by_cases c : i < ge.length
        · have g1 : decide ((i : Int) < ge.length) = true := decide_eq_true (by omega)
          have hs : qN re r (i + 1) = if gt r i = i then qN re r i ++ [gt re i] else qN re r i := rfl
          rw [hr i c] at hs
          obtain ⟨⟨f1, f2⟩, o1, o2⟩ := hef i c
          by_cases d : gt r i = i
          · have g2 : decide (gt r i = i) = true := decide_eq_true d
            rw [if_pos d] at hs
            simp (config := { maxSteps := 1000000 }) (disch := first | omega | (simp only [go_sem]; omega)) only [go_sem, ↓reduceIte, c_pushout_quotient_b24, g1, g2, gl2, hl1]
            exact ⟨i + 1, by simp [hs], by omega, by omega⟩
          · have g2 : decide (gt r i = i) = false := decide_eq_false d
            rw [if_neg d] at hs
            simp (config := { maxSteps := 1000000 }) (disch := first | omega | (simp only [go_sem]; omega)) only [go_sem, ↓reduceIte, c_pushout_quotient_b24, g1, g2, gl2]
            exact ⟨i + 1, by simp [hs], by omega, by omega⟩
        · have g1 : decide ((i : Int) < ge.length) = false := decide_eq_false (by omega)
          obtain rfl : i = ge.length := by omega
          simp (config := { maxSteps := 1000000 }) (disch := first | omega | (simp only [go_sem]; omega)) only [go_sem, ↓reduceIte, c_pushout_quotient_b24, g1, gl2, hl1, hl2]
          try rfl
theorem w_pushout_pairs (f g l r : List Int) (hf : f.length ≤ 1000) (hg : g.length = f.length) (h1 : ∀ x ∈ f, 0 ≤ x ∧ x < l.length) (h2 : ∀ x ∈ g, 0 ≤ x ∧ x < r.length) :
    W P (c_pushout_pairs F) (Done [.t 8] [] (.arr 2 (prs (prL (thr f l) (thr g r) (thr f l).length))) []) (init [.lst 1 (ints f), .lst 1 (ints g), .lst 1 (ints l), .lst 1 (ints r)]) := by
  refine W_of ?_
  have e1 := prL_len (thr f l) (thr g r)
  have e0 : prL (thr f l) (thr g r) 0 = [] := rfl
  have e2 : ∀ i : Nat, i < f.length → prL (thr f l) (thr g r) (i + 1) = prL (thr f l) (thr g r) i ++ [⟨gt l (gt f i), gt r (gt g i)⟩] := fun i hi => by rw [prL_succ, thr_gt hi, thr_gt (by omega)]
  rw [thr_len]
  generalize prL (thr f l) (thr g r) = pl at *
  simp (config := { maxSteps := 1000000 }) (disch := first | omega | (simp only [go_sem]; omega)) only [go_sem, ↓reduceIte]
  refine W_loop (fun i : Nat => ⟨[(0, .lst 1 (ints f)), (1, .lst 1 (ints g)), (2, .lst 1 (ints l)), (3, .lst 1 (ints r)), (9, .sl 0 0 i), (12, .int .i64 f.length), (13, .int .i64 i)], [(0, .arr 2 (prs (pl i)))], 1⟩) (fun i => i ≤ f.length) (fun i => f.length - i) 0 ?_ ?_ ?_
  · simp (config := { maxSteps := 1000000 }) (disch := first | omega | (simp only [go_sem]; omega)) only [go_sem, ↓reduceIte, e0]
    rfl
  · simp
  · intro i hi
    have e1i := e1 i
    by_cases c : i < f.length
    · have g1 : decide ((i : Int) < f.length) = true := decide_eq_true (by omega)
      have hx := h1 _ (gt_mem (l := f) (j := i) (by omega) (by omega))
      have hy := h2 _ (gt_mem (l := g) (j := i) (by omega) (by omega))
      simp (config := { maxSteps := 1000000 }) (disch := first | omega | (simp only [go_sem]; omega)) only [go_sem, ↓reduceIte, c_pushout_pairs_b7, g1, hg, e1i]
      exact ⟨i + 1, by simp [e2 i c], by omega, by omega⟩
    · have g1 : decide ((i : Int) < f.length) = false := decide_eq_false (by omega)
      obtain rfl : i = f.length := by omega
      simp (config := { maxSteps := 1000000 }) (disch := first | omega | (simp only [go_sem]; omega)) only [go_sem, ↓reduceIte, c_pushout_pairs_b7, g1, e1i]
theorem w_pushout_follow (l b : List Int) (hl : l.length ≤ 1000000) (hb : ∀ x ∈ l, 0 ≤ x ∧ x < b.length) : W P (c_pushout_follow F) (Done [.t 4] [] (.arr 1 (ints (thr l b))) []) (init [.lst 1 (ints l), .lst 1 (ints b)]) := by
  refine W_of ?_
  simp (config := { maxSteps := 1000000 }) (disch := first | omega | (simp only [go_sem]; omega)) only [go_sem, ↓reduceIte]
  refine W_loop (fun i : Nat => ⟨[(1, .lst 1 (ints b)), (5, .sl 0 0 l.length), (11, .lst 1 (ints l)), (12, .int .i64 l.length), (13, .int .i64 i)], [(0, .arr 1 (ints (thr (l.take i) b ++ List.replicate (l.length - i) 0)))], 1⟩) (fun i => i ≤ l.length) (fun i => l.length - i) 0 ?_ ?_ ?_
  · simp (config := { maxSteps := 1000000 }) (disch := first | omega | (simp only [go_sem]; omega)) only [go_sem, ↓reduceIte]
    rfl
  · simp
  · intro i hi
    have el : (thr (l.take i) b).length = i := by rw [thr_len]; simp; omega
    simp (config := { maxSteps := 1000000 }) (disch := first | omega | (simp only [go_sem]; omega)) only [go_sem, ↓reduceIte, c_pushout_follow_b7]
    refine bran_dec (fun c => ?_) (fun c => ?_)
    · have hx := hb _ (gt_mem (l := l) (j := i) (by omega) (by omega))
      have hf : (thr (l.take i) b ++ List.replicate (l.length - i) 0).set i (gt b (gt l i)) = thr (l.take (i + 1)) b ++ List.replicate (l.length - (i + 1)) 0 := by
        have := fillL (thr (l.take i) b) (gt b (gt l i)) 0 (l.length - (i + 1))
        rw [el, show l.length - (i + 1) + 1 = l.length - i by omega] at this
        rw [this, thr_step (by omega)]
      simp (config := { maxSteps := 1000000 }) (disch := first | omega | (simp only [go_sem]; omega)) only [go_sem, ↓reduceIte, el, hf]
      exact ⟨i + 1, by simp, by omega, by omega⟩
    · obtain rfl : i = l.length := by omega
      rw [List.take_length] at el
      simp (config := { maxSteps := 1000000 }) (disch := first | omega | (simp only [go_sem]; omega)) only [go_sem, ↓reduceIte, el]
      simp
theorem w_pushout_then (ht : K_pushout_follow P F) (m n : Mo) (h1 : m.n.length ≤ 1000000) (h2 : m.e.length ≤ 1000000) (h3 : ∀ x ∈ m.n, 0 ≤ x ∧ x < n.n.length) (h4 : ∀ x ∈ m.e, 0 ≤ x ∧ x < n.e.length) :
    W P (c_pushout_then F) (Done [.c 4 true 2] [] (mA (thenM m n)) []) (init [mD m, mD n]) := by
  refine W_of ?_
  obtain ⟨mn, me⟩ := m
  obtain ⟨nn, ne⟩ := n
  have r1 := ht mn nn h1 h3
  have r2 := ht me ne h2 h4
  simp (config := { maxSteps := 1000000 }) (disch := first | omega | (simp only [go_sem]; omega)) only [go_sem, ↓reduceIte, mD]
  refine call_by r1 ?_
  simp (config := { maxSteps := 1000000 }) (disch := first | omega | (simp only [go_sem]; omega)) only [go_sem, ↓reduceIte]
  refine call_by r2 ?_
  simp (config := { maxSteps := 1000000 }) (disch := first | omega | (simp only [go_sem]; omega)) only [go_sem, ↓reduceIte, mA, thenM]
end
end Go.Am
