/- Pushouts: the program's and the reference's functions. -/
import Derived.Test.YtoeomfoohdheoaaSoD
import Derived.Test.YtoeomfoohdheoaaSoE
import Derived.Test.YtoeomfoohdheoaaSmG
namespace Go.Am
open Go
set_option linter.unusedVariables false
set_option linter.unusedSimpArgs false
attribute [local irreducible] W
/- pushout.span -/
def c_pushout_span_r0 (F : String → Nat) : List LI := [⟨some 1, .bx (.t 0), none⟩,
  ⟨some 2, .mov (.k (.int .i64 (0))), none⟩]
def c_pushout_span_r1 (F : String → Nat) : List LI := [⟨some 4, .fad 0 (.t 1), none⟩,
  ⟨some 5, .load true 2 (.t 4), none⟩,
  ⟨some 6, .fad 2 (.t 1), none⟩,
  ⟨some 7, .load true 2 (.t 6), none⟩,
  ⟨some 8, .fad 6 (.t 1), none⟩,
  ⟨some 9, .load true 2 (.t 8), none⟩,
  ⟨some 10, .call (F "morphism.Valid") [.t 5, .t 7, .t 9] [], none⟩,
  ⟨some 3, .mov (.t 10), none⟩]
def c_pushout_span_r2 (F : String → Nat) : List LI := [⟨some 11, .mov (.t 3), none⟩,
  ⟨some 12, .bin .neq (.t 11) (.k (.int .i64 (0))), none⟩]
def c_pushout_span_r3 (F : String → Nat) : List LI := [⟨some 13, .mov (.t 3), none⟩,
  ⟨some 2, .mov (.t 13), none⟩]
def c_pushout_span_r4 (F : String → Nat) : List LI := [⟨some 14, .fad 0 (.t 1), none⟩,
  ⟨some 15, .load true 2 (.t 14), none⟩,
  ⟨some 16, .fad 4 (.t 1), none⟩,
  ⟨some 17, .load true 2 (.t 16), none⟩,
  ⟨some 18, .fad 8 (.t 1), none⟩,
  ⟨some 19, .load true 2 (.t 18), none⟩,
  ⟨some 20, .call (F "morphism.Valid") [.t 15, .t 17, .t 19] [], none⟩,
  ⟨some 2, .mov (.t 20), none⟩]
def c_pushout_span (F : String → Nat) : LC := (.seq (.reg (c_pushout_span_r0 F) [1]) (.seq (.seq (.reg (c_pushout_span_r1 F) [1, 3]) (.seq (.reg (c_pushout_span_r2 F) [1, 3, 12]) (.cond (.t 12) (.seq (.reg (c_pushout_span_r3 F) [2]) .ret) .skip))) (.seq (.reg (c_pushout_span_r4 F) [2]) .ret)))
def h_pushout_span : Hints := ⟨[], fun _ => [], tab [(0, [1]), (1, [1, 3]), (2, [1, 3, 12]), (3, [2]), (4, [2])], tab []⟩

/- pushout.glue -/
def c_pushout_glue_r0 (F : String → Nat) : List LI := [⟨some 1, .bx (.t 0), none⟩,
  ⟨some 2, .alloc [.nl 1, .nl 3], none⟩,
  ⟨some 3, .alloc [.nl 1, .nl 1], none⟩,
  ⟨some 4, .alloc [.nl 1, .nl 1], none⟩,
  ⟨some 5, .mov (.k (.int .i64 (0))), none⟩]
def c_pushout_glue_r1 (F : String → Nat) : List LI := [⟨some 13, .fad 2 (.t 1), none⟩,
  ⟨some 14, .load true 2 (.t 13), none⟩,
  ⟨some 15, .fad 4 (.t 1), none⟩,
  ⟨some 16, .load true 2 (.t 15), none⟩,
  ⟨some 17, .call (F "graph.Union") [.t 14, .t 16] [], none⟩,
  ⟨some 12, .mov (.t 17), none⟩,
  ⟨some 18, .ext (.t 12) 0, none⟩,
  ⟨some 19, .ext (.t 12) 1, none⟩,
  ⟨some 20, .ext (.t 12) 2, none⟩,
  ⟨some 21, .ext (.t 12) 3, none⟩,
  ⟨some 6, .alloc [.nl 1, .nl 3], none⟩,
  ⟨some 7, .alloc [.nl 1, .nl 1], none⟩,
  ⟨some 8, .alloc [.nl 1, .nl 1], none⟩,
  ⟨none, .store 2 (.t 6) (.t 18), none⟩,
  ⟨none, .store 2 (.t 7) (.t 19), none⟩,
  ⟨none, .store 2 (.t 8) (.t 20), none⟩,
  ⟨some 9, .mov (.t 21), none⟩]
def c_pushout_glue_r2 (F : String → Nat) : List LI := [⟨some 22, .mov (.t 9), none⟩,
  ⟨some 23, .bin .neq (.t 22) (.k (.int .i64 (0))), none⟩]
def c_pushout_glue_r3 (F : String → Nat) : List LI := [⟨some 24, .build [.nl 1, .nl 3] [], none⟩,
  ⟨some 25, .build [.nl 1, .nl 1] [], none⟩,
  ⟨some 26, .build [.nl 1, .nl 1] [], none⟩,
  ⟨some 27, .mov (.t 9), none⟩,
  ⟨none, .store 2 (.t 2) (.t 24), none⟩,
  ⟨none, .store 2 (.t 3) (.t 25), none⟩,
  ⟨none, .store 2 (.t 4) (.t 26), none⟩,
  ⟨some 5, .mov (.t 27), none⟩]
def c_pushout_glue_r4 (F : String → Nat) : List LI := [⟨some 29, .load true 2 (.t 6), none⟩,
  ⟨some 30, .fad 6 (.t 1), none⟩,
  ⟨some 31, .fad 0 (.t 30), none⟩,
  ⟨some 32, .load false 1 (.t 31), none⟩,
  ⟨some 33, .fad 8 (.t 1), none⟩,
  ⟨some 34, .fad 0 (.t 33), none⟩,
  ⟨some 35, .load false 1 (.t 34), none⟩,
  ⟨some 36, .fad 0 (.t 7), none⟩,
  ⟨some 37, .load false 1 (.t 36), none⟩,
  ⟨some 38, .fad 0 (.t 8), none⟩,
  ⟨some 39, .load false 1 (.t 38), none⟩,
  ⟨some 40, .call (F "pushout.pairs") [.t 32, .t 35, .t 37, .t 39] [], none⟩,
  ⟨some 41, .fad 6 (.t 1), none⟩,
  ⟨some 42, .fad 1 (.t 41), none⟩,
  ⟨some 43, .load false 1 (.t 42), none⟩,
  ⟨some 44, .fad 8 (.t 1), none⟩,
  ⟨some 45, .fad 1 (.t 44), none⟩,
  ⟨some 46, .load false 1 (.t 45), none⟩,
  ⟨some 47, .fad 1 (.t 7), none⟩,
  ⟨some 48, .load false 1 (.t 47), none⟩,
  ⟨some 49, .fad 1 (.t 8), none⟩,
  ⟨some 50, .load false 1 (.t 49), none⟩,
  ⟨some 51, .call (F "pushout.pairs") [.t 43, .t 46, .t 48, .t 50] [], none⟩,
  ⟨some 52, .call (F "pushout.quotient") [.t 29, .t 40, .t 51] [], none⟩,
  ⟨some 28, .mov (.t 52), none⟩,
  ⟨some 53, .ext (.t 28) 0, none⟩,
  ⟨some 54, .ext (.t 28) 1, none⟩,
  ⟨some 55, .ext (.t 28) 2, none⟩,
  ⟨some 10, .alloc [.nl 1, .nl 3], none⟩,
  ⟨some 11, .alloc [.nl 1, .nl 1], none⟩,
  ⟨none, .store 2 (.t 10) (.t 53), none⟩,
  ⟨none, .store 2 (.t 11) (.t 54), none⟩,
  ⟨some 9, .mov (.t 55), none⟩]
def c_pushout_glue_r5 (F : String → Nat) : List LI := [⟨some 56, .mov (.t 9), none⟩,
  ⟨some 57, .bin .neq (.t 56) (.k (.int .i64 (0))), none⟩]
def c_pushout_glue_r6 (F : String → Nat) : List LI := [⟨some 58, .build [.nl 1, .nl 3] [], none⟩,
  ⟨some 59, .build [.nl 1, .nl 1] [], none⟩,
  ⟨some 60, .build [.nl 1, .nl 1] [], none⟩,
  ⟨some 61, .mov (.t 9), none⟩,
  ⟨none, .store 2 (.t 2) (.t 58), none⟩,
  ⟨none, .store 2 (.t 3) (.t 59), none⟩,
  ⟨none, .store 2 (.t 4) (.t 60), none⟩,
  ⟨some 5, .mov (.t 61), none⟩]
def c_pushout_glue_r7 (F : String → Nat) : List LI := [⟨some 62, .load true 2 (.t 10), none⟩,
  ⟨some 63, .load true 2 (.t 7), none⟩,
  ⟨some 64, .load true 2 (.t 11), none⟩,
  ⟨some 65, .call (F "pushout.then") [.t 63, .t 64] [], none⟩,
  ⟨some 66, .load true 2 (.t 8), none⟩,
  ⟨some 67, .load true 2 (.t 11), none⟩,
  ⟨some 68, .call (F "pushout.then") [.t 66, .t 67] [], none⟩,
  ⟨none, .store 2 (.t 2) (.t 62), none⟩,
  ⟨none, .store 2 (.t 3) (.t 65), none⟩,
  ⟨none, .store 2 (.t 4) (.t 68), none⟩,
  ⟨some 5, .mov (.k (.int .i64 (0))), none⟩]
def c_pushout_glue (F : String → Nat) : LC := (.seq (.reg (c_pushout_glue_r0 F) [1, 2, 3, 4]) (.seq (.reg (c_pushout_glue_r1 F) [1, 2, 3, 4, 6, 7, 8, 9]) (.seq (.seq (.reg (c_pushout_glue_r2 F) [1, 2, 3, 4, 6, 7, 8, 9, 23]) (.cond (.t 23) (.seq (.reg (c_pushout_glue_r3 F) [2, 3, 4, 5]) .ret) .skip)) (.seq (.dreg [(0, none, [], true), (11, none, [0], true), (14, (some 12288), [11], false), (17, (some 98304), [11], false), (19, (some 262144), [11], false), (21, (some 1048576), [11], false), (22, none, [0], false)] (c_pushout_glue_r4 F) [2, 3, 4, 7, 8, 9, 10, 11]) (.seq (.seq (.reg (c_pushout_glue_r5 F) [2, 3, 4, 7, 8, 9, 10, 11, 57]) (.cond (.t 57) (.seq (.reg (c_pushout_glue_r6 F) [2, 3, 4, 5]) .ret) .skip)) (.seq (.dreg [(0, none, [], true), (3, none, [0], true), (4, (some 0), [3], false), (5, (some 0), [3], false), (6, none, [0], false)] (c_pushout_glue_r7 F) [2, 3, 4, 5]) .ret))))))
def h_pushout_glue : Hints := ⟨[], fun _ => [], tab [(0, [1, 2, 3, 4]), (1, [1, 2, 3, 4, 6, 7, 8, 9]), (2, [1, 2, 3, 4, 6, 7, 8, 9, 23]), (3, [2, 3, 4, 5]), (4, [2, 3, 4, 7, 8, 9, 10, 11]), (5, [2, 3, 4, 7, 8, 9, 10, 11, 57]), (6, [2, 3, 4, 5]), (7, [2, 3, 4, 5])], tab []⟩

/- pushout.filled -/
def c_pushout_filled_r0 (F : String → Nat) : List LI := [⟨some 6, .mov (.k (.nl 1)), none⟩]
def c_pushout_filled_r1 (F : String → Nat) : List LI := [⟨some 12, .mov (.t 0), none⟩,
  ⟨some 13, .makeSl 1 8 (.int .i64 (0)) (.t 12), none⟩,
  ⟨some 7, .mov (.t 13), none⟩]
def c_pushout_filled_r2 (F : String → Nat) : List LI := [⟨some 14, .mov (.t 1), none⟩,
  ⟨some 15, .len (.t 14), none⟩,
  ⟨some 16, .mov (.k (.int .i64 (0))), none⟩]
def c_pushout_filled_r3 (F : String → Nat) : List LI := [⟨some 17, .bin .lss (.t 16) (.t 15), none⟩]
def c_pushout_filled_r4 (F : String → Nat) : List LI := [⟨some 18, .mov (.t 16), none⟩,
  ⟨some 19, .iad 1 (.t 14) (.t 16), none⟩,
  ⟨some 20, .load false 1 (.t 19), none⟩,
  ⟨some 8, .mov (.t 18), none⟩,
  ⟨some 9, .mov (.t 20), none⟩]
def c_pushout_filled_r5 (F : String → Nat) : List LI := [⟨some 21, .mov (.t 9), none⟩,
  ⟨some 22, .len (.t 21), none⟩,
  ⟨some 23, .mov (.k (.int .i64 (0))), none⟩]
def c_pushout_filled_r6 (F : String → Nat) : List LI := [⟨some 24, .bin .lss (.t 23) (.t 22), none⟩]
def c_pushout_filled_r7 (F : String → Nat) : List LI := [⟨some 25, .mov (.t 23), none⟩,
  ⟨some 26, .iad 1 (.t 21) (.t 23), none⟩,
  ⟨some 27, .load false 1 (.t 26), none⟩,
  ⟨some 10, .mov (.t 25), none⟩,
  ⟨some 11, .mov (.t 27), none⟩]
def c_pushout_filled_r8 (F : String → Nat) : List LI := [⟨some 28, .mov (.t 7), none⟩,
  ⟨some 29, .mov (.t 11), none⟩,
  ⟨some 30, .mov (.t 2), none⟩,
  ⟨some 31, .mov (.t 8), none⟩,
  ⟨some 32, .iad 1 (.t 30) (.t 31), none⟩,
  ⟨some 33, .load false 1 (.t 32), none⟩,
  ⟨some 34, .mov (.t 10), none⟩,
  ⟨some 35, .iad 1 (.t 33) (.t 34), none⟩,
  ⟨some 36, .load false 1 (.t 35), none⟩,
  ⟨some 37, .iad 1 (.t 28) (.t 29), none⟩,
  ⟨none, .store 1 (.t 37) (.t 36), none⟩]
def c_pushout_filled_r9 (F : String → Nat) : List LI := [⟨some 38, .bin .add (.t 23) (.k (.int .i64 (1))), none⟩,
  ⟨some 23, .mov (.t 38), none⟩]
def c_pushout_filled_b10 (F : String → Nat) : LC := (.seq (.reg (c_pushout_filled_r6 F) [2, 7, 8, 14, 15, 16, 21, 22, 23, 24]) (.seq (.cond (.t 24) .skip (.exit 2)) (.seq (.block 3 (.seq (.reg (c_pushout_filled_r7 F) [2, 7, 8, 10, 11, 14, 15, 16, 21, 22, 23]) (.reg (c_pushout_filled_r8 F) [2, 7, 8, 14, 15, 16, 21, 22, 23]))) (.reg (c_pushout_filled_r9 F) [2, 7, 8, 14, 15, 16, 21, 22, 23]))))
def c_pushout_filled_r11 (F : String → Nat) : List LI := [⟨some 39, .bin .add (.t 16) (.k (.int .i64 (1))), none⟩,
  ⟨some 16, .mov (.t 39), none⟩]
def c_pushout_filled_b12 (F : String → Nat) : LC := (.seq (.reg (c_pushout_filled_r3 F) [2, 7, 14, 15, 16, 17]) (.seq (.cond (.t 17) .skip (.exit 0)) (.seq (.block 1 (.seq (.reg (c_pushout_filled_r4 F) [2, 7, 8, 9, 14, 15, 16]) (.seq (.reg (c_pushout_filled_r5 F) [2, 7, 8, 14, 15, 16, 21, 22, 23]) (.block 2 (.loop [2, 7, 8, 14, 15, 16, 21, 22, 23] (c_pushout_filled_b10 F)))))) (.reg (c_pushout_filled_r11 F) [2, 7, 14, 15, 16]))))
def c_pushout_filled_r13 (F : String → Nat) : List LI := [⟨some 40, .mov (.t 7), none⟩,
  ⟨some 6, .mov (.t 40), none⟩]
def c_pushout_filled (F : String → Nat) : LC := (.seq (.reg (c_pushout_filled_r0 F) [0, 1, 2]) (.seq (.reg (c_pushout_filled_r1 F) [1, 2, 7]) (.seq (.seq (.reg (c_pushout_filled_r2 F) [2, 7, 14, 15, 16]) (.block 0 (.loop [2, 7, 14, 15, 16] (c_pushout_filled_b12 F)))) (.seq (.reg (c_pushout_filled_r13 F) [6]) .ret))))
def h_pushout_filled : Hints := ⟨[], fun _ => [], tab [(0, [0, 1, 2]), (1, [1, 2, 7]), (2, [2, 7, 14, 15, 16]), (3, [2, 7, 14, 15, 16, 17]), (4, [2, 7, 8, 9, 14, 15, 16]), (5, [2, 7, 8, 14, 15, 16, 21, 22, 23]), (6, [2, 7, 8, 14, 15, 16, 21, 22, 23, 24]), (7, [2, 7, 8, 10, 11, 14, 15, 16, 21, 22, 23]), (8, [2, 7, 8, 14, 15, 16, 21, 22, 23]), (9, [2, 7, 8, 14, 15, 16, 21, 22, 23]), (10, [2, 7, 14, 15, 16]), (11, [6])], tab [(3, [2, 7, 14, 15, 16]), (6, [2, 7, 8, 14, 15, 16, 21, 22, 23])]⟩

/- pushout.Mediate -/
def c_pushout_Mediate_r0 (F : String → Nat) : List LI := [⟨some 4, .bx (.t 0), none⟩,
  ⟨some 5, .bx (.t 1), none⟩,
  ⟨some 6, .bx (.t 2), none⟩,
  ⟨some 7, .bx (.t 3), none⟩,
  ⟨some 8, .alloc [.nl 1, .nl 1], none⟩,
  ⟨some 9, .mov (.k (.int .i64 (0))), none⟩]
def c_pushout_Mediate_r1 (F : String → Nat) : List LI := [⟨some 17, .load true 10 (.t 4), none⟩,
  ⟨some 18, .call (F "pushout.span") [.t 17] [], none⟩,
  ⟨some 10, .mov (.t 18), none⟩]
def c_pushout_Mediate_r2 (F : String → Nat) : List LI := [⟨some 19, .mov (.t 10), none⟩,
  ⟨some 20, .bin .neq (.t 19) (.k (.int .i64 (0))), none⟩]
def c_pushout_Mediate_r3 (F : String → Nat) : List LI := [⟨some 21, .build [.nl 1, .nl 1] [], none⟩,
  ⟨some 22, .mov (.t 10), none⟩,
  ⟨none, .store 2 (.t 8) (.t 21), none⟩,
  ⟨some 9, .mov (.t 22), none⟩]
def c_pushout_Mediate_r4 (F : String → Nat) : List LI := [⟨some 23, .fad 2 (.t 4), none⟩,
  ⟨some 24, .load true 2 (.t 23), none⟩,
  ⟨some 25, .load true 2 (.t 5), none⟩,
  ⟨some 26, .load true 2 (.t 6), none⟩,
  ⟨some 27, .call (F "morphism.Valid") [.t 24, .t 25, .t 26] [], none⟩,
  ⟨some 11, .mov (.t 27), none⟩]
def c_pushout_Mediate_r5 (F : String → Nat) : List LI := [⟨some 28, .mov (.t 11), none⟩,
  ⟨some 29, .bin .neq (.t 28) (.k (.int .i64 (0))), none⟩]
def c_pushout_Mediate_r6 (F : String → Nat) : List LI := [⟨some 30, .build [.nl 1, .nl 1] [], none⟩,
  ⟨some 31, .mov (.t 11), none⟩,
  ⟨none, .store 2 (.t 8) (.t 30), none⟩,
  ⟨some 9, .mov (.t 31), none⟩]
def c_pushout_Mediate_r7 (F : String → Nat) : List LI := [⟨some 32, .fad 4 (.t 4), none⟩,
  ⟨some 33, .load true 2 (.t 32), none⟩,
  ⟨some 34, .load true 2 (.t 5), none⟩,
  ⟨some 35, .load true 2 (.t 7), none⟩,
  ⟨some 36, .call (F "morphism.Valid") [.t 33, .t 34, .t 35] [], none⟩,
  ⟨some 12, .mov (.t 36), none⟩]
def c_pushout_Mediate_r8 (F : String → Nat) : List LI := [⟨some 37, .mov (.t 12), none⟩,
  ⟨some 38, .bin .neq (.t 37) (.k (.int .i64 (0))), none⟩]
def c_pushout_Mediate_r9 (F : String → Nat) : List LI := [⟨some 39, .build [.nl 1, .nl 1] [], none⟩,
  ⟨some 40, .mov (.t 12), none⟩,
  ⟨none, .store 2 (.t 8) (.t 39), none⟩,
  ⟨some 9, .mov (.t 40), none⟩]
def c_pushout_Mediate_r10 (F : String → Nat) : List LI := [⟨some 42, .load true 10 (.t 4), none⟩,
  ⟨some 43, .call (F "pushout.glue") [.t 42] [], none⟩,
  ⟨some 41, .mov (.t 43), none⟩,
  ⟨some 44, .ext (.t 41) 0, none⟩,
  ⟨some 45, .ext (.t 41) 1, none⟩,
  ⟨some 46, .ext (.t 41) 2, none⟩,
  ⟨some 47, .ext (.t 41) 3, none⟩,
  ⟨some 13, .alloc [.nl 1, .nl 3], none⟩,
  ⟨some 14, .alloc [.nl 1, .nl 1], none⟩,
  ⟨some 15, .alloc [.nl 1, .nl 1], none⟩,
  ⟨none, .store 2 (.t 13) (.t 44), none⟩,
  ⟨none, .store 2 (.t 14) (.t 45), none⟩,
  ⟨none, .store 2 (.t 15) (.t 46), none⟩,
  ⟨some 16, .mov (.t 47), none⟩]
def c_pushout_Mediate_r11 (F : String → Nat) : List LI := [⟨some 48, .mov (.t 16), none⟩,
  ⟨some 49, .bin .neq (.t 48) (.k (.int .i64 (0))), none⟩]
def c_pushout_Mediate_r12 (F : String → Nat) : List LI := [⟨some 50, .build [.nl 1, .nl 1] [], none⟩,
  ⟨some 51, .mov (.t 16), none⟩,
  ⟨none, .store 2 (.t 8) (.t 50), none⟩,
  ⟨some 9, .mov (.t 51), none⟩]
def c_pushout_Mediate_r13 (F : String → Nat) : List LI := [⟨some 52, .fad 6 (.t 4), none⟩,
  ⟨some 53, .load true 2 (.t 52), none⟩,
  ⟨some 54, .load true 2 (.t 6), none⟩,
  ⟨some 55, .call (F "pushout.then") [.t 53, .t 54] [], none⟩,
  ⟨some 56, .fad 8 (.t 4), none⟩,
  ⟨some 57, .load true 2 (.t 56), none⟩,
  ⟨some 58, .load true 2 (.t 7), none⟩,
  ⟨some 59, .call (F "pushout.then") [.t 57, .t 58] [], none⟩,
  ⟨some 60, .call (F "morphism.Same") [.t 55, .t 59] [], none⟩,
  ⟨some 61, .not (.t 60), none⟩]
def c_pushout_Mediate_r14 (F : String → Nat) : List LI := [⟨some 62, .build [.nl 1, .nl 1] [], none⟩,
  ⟨none, .store 2 (.t 8) (.t 62), none⟩,
  ⟨some 9, .mov (.k (.int .i64 (11))), none⟩]
def c_pushout_Mediate_r15 (F : String → Nat) : List LI := [⟨some 63, .fad 0 (.t 13), none⟩,
  ⟨some 64, .load false 1 (.t 63), none⟩,
  ⟨some 65, .len (.t 64), none⟩,
  ⟨some 66, .fad 0 (.t 14), none⟩,
  ⟨some 67, .load false 1 (.t 66), none⟩,
  ⟨some 68, .fad 0 (.t 15), none⟩,
  ⟨some 69, .load false 1 (.t 68), none⟩,
  ⟨some 70, .buildSl 1 24 (.lst 1 []) 2 [(0, .t 67), (1, .t 69)], none⟩,
  ⟨some 71, .fad 0 (.t 6), none⟩,
  ⟨some 72, .load false 1 (.t 71), none⟩,
  ⟨some 73, .fad 0 (.t 7), none⟩,
  ⟨some 74, .load false 1 (.t 73), none⟩,
  ⟨some 75, .buildSl 1 24 (.lst 1 []) 2 [(0, .t 72), (1, .t 74)], none⟩,
  ⟨some 76, .call (F "pushout.filled") [.t 65, .t 70, .t 75] [], none⟩,
  ⟨some 77, .fad 1 (.t 13), none⟩,
  ⟨some 78, .load false 1 (.t 77), none⟩,
  ⟨some 79, .len (.t 78), none⟩,
  ⟨some 80, .fad 1 (.t 14), none⟩,
  ⟨some 81, .load false 1 (.t 80), none⟩,
  ⟨some 82, .fad 1 (.t 15), none⟩,
  ⟨some 83, .load false 1 (.t 82), none⟩,
  ⟨some 84, .buildSl 1 24 (.lst 1 []) 2 [(0, .t 81), (1, .t 83)], none⟩,
  ⟨some 85, .fad 1 (.t 6), none⟩,
  ⟨some 86, .load false 1 (.t 85), none⟩,
  ⟨some 87, .fad 1 (.t 7), none⟩,
  ⟨some 88, .load false 1 (.t 87), none⟩,
  ⟨some 89, .buildSl 1 24 (.lst 1 []) 2 [(0, .t 86), (1, .t 88)], none⟩,
  ⟨some 90, .call (F "pushout.filled") [.t 79, .t 84, .t 89] [], none⟩,
  ⟨some 91, .build [.nl 1, .nl 1] [(0, 1, .t 76), (1, 1, .t 90)], none⟩,
  ⟨none, .store 2 (.t 8) (.t 91), none⟩,
  ⟨some 9, .mov (.k (.int .i64 (0))), none⟩]
def c_pushout_Mediate (F : String → Nat) : LC := (.seq (.reg (c_pushout_Mediate_r0 F) [4, 5, 6, 7, 8]) (.seq (.seq (.reg (c_pushout_Mediate_r1 F) [4, 5, 6, 7, 8, 10]) (.seq (.reg (c_pushout_Mediate_r2 F) [4, 5, 6, 7, 8, 10, 20]) (.cond (.t 20) (.seq (.reg (c_pushout_Mediate_r3 F) [8, 9]) .ret) .skip))) (.seq (.seq (.reg (c_pushout_Mediate_r4 F) [4, 5, 6, 7, 8, 11]) (.seq (.reg (c_pushout_Mediate_r5 F) [4, 5, 6, 7, 8, 11, 29]) (.cond (.t 29) (.seq (.reg (c_pushout_Mediate_r6 F) [8, 9]) .ret) .skip))) (.seq (.seq (.reg (c_pushout_Mediate_r7 F) [4, 6, 7, 8, 12]) (.seq (.reg (c_pushout_Mediate_r8 F) [4, 6, 7, 8, 12, 38]) (.cond (.t 38) (.seq (.reg (c_pushout_Mediate_r9 F) [8, 9]) .ret) .skip))) (.seq (.reg (c_pushout_Mediate_r10 F) [4, 6, 7, 8, 13, 14, 15, 16]) (.seq (.seq (.reg (c_pushout_Mediate_r11 F) [4, 6, 7, 8, 13, 14, 15, 16, 49]) (.cond (.t 49) (.seq (.reg (c_pushout_Mediate_r12 F) [8, 9]) .ret) .skip)) (.seq (.seq (.dreg [(3, none, [], true), (5, (some 16), [3], false), (6, (some 0), [3], false)] (c_pushout_Mediate_r13 F) [6, 7, 8, 13, 14, 15, 61]) (.cond (.t 61) (.seq (.reg (c_pushout_Mediate_r14 F) [8, 9]) .ret) .skip)) (.seq (.dreg [(1, none, [], true), (4, none, [], true), (6, none, [], true), (7, none, [1], true), (9, (some 256), [7], true), (11, (some 1024), [7], true), (12, (some 3840), [1, 4, 6, 7], true), (13, none, [], true), (15, (some 16384), [7, 12, 13], true), (18, (some 131072), [7, 12, 13], true), (20, (some 524288), [7, 12, 13], true), (21, (some 1966080), [1, 4, 6, 7, 9, 11, 12, 13, 15], true), (23, (some 4194304), [7, 12, 13, 21], false), (25, (some 16777216), [7, 12, 13, 21], false), (26, (some 62914560), [1, 4, 6, 7, 9, 11, 12, 13, 15, 18, 20, 21], false)] (c_pushout_Mediate_r15 F) [8, 9]) .ret))))))))
def h_pushout_Mediate : Hints := ⟨[], fun _ => [], tab [(0, [4, 5, 6, 7, 8]), (1, [4, 5, 6, 7, 8, 10]), (2, [4, 5, 6, 7, 8, 10, 20]), (3, [8, 9]), (4, [4, 5, 6, 7, 8, 11]), (5, [4, 5, 6, 7, 8, 11, 29]), (6, [8, 9]), (7, [4, 6, 7, 8, 12]), (8, [4, 6, 7, 8, 12, 38]), (9, [8, 9]), (10, [4, 6, 7, 8, 13, 14, 15, 16]), (11, [4, 6, 7, 8, 13, 14, 15, 16, 49]), (12, [8, 9]), (13, [6, 7, 8, 13, 14, 15, 61]), (14, [8, 9]), (15, [8, 9])], tab []⟩

/- pushout.Check -/
def c_pushout_Check_r0 (F : String → Nat) : List LI := [⟨some 4, .bx (.t 0), none⟩,
  ⟨some 5, .bx (.t 1), none⟩,
  ⟨some 6, .bx (.t 2), none⟩,
  ⟨some 7, .bx (.t 3), none⟩,
  ⟨some 8, .mov (.k (.bool false)), none⟩]
def c_pushout_Check_r1 (F : String → Nat) : List LI := [⟨some 15, .load true 10 (.t 4), none⟩,
  ⟨some 16, .load true 2 (.t 5), none⟩,
  ⟨some 17, .load true 2 (.t 6), none⟩,
  ⟨some 18, .load true 2 (.t 7), none⟩,
  ⟨some 19, .call (F "pushout.Mediate") [.t 15, .t 16, .t 17, .t 18] [], none⟩,
  ⟨some 14, .mov (.t 19), none⟩,
  ⟨some 20, .ext (.t 14) 0, none⟩,
  ⟨some 21, .ext (.t 14) 1, none⟩,
  ⟨some 9, .alloc [.nl 1, .nl 1], none⟩,
  ⟨none, .store 2 (.t 9) (.t 20), none⟩,
  ⟨some 10, .mov (.t 21), none⟩]
def c_pushout_Check_r2 (F : String → Nat) : List LI := [⟨some 22, .mov (.t 10), none⟩,
  ⟨some 23, .bin .neq (.t 22) (.k (.int .i64 (0))), none⟩]
def c_pushout_Check_r3 (F : String → Nat) : List LI := [⟨some 8, .mov (.k (.bool false)), none⟩]
def c_pushout_Check_r4 (F : String → Nat) : List LI := [⟨some 25, .load true 10 (.t 4), none⟩,
  ⟨some 26, .call (F "pushout.glue") [.t 25] [], none⟩,
  ⟨some 24, .mov (.t 26), none⟩,
  ⟨some 27, .ext (.t 24) 0, none⟩,
  ⟨some 28, .ext (.t 24) 1, none⟩,
  ⟨some 29, .ext (.t 24) 2, none⟩,
  ⟨some 30, .ext (.t 24) 3, none⟩,
  ⟨some 11, .alloc [.nl 1, .nl 3], none⟩,
  ⟨some 12, .alloc [.nl 1, .nl 1], none⟩,
  ⟨some 13, .alloc [.nl 1, .nl 1], none⟩,
  ⟨none, .store 2 (.t 11) (.t 27), none⟩,
  ⟨none, .store 2 (.t 12) (.t 28), none⟩,
  ⟨none, .store 2 (.t 13) (.t 29), none⟩,
  ⟨some 10, .mov (.t 30), none⟩]
def c_pushout_Check_r5 (F : String → Nat) : List LI := [⟨some 31, .mov (.t 10), none⟩,
  ⟨some 32, .bin .eql (.t 31) (.k (.int .i64 (0))), none⟩,
  ⟨some 33, .mov (.t 32), none⟩,
  ⟨some 34, .load true 2 (.t 11), some (33, true)⟩,
  ⟨some 35, .load true 2 (.t 5), some (33, true)⟩,
  ⟨some 36, .load true 2 (.t 9), some (33, true)⟩,
  ⟨some 37, .call (F "morphism.Injective") [.t 34, .t 35, .t 36] [], some (33, true)⟩,
  ⟨some 38, .pick (.t 33) (.t 37) (.k (.bool false)), none⟩,
  ⟨some 39, .mov (.t 38), none⟩,
  ⟨some 40, .load true 2 (.t 11), some (39, true)⟩,
  ⟨some 41, .load true 2 (.t 5), some (39, true)⟩,
  ⟨some 42, .load true 2 (.t 9), some (39, true)⟩,
  ⟨some 43, .call (F "morphism.Surjective") [.t 40, .t 41, .t 42] [], some (39, true)⟩,
  ⟨some 44, .pick (.t 39) (.t 43) (.k (.bool false)), none⟩,
  ⟨some 8, .mov (.t 44), none⟩]
def c_pushout_Check (F : String → Nat) : LC := (.seq (.reg (c_pushout_Check_r0 F) [4, 5, 6, 7]) (.seq (.reg (c_pushout_Check_r1 F) [4, 5, 9, 10]) (.seq (.seq (.reg (c_pushout_Check_r2 F) [4, 5, 9, 23]) (.cond (.t 23) (.seq (.reg (c_pushout_Check_r3 F) [8]) .ret) .skip)) (.seq (.reg (c_pushout_Check_r4 F) [5, 9, 10, 11]) (.seq (.reg (c_pushout_Check_r5 F) [8]) .ret)))))
def h_pushout_Check : Hints := ⟨[], fun _ => [], tab [(0, [4, 5, 6, 7]), (1, [4, 5, 9, 10]), (2, [4, 5, 9, 23]), (3, [8]), (4, [5, 9, 10, 11]), (5, [8])], tab []⟩

attribute [go_sem] c_pushout_span_r0 c_pushout_span_r1 c_pushout_span_r2 c_pushout_span_r3 c_pushout_span_r4 c_pushout_span c_pushout_glue_r0 c_pushout_glue_r1 c_pushout_glue_r2 c_pushout_glue_r3 c_pushout_glue_r4 c_pushout_glue_r5 c_pushout_glue_r6 c_pushout_glue_r7 c_pushout_glue c_pushout_filled_r0 c_pushout_filled_r1 c_pushout_filled_r2 c_pushout_filled_r3 c_pushout_filled_r4 c_pushout_filled_r5 c_pushout_filled_r6 c_pushout_filled_r7 c_pushout_filled_r8 c_pushout_filled_r9 c_pushout_filled_r11 c_pushout_filled_r13 c_pushout_filled c_pushout_Mediate_r0 c_pushout_Mediate_r1 c_pushout_Mediate_r2 c_pushout_Mediate_r3 c_pushout_Mediate_r4 c_pushout_Mediate_r5 c_pushout_Mediate_r6 c_pushout_Mediate_r7 c_pushout_Mediate_r8 c_pushout_Mediate_r9 c_pushout_Mediate_r10 c_pushout_Mediate_r11 c_pushout_Mediate_r12 c_pushout_Mediate_r13 c_pushout_Mediate_r14 c_pushout_Mediate_r15 c_pushout_Mediate c_pushout_Check_r0 c_pushout_Check_r1 c_pushout_Check_r2 c_pushout_Check_r3 c_pushout_Check_r4 c_pushout_Check_r5 c_pushout_Check
def spD (s : Sp) : D := .agg [.lst 1 (ints s.a.n), .lst 3 (eds s.a.e), .lst 1 (ints s.b.n), .lst 3 (eds s.b.e), .lst 1 (ints s.c.n), .lst 3 (eds s.c.e), .lst 1 (ints s.f.n), .lst 1 (ints s.f.e), .lst 1 (ints s.g.n), .lst 1 (ints s.g.e)]
def poD (r : G × Mo × Mo × Int) : D := .tup [gA r.1, mA r.2.1, mA r.2.2.1, .int .i64 r.2.2.2]
def Sp.sm (s : Sp) : Prop := s.f.sm ∧ s.g.sm
def fillA (n : Nat) (p h q k : List Int) : Nat → List Int
  | 0 => List.replicate n 0
  | 1 => setL h p (List.replicate n 0) p.length
  | _ => ontoL n p h q k
section
variable (P : Program) (F : String → Nat)
def K_pushout_span : Prop := ∀ s : Sp, FC P (F "pushout.span") [spD s] (.int .i64 (spE s)) []
def K_pushout_glue : Prop := ∀ s : Sp, spE s = 0 → FC P (F "pushout.glue") [spD s] (poD (poR s)) []
def OnOk (n : Nat) (p h : List Int) : Prop := p.length ≤ 1000 ∧ h.length = p.length ∧ ∀ i : Nat, i < p.length → 0 ≤ gt p i ∧ gt p i < n
def K_pushout_filled : Prop := ∀ (n : Nat) (p h q k : List Int), n ≤ 1000 → OnOk n p h → OnOk n q k → FC P (F "pushout.filled") [.int .i64 n, .lst 1 [.lst 1 (ints p), .lst 1 (ints q)], .lst 1 [.lst 1 (ints h), .lst 1 (ints k)]] (.arr 1 (ints (ontoL n p h q k))) []
def K_pushout_Mediate : Prop := ∀ (s : Sp) (x : G) (h k : Mo), FC P (F "pushout.Mediate") [spD s, gD x, mD h, mD k] (.tup [mA (medP s x h k).1, .int .i64 (medP s x h k).2]) []
def K_pushout_Check : Prop := ∀ (s : Sp) (x : G) (h k : Mo), FC P (F "pushout.Check") [spD s, gD x, mD h, mD k] (.bool (chkP s x h k)) []
end
section
variable {P : Program} {F : String → Nat} {α : Type}
theorem w_pushout_span (hv : K_morphism_Valid P F) (s : Sp) : W P (c_pushout_span F) (Done [.t 2] [] (.int .i64 (spE s)) []) (init [spD s]) := by
  refine W_of ?_
  have r1 := hv s.a s.b s.f
  have r2 := hv s.a s.c s.g
  have : spE s = if validM s.a s.b s.f ≠ 0 then validM s.a s.b s.f else validM s.a s.c s.g := rfl
  rw [this]
  generalize validM s.a s.b s.f = u at *
  generalize validM s.a s.c s.g = v at *
  simp only [gD, mD] at r1 r2
  simp (config := { maxSteps := 1000000 }) (disch := first | omega | (simp only [go_sem]; omega)) only [go_sem, ↓reduceIte, spD]
  refine call_by r1 ?_
  simp (config := { maxSteps := 1000000 }) (disch := first | omega | (simp only [go_sem]; omega)) only [go_sem, ↓reduceIte]
  refine bran_ndec (fun c => ?_) (fun c => ?_)
  · simp (config := { maxSteps := 1000000 }) (disch := first | omega | (simp only [go_sem]; omega)) only [go_sem, ↓reduceIte]
    try simp [c]
  · subst c
    simp (config := { maxSteps := 1000000 }) (disch := first | omega | (simp only [go_sem]; omega)) only [go_sem, ↓reduceIte]
    refine call_by r2 ?_
    simp (config := { maxSteps := 1000000 }) (disch := first | omega | (simp only [go_sem]; omega)) only [go_sem, ↓reduceIte]
    try simp
theorem uniG_ok {b c : G} (vb : validG b = 0) (vc : validG c = 0) : uniG b c = if Big b c then (g0, m0, m0, 3) else (unG b c, idM b, inR b c, 0) := by
  unfold uniG
  rw [if_neg (by simp [vb]), if_neg (by simp [vc])]
  by_cases hb : Big b c
  · rw [if_pos hb]
    unfold Big at hb
    rw [if_pos hb]; rfl
  · rw [if_neg hb]
    unfold Big at hb
    rw [if_neg hb]; rfl
theorem poR_ok {s : Sp} (h : SOk s) : poR s = (poG s, poP s, poK s, 0) := by unfold poR; rw [if_pos (poErr_ok.2 h)]
theorem poR_big {s : Sp} (h : spE s = 0) (hb : Big s.b s.c) : poR s = (g0, m0, m0, 3) := by
  have : poErr s = 3 := by unfold poErr; rw [if_neg (by simp [h]), if_pos hb]
  unfold poR
  rw [this]; rfl
set_option maxHeartbeats 1000000 in
theorem w_pushout_glue (hu : K_graph_Union P F) (hp : K_pushout_pairs P F) (hq : K_pushout_quotient P F) (ht : K_pushout_then P F) (s : Sp) (he : spE s = 0) : W P (c_pushout_glue F) (Done [.c 2 true 2, .c 3 true 2, .c 4 true 2, .t 5] [] (poD (poR s)) []) (init [spD s]) := by
  refine W_of ?_
  obtain ⟨hf, hg⟩ := spE_ok.1 he
  have r1 := hu s.b s.c
  rw [uniG_ok hf.vb hg.vb] at r1
  by_cases hb : Big s.b s.c
  · rw [if_pos hb] at r1
    rw [poR_big he hb]
    simp only [uniD, gD, gA, mA, g0, m0] at r1
    simp (config := { maxSteps := 1000000 }) (disch := first | omega | (simp only [go_sem]; omega)) only [go_sem, ↓reduceIte, spD]
    refine call_by r1 ?_
    simp (config := { maxSteps := 1000000 }) (disch := first | omega | (simp only [go_sem]; omega)) only [go_sem, ↓reduceIte]
    refine bran_ndec (fun _ => ?_) (fun h => absurd h (by decide))
    simp (config := { maxSteps := 1000000 }) (disch := first | omega | (simp only [go_sem]; omega)) only [go_sem, ↓reduceIte]
    simp [poD, g0, m0, gA, mA, ints, eds]
  · rw [if_neg hb] at r1
    have hs : SOk s := ⟨hf, hg, hb⟩
    rw [poR_ok hs]
    have vu := un_ok hf.vb hg.vb hb
    have il := inL_ok hf.vb hg.vb hb
    have ir := inR_ok hf.vb hg.vb hb
    have va := valid_spec hf.va
    have vb := valid_spec hf.vb
    have vc := valid_spec hg.vb
    have ln := hf.ln
    have le := hf.le
    have mn := hg.ln
    have me := hg.le
    have bf := validM_bd (mok.2 hf)
    have bg := validM_bd (mok.2 hg)
    have bi := validM_bd (mok.2 il)
    have br := validM_bd (mok.2 ir)
    have iln := il.ln
    have ile := il.le
    have irn := ir.ln
    have ire := ir.le
    have p1 := hp s.f.n s.g.n (idM s.b).n (inR s.b s.c).n (by omega) (by omega) (by rw [iln]; exact bf.1) (by rw [irn]; exact bg.1)
    have p2 := hp s.f.e s.g.e (idM s.b).e (inR s.b s.c).e (by omega) (by omega) (by rw [ile]; exact bf.2) (by rw [ire]; exact bg.2)
    have q := hq (unG s.b s.c) (prL (poF s).n (poH s).n (poF s).n.length) (prL (poF s).e (poH s).e (poF s).e.length) vu
      (by rw [prL_len]; simp only [poF, thenM, thr_len]; omega) (by rw [prL_len]; simp only [poF, thenM, thr_len]; omega) (glu_prN hs.uF hs.uH) (glu_prE hs.uF hs.uH)
    rw [show quoG (unG s.b s.c) (genL (unG s.b s.c).n.length (prL (poF s).n (poH s).n (poF s).n.length)) (genL (unG s.b s.c).e.length (prL (poF s).e (poH s).e (poF s).e.length)) = poG s from rfl,
      show quoM (genL (unG s.b s.c).n.length (prL (poF s).n (poH s).n (poF s).n.length)) (genL (unG s.b s.c).e.length (prL (poF s).e (poH s).e (poF s).e.length)) = poQ s from rfl] at q
    rw [show prL (thr s.f.n (idM s.b).n) (thr s.g.n (inR s.b s.c).n) (thr s.f.n (idM s.b).n).length = prL (poF s).n (poH s).n (poF s).n.length from rfl] at p1
    rw [show prL (thr s.f.e (idM s.b).e) (thr s.g.e (inR s.b s.c).e) (thr s.f.e (idM s.b).e).length = prL (poF s).e (poH s).e (poF s).e.length from rfl] at p2
    have qn := hs.q.ln
    have qe := hs.q.le
    have t1 := ht (idM s.b) (poQ s) (by omega) (by omega) (by rw [qn]; exact bi.1) (by rw [qe]; exact bi.2)
    have t2 := ht (inR s.b s.c) (poQ s) (by omega) (by omega) (by rw [qn]; exact br.1) (by rw [qe]; exact br.2)
    rw [show thenM (idM s.b) (poQ s) = poP s from rfl] at t1
    rw [show thenM (inR s.b s.c) (poQ s) = poK s from rfl] at t2
    generalize prL (poF s).n (poH s).n (poF s).n.length = l1 at *
    generalize prL (poF s).e (poH s).e (poF s).e.length = l2 at *
    clear bf bg bi br il ir hs vu va vb vc hf hg he hb iln ile irn ire qn qe
    generalize poG s = d at *
    generalize poQ s = qq at *
    generalize poP s = pp at *
    generalize poK s = kk at *
    generalize unG s.b s.c = uu at *
    generalize idM s.b = ii at *
    generalize inR s.b s.c = jj at *
    obtain ⟨dn, de⟩ := d
    obtain ⟨un, ue⟩ := uu
    obtain ⟨qn, qe⟩ := qq
    obtain ⟨pn, pe⟩ := pp
    obtain ⟨kn, ke⟩ := kk
    obtain ⟨i1, i2⟩ := ii
    obtain ⟨j1, j2⟩ := jj
    simp only [uniD, gD, gA, mD, mA, spD, poD] at *
    simp (config := { maxSteps := 1000000 }) (disch := first | omega | (simp only [go_sem]; omega)) only [go_sem, ↓reduceIte]
    refine call_by r1 ?_
    simp (config := { maxSteps := 1000000 }) (disch := first | omega | (simp only [go_sem]; omega)) only [go_sem, ↓reduceIte]
    refine call_by p1 ?_
    simp (config := { maxSteps := 1000000 }) (disch := first | omega | (simp only [go_sem]; omega)) only [go_sem, ↓reduceIte]
    refine call_by p2 ?_
    simp (config := { maxSteps := 1000000 }) (disch := first | omega | (simp only [go_sem]; omega)) only [go_sem, ↓reduceIte]
    refine call_by q ?_
    simp (config := { maxSteps := 1000000 }) (disch := first | omega | (simp only [go_sem]; omega)) only [go_sem, ↓reduceIte]
    refine call_by t1 ?_
    simp (config := { maxSteps := 1000000 }) (disch := first | omega | (simp only [go_sem]; omega)) only [go_sem, ↓reduceIte]
    refine call_by t2 ?_
    simp (config := { maxSteps := 1000000 }) (disch := first | omega | (simp only [go_sem]; omega)) only [go_sem, ↓reduceIte]
    try rfl
set_option maxHeartbeats 1000000 in
theorem w_pushout_filled (n : Nat) (p h q k : List Int) (hn : n ≤ 1000) (h1 : OnOk n p h) (h2 : OnOk n q k) :
    W P (c_pushout_filled F) (Done [.t 6] [] (.arr 1 (ints (ontoL n p h q k))) []) (init [.int .i64 n, .lst 1 [.lst 1 (ints p), .lst 1 (ints q)], .lst 1 [.lst 1 (ints h), .lst 1 (ints k)]]) := by
  refine W_of ?_
  obtain ⟨p1, p2, p3⟩ := h1
  obtain ⟨q1, q2, q3⟩ := h2
  have a0 : fillA n p h q k 0 = List.replicate n 0 := rfl
  have a1 : fillA n p h q k 1 = setL h p (fillA n p h q k 0) p.length := rfl
  have a2 : fillA n p h q k 2 = setL k q (fillA n p h q k 1) q.length := rfl
  have aE : ontoL n p h q k = fillA n p h q k 2 := rfl
  have al : ∀ i, i ≤ 2 → (fillA n p h q k i).length = n := fun i hi => by
    have h3 : i = 0 ∨ i = 1 ∨ i = 2 := by omega
    rcases h3 with rfl | rfl | rfl
    · rw [a0]; simp
    · rw [a1, setL_len, a0]; simp
    · rw [a2, setL_len, a1, setL_len, a0]; simp
  rw [aE]
  clear aE
  generalize fillA n p h q k = A at *
  have sl : ∀ (x y z : List Int) (i : Nat), (setL x y z i).length = z.length := fun x y z i => setL_len x y z i
  have ss : ∀ (x y z : List Int) (i : Nat), setL x y z (i + 1) = (setL x y z i).set (gt y i).toNat (gt x i) := fun x y z i => rfl
  simp (config := { maxSteps := 1000000 }) (disch := first | omega | (simp only [go_sem]; omega)) only [go_sem, ↓reduceIte]
  refine W_loop (fun i : Nat => ⟨[(2, .lst 1 [.lst 1 (ints h), .lst 1 (ints k)]), (7, .sl 0 0 n), (14, .lst 1 [.lst 1 (ints p), .lst 1 (ints q)]), (15, .int .i64 (2 : Nat)), (16, .int .i64 i)], [(0, .arr 1 (ints (A i)))], 1⟩) (fun i => i ≤ 2) (fun i => 2 - i) 0 ?_ ?_ ?_
  · simp (config := { maxSteps := 1000000 }) (disch := first | omega | (simp only [go_sem]; omega)) only [go_sem, ↓reduceIte, a0]
    rfl
  · simp
  · intro i hi
    have h3 : i = 0 ∨ i = 1 ∨ i = 2 := by omega
    rcases h3 with rfl | rfl | rfl
    · have l0 := al 0 (by omega)
      simp (config := { maxSteps := 1000000 }) (disch := first | omega | (simp only [go_sem]; omega)) only [go_sem, ↓reduceIte, c_pushout_filled_b12]
      refine bran_dec (fun c => ?_) (fun c => absurd c (by omega))
      simp (config := { maxSteps := 1000000 }) (disch := first | omega | (simp only [go_sem]; omega)) only [go_sem, ↓reduceIte, l0]
      refine W_loop (fun j : Nat => ⟨[(2, .lst 1 [.lst 1 (ints h), .lst 1 (ints k)]), (7, .sl 0 0 n), (8, .int .i64 (0 : Nat)), (14, .lst 1 [.lst 1 (ints p), .lst 1 (ints q)]), (15, .int .i64 (2 : Nat)), (16, .int .i64 (0 : Nat)), (21, .lst 1 (ints p)), (22, .int .i64 p.length), (23, .int .i64 j)], [(0, .arr 1 (ints (setL h p (A 0) j)))], 1⟩) (fun j => j ≤ p.length) (fun j => p.length - j) 0 ?_ ?_ ?_
      · simp (config := { maxSteps := 1000000 }) (disch := first | omega | (simp only [go_sem]; omega)) only [go_sem, ↓reduceIte, setL]
        rfl
      · simp
      · intro j hj
        have lj := sl h p (A 0) j
        rw [l0] at lj
        have sj := ss h p (A 0) j
        by_cases c : j < p.length
        · have g1 : decide ((j : Int) < p.length) = true := decide_eq_true (by omega)
          obtain ⟨b1, b2⟩ := p3 j c
          generalize setL h p (A 0) j = z at *
          simp (config := { maxSteps := 1000000 }) (disch := first | omega | (simp only [go_sem]; omega)) only [go_sem, ↓reduceIte, c_pushout_filled_b10, g1, lj]
          exact ⟨j + 1, by simp [sj], by omega, by omega⟩
        · have g1 : decide ((j : Int) < p.length) = false := decide_eq_false (by omega)
          obtain rfl : j = p.length := by omega
          simp (config := { maxSteps := 1000000 }) (disch := first | omega | (simp only [go_sem]; omega)) only [go_sem, ↓reduceIte, c_pushout_filled_b10, g1, lj]
          exact ⟨1, by simp [a1], by omega, by omega⟩
    · have l0 := al 1 (by omega)
      simp (config := { maxSteps := 1000000 }) (disch := first | omega | (simp only [go_sem]; omega)) only [go_sem, ↓reduceIte, c_pushout_filled_b12]
      refine bran_dec (fun c => ?_) (fun c => absurd c (by omega))
      simp (config := { maxSteps := 1000000 }) (disch := first | omega | (simp only [go_sem]; omega)) only [go_sem, ↓reduceIte, l0]
      refine W_loop (fun j : Nat => ⟨[(2, .lst 1 [.lst 1 (ints h), .lst 1 (ints k)]), (7, .sl 0 0 n), (8, .int .i64 (1 : Nat)), (14, .lst 1 [.lst 1 (ints p), .lst 1 (ints q)]), (15, .int .i64 (2 : Nat)), (16, .int .i64 (1 : Nat)), (21, .lst 1 (ints q)), (22, .int .i64 q.length), (23, .int .i64 j)], [(0, .arr 1 (ints (setL k q (A 1) j)))], 1⟩) (fun j => j ≤ q.length) (fun j => q.length - j) 0 ?_ ?_ ?_
      · simp (config := { maxSteps := 1000000 }) (disch := first | omega | (simp only [go_sem]; omega)) only [go_sem, ↓reduceIte, setL]
        rfl
      · simp
      · intro j hj
        have lj := sl k q (A 1) j
        rw [l0] at lj
        have sj := ss k q (A 1) j
        by_cases c : j < q.length
        · have g1 : decide ((j : Int) < q.length) = true := decide_eq_true (by omega)
          obtain ⟨b1, b2⟩ := q3 j c
          generalize setL k q (A 1) j = z at *
          simp (config := { maxSteps := 1000000 }) (disch := first | omega | (simp only [go_sem]; omega)) only [go_sem, ↓reduceIte, c_pushout_filled_b10, g1, lj]
          exact ⟨j + 1, by simp [sj], by omega, by omega⟩
        · have g1 : decide ((j : Int) < q.length) = false := decide_eq_false (by omega)
          obtain rfl : j = q.length := by omega
          simp (config := { maxSteps := 1000000 }) (disch := first | omega | (simp only [go_sem]; omega)) only [go_sem, ↓reduceIte, c_pushout_filled_b10, g1, lj]
          exact ⟨2, by simp [a2], by omega, by omega⟩
    · have l0 := al 2 (by omega)
      simp (config := { maxSteps := 1000000 }) (disch := first | omega | (simp only [go_sem]; omega)) only [go_sem, ↓reduceIte, c_pushout_filled_b12]
      refine bran_dec (fun c => absurd c (by omega)) (fun c => ?_)
      simp (config := { maxSteps := 1000000 }) (disch := first | omega | (simp only [go_sem]; omega)) only [go_sem, ↓reduceIte, l0]
end
end Go.Am
