/- Morphisms: validity, comparison, composition. -/
/- slices.Sort at []int, out of the library's contract; slices.Compact; the number of images. -/
/- slices.Clone. -/
/- Pairs of numbers; injective morphisms. -/
/- slices.Compact at []int; injective and surjective morphisms. -/
/- Injective and surjective morphisms. -/
import Derived.Test.YtelmgaflhmcihaaGreatSpPa
import Derived.Sort.Grow
namespace Go.Am
open Go
set_option linter.unusedVariables false
set_option linter.unusedSimpArgs false
/- morphism.Valid -/
def c_morphism_Valid_r0 (F : String → Nat) : List LI := [⟨some 3, .bx (.t 0), none⟩,
  ⟨some 4, .bx (.t 1), none⟩,
  ⟨some 5, .bx (.t 2), none⟩,
  ⟨some 6, .mov (.k (.int .i64 (0))), none⟩]
def c_morphism_Valid_r1 (F : String → Nat) : List LI := [⟨some 15, .load true 2 (.t 3), none⟩,
  ⟨some 16, .call (F "graph.Valid") [.t 15] [], none⟩,
  ⟨some 7, .mov (.t 16), none⟩]
def c_morphism_Valid_r2 (F : String → Nat) : List LI := [⟨some 17, .mov (.t 7), none⟩,
  ⟨some 18, .bin .neq (.t 17) (.k (.int .i64 (0))), none⟩]
def c_morphism_Valid_r3 (F : String → Nat) : List LI := [⟨some 19, .mov (.t 7), none⟩,
  ⟨some 6, .mov (.t 19), none⟩]
def c_morphism_Valid_r4 (F : String → Nat) : List LI := [⟨some 20, .load true 2 (.t 4), none⟩,
  ⟨some 21, .call (F "graph.Valid") [.t 20] [], none⟩,
  ⟨some 8, .mov (.t 21), none⟩]
def c_morphism_Valid_r5 (F : String → Nat) : List LI := [⟨some 22, .mov (.t 8), none⟩,
  ⟨some 23, .bin .neq (.t 22) (.k (.int .i64 (0))), none⟩]
def c_morphism_Valid_r6 (F : String → Nat) : List LI := [⟨some 24, .mov (.t 8), none⟩,
  ⟨some 6, .mov (.t 24), none⟩]
def c_morphism_Valid_r7 (F : String → Nat) : List LI := [⟨some 25, .fad 0 (.t 5), none⟩,
  ⟨some 26, .load false 1 (.t 25), none⟩,
  ⟨some 27, .len (.t 26), none⟩,
  ⟨some 28, .fad 0 (.t 3), none⟩,
  ⟨some 29, .load false 1 (.t 28), none⟩,
  ⟨some 30, .len (.t 29), none⟩,
  ⟨some 31, .bin .neq (.t 27) (.t 30), none⟩,
  ⟨some 32, .mov (.t 31), none⟩,
  ⟨some 33, .fad 1 (.t 5), some (32, false)⟩,
  ⟨some 34, .load false 1 (.t 33), some (32, false)⟩,
  ⟨some 35, .len (.t 34), some (32, false)⟩,
  ⟨some 36, .fad 1 (.t 3), some (32, false)⟩,
  ⟨some 37, .load false 1 (.t 36), some (32, false)⟩,
  ⟨some 38, .len (.t 37), some (32, false)⟩,
  ⟨some 39, .bin .neq (.t 35) (.t 38), some (32, false)⟩,
  ⟨some 40, .pick (.t 32) (.k (.bool true)) (.t 39), none⟩]
def c_morphism_Valid_r8 (F : String → Nat) : List LI := [⟨some 6, .mov (.k (.int .i64 (20))), none⟩]
def c_morphism_Valid_r9 (F : String → Nat) : List LI := [⟨some 41, .fad 0 (.t 5), none⟩,
  ⟨some 42, .load false 1 (.t 41), none⟩,
  ⟨some 43, .len (.t 42), none⟩,
  ⟨some 44, .mov (.k (.int .i64 (0))), none⟩]
def c_morphism_Valid_r10 (F : String → Nat) : List LI := [⟨some 45, .bin .lss (.t 44) (.t 43), none⟩]
def c_morphism_Valid_r11 (F : String → Nat) : List LI := [⟨some 46, .mov (.t 44), none⟩,
  ⟨some 47, .iad 1 (.t 42) (.t 44), none⟩,
  ⟨some 48, .load false 1 (.t 47), none⟩,
  ⟨some 9, .mov (.t 46), none⟩,
  ⟨some 10, .mov (.t 48), none⟩]
def c_morphism_Valid_r12 (F : String → Nat) : List LI := [⟨some 49, .mov (.t 10), none⟩,
  ⟨some 50, .bin .lss (.t 49) (.k (.int .i64 (0))), none⟩,
  ⟨some 51, .mov (.t 50), none⟩,
  ⟨some 52, .mov (.t 10), some (51, false)⟩,
  ⟨some 53, .fad 0 (.t 4), some (51, false)⟩,
  ⟨some 54, .load false 1 (.t 53), some (51, false)⟩,
  ⟨some 55, .len (.t 54), some (51, false)⟩,
  ⟨some 56, .bin .geq (.t 52) (.t 55), some (51, false)⟩,
  ⟨some 57, .pick (.t 51) (.k (.bool true)) (.t 56), none⟩]
def c_morphism_Valid_r13 (F : String → Nat) : List LI := [⟨some 6, .mov (.k (.int .i64 (6))), none⟩]
def c_morphism_Valid_r14 (F : String → Nat) : List LI := [⟨some 58, .fad 0 (.t 4), none⟩,
  ⟨some 59, .load false 1 (.t 58), none⟩,
  ⟨some 60, .mov (.t 10), none⟩,
  ⟨some 61, .iad 1 (.t 59) (.t 60), none⟩,
  ⟨some 62, .load false 1 (.t 61), none⟩,
  ⟨some 63, .fad 0 (.t 3), none⟩,
  ⟨some 64, .load false 1 (.t 63), none⟩,
  ⟨some 65, .mov (.t 9), none⟩,
  ⟨some 66, .iad 1 (.t 64) (.t 65), none⟩,
  ⟨some 67, .load false 1 (.t 66), none⟩,
  ⟨some 68, .bin .neq (.t 62) (.t 67), none⟩]
def c_morphism_Valid_r15 (F : String → Nat) : List LI := [⟨some 6, .mov (.k (.int .i64 (13))), none⟩]
def c_morphism_Valid_r16 (F : String → Nat) : List LI := [⟨some 69, .bin .add (.t 44) (.k (.int .i64 (1))), none⟩,
  ⟨some 44, .mov (.t 69), none⟩]
def c_morphism_Valid_b17 (F : String → Nat) : LC := (.seq (.reg (c_morphism_Valid_r10 F) [3, 4, 5, 42, 43, 44, 45]) (.seq (.cond (.t 45) .skip (.exit 0)) (.seq (.block 1 (.seq (.reg (c_morphism_Valid_r11 F) [3, 4, 5, 9, 10, 42, 43, 44]) (.seq (.seq (.reg (c_morphism_Valid_r12 F) [3, 4, 5, 9, 10, 42, 43, 44, 57]) (.cond (.t 57) (.seq (.reg (c_morphism_Valid_r13 F) [6]) .ret) .skip)) (.seq (.dreg [] (c_morphism_Valid_r14 F) [3, 4, 5, 42, 43, 44, 68]) (.cond (.t 68) (.seq (.reg (c_morphism_Valid_r15 F) [6]) .ret) .skip))))) (.reg (c_morphism_Valid_r16 F) [3, 4, 5, 42, 43, 44]))))
def c_morphism_Valid_r18 (F : String → Nat) : List LI := [⟨some 70, .fad 1 (.t 5), none⟩,
  ⟨some 71, .load false 1 (.t 70), none⟩,
  ⟨some 72, .len (.t 71), none⟩,
  ⟨some 73, .mov (.k (.int .i64 (0))), none⟩]
def c_morphism_Valid_r19 (F : String → Nat) : List LI := [⟨some 74, .bin .lss (.t 73) (.t 72), none⟩]
def c_morphism_Valid_r20 (F : String → Nat) : List LI := [⟨some 75, .mov (.t 73), none⟩,
  ⟨some 76, .iad 1 (.t 71) (.t 73), none⟩,
  ⟨some 77, .load false 1 (.t 76), none⟩,
  ⟨some 11, .mov (.t 75), none⟩,
  ⟨some 12, .mov (.t 77), none⟩]
def c_morphism_Valid_r21 (F : String → Nat) : List LI := [⟨some 78, .mov (.t 12), none⟩,
  ⟨some 79, .bin .lss (.t 78) (.k (.int .i64 (0))), none⟩,
  ⟨some 80, .mov (.t 79), none⟩,
  ⟨some 81, .mov (.t 12), some (80, false)⟩,
  ⟨some 82, .fad 1 (.t 4), some (80, false)⟩,
  ⟨some 83, .load false 1 (.t 82), some (80, false)⟩,
  ⟨some 84, .len (.t 83), some (80, false)⟩,
  ⟨some 85, .bin .geq (.t 81) (.t 84), some (80, false)⟩,
  ⟨some 86, .pick (.t 80) (.k (.bool true)) (.t 85), none⟩]
def c_morphism_Valid_r22 (F : String → Nat) : List LI := [⟨some 6, .mov (.k (.int .i64 (6))), none⟩]
def c_morphism_Valid_r23 (F : String → Nat) : List LI := [⟨some 87, .fad 1 (.t 3), none⟩,
  ⟨some 88, .load false 1 (.t 87), none⟩,
  ⟨some 89, .mov (.t 11), none⟩,
  ⟨some 90, .iad 3 (.t 88) (.t 89), none⟩,
  ⟨some 91, .load true 3 (.t 90), none⟩,
  ⟨some 92, .fad 1 (.t 4), none⟩,
  ⟨some 93, .load false 1 (.t 92), none⟩,
  ⟨some 94, .mov (.t 12), none⟩,
  ⟨some 95, .iad 3 (.t 93) (.t 94), none⟩,
  ⟨some 96, .load true 3 (.t 95), none⟩,
  ⟨some 13, .alloc [.int .i64 (0), .int .i64 (0), .int .i64 (0)], none⟩,
  ⟨some 14, .alloc [.int .i64 (0), .int .i64 (0), .int .i64 (0)], none⟩,
  ⟨none, .store 3 (.t 13) (.t 91), none⟩,
  ⟨none, .store 3 (.t 14) (.t 96), none⟩]
def c_morphism_Valid_r24 (F : String → Nat) : List LI := [⟨some 97, .fad 0 (.t 13), none⟩,
  ⟨some 98, .load false 1 (.t 97), none⟩,
  ⟨some 99, .fad 0 (.t 14), none⟩,
  ⟨some 100, .load false 1 (.t 99), none⟩,
  ⟨some 101, .bin .neq (.t 98) (.t 100), none⟩]
def c_morphism_Valid_r25 (F : String → Nat) : List LI := [⟨some 6, .mov (.k (.int .i64 (13))), none⟩]
def c_morphism_Valid_r26 (F : String → Nat) : List LI := [⟨some 102, .fad 0 (.t 5), none⟩,
  ⟨some 103, .load false 1 (.t 102), none⟩,
  ⟨some 104, .fad 1 (.t 13), none⟩,
  ⟨some 105, .load false 1 (.t 104), none⟩,
  ⟨some 106, .iad 1 (.t 103) (.t 105), none⟩,
  ⟨some 107, .load false 1 (.t 106), none⟩,
  ⟨some 108, .fad 1 (.t 14), none⟩,
  ⟨some 109, .load false 1 (.t 108), none⟩,
  ⟨some 110, .bin .neq (.t 107) (.t 109), none⟩,
  ⟨some 111, .mov (.t 110), none⟩,
  ⟨some 112, .fad 0 (.t 5), some (111, false)⟩,
  ⟨some 113, .load false 1 (.t 112), some (111, false)⟩,
  ⟨some 114, .fad 2 (.t 13), some (111, false)⟩,
  ⟨some 115, .load false 1 (.t 114), some (111, false)⟩,
  ⟨some 116, .iad 1 (.t 113) (.t 115), some (111, false)⟩,
  ⟨some 117, .load false 1 (.t 116), some (111, false)⟩,
  ⟨some 118, .fad 2 (.t 14), some (111, false)⟩,
  ⟨some 119, .load false 1 (.t 118), some (111, false)⟩,
  ⟨some 120, .bin .neq (.t 117) (.t 119), some (111, false)⟩,
  ⟨some 121, .pick (.t 111) (.k (.bool true)) (.t 120), none⟩]
def c_morphism_Valid_r27 (F : String → Nat) : List LI := [⟨some 6, .mov (.k (.int .i64 (11))), none⟩]
def c_morphism_Valid_r28 (F : String → Nat) : List LI := [⟨some 122, .bin .add (.t 73) (.k (.int .i64 (1))), none⟩,
  ⟨some 73, .mov (.t 122), none⟩]
def c_morphism_Valid_b29 (F : String → Nat) : LC := (.seq (.reg (c_morphism_Valid_r19 F) [3, 4, 5, 71, 72, 73, 74]) (.seq (.cond (.t 74) .skip (.exit 2)) (.seq (.block 3 (.seq (.reg (c_morphism_Valid_r20 F) [3, 4, 5, 11, 12, 71, 72, 73]) (.seq (.seq (.reg (c_morphism_Valid_r21 F) [3, 4, 5, 11, 12, 71, 72, 73, 86]) (.cond (.t 86) (.seq (.reg (c_morphism_Valid_r22 F) [6]) .ret) .skip)) (.seq (.dreg [(6, none, [], true), (8, none, [], true), (9, none, [], true), (12, none, [6, 8, 9], false)] (c_morphism_Valid_r23 F) [3, 4, 5, 13, 14, 71, 72, 73]) (.seq (.seq (.reg (c_morphism_Valid_r24 F) [3, 4, 5, 13, 14, 71, 72, 73, 101]) (.cond (.t 101) (.seq (.reg (c_morphism_Valid_r25 F) [6]) .ret) .skip)) (.seq (.dreg [] (c_morphism_Valid_r26 F) [3, 4, 5, 71, 72, 73, 121]) (.cond (.t 121) (.seq (.reg (c_morphism_Valid_r27 F) [6]) .ret) .skip))))))) (.reg (c_morphism_Valid_r28 F) [3, 4, 5, 71, 72, 73]))))
def c_morphism_Valid_r30 (F : String → Nat) : List LI := [⟨some 6, .mov (.k (.int .i64 (0))), none⟩]
def c_morphism_Valid (F : String → Nat) : LC := (.seq (.reg (c_morphism_Valid_r0 F) [3, 4, 5]) (.seq (.seq (.reg (c_morphism_Valid_r1 F) [3, 4, 5, 7]) (.seq (.reg (c_morphism_Valid_r2 F) [3, 4, 5, 7, 18]) (.cond (.t 18) (.seq (.reg (c_morphism_Valid_r3 F) [6]) .ret) .skip))) (.seq (.seq (.reg (c_morphism_Valid_r4 F) [3, 4, 5, 8]) (.seq (.reg (c_morphism_Valid_r5 F) [3, 4, 5, 8, 23]) (.cond (.t 23) (.seq (.reg (c_morphism_Valid_r6 F) [6]) .ret) .skip))) (.seq (.seq (.reg (c_morphism_Valid_r7 F) [3, 4, 5, 40]) (.cond (.t 40) (.seq (.reg (c_morphism_Valid_r8 F) [6]) .ret) .skip)) (.seq (.seq (.reg (c_morphism_Valid_r9 F) [3, 4, 5, 42, 43, 44]) (.block 0 (.loop [3, 4, 5, 42, 43, 44] (c_morphism_Valid_b17 F)))) (.seq (.seq (.reg (c_morphism_Valid_r18 F) [3, 4, 5, 71, 72, 73]) (.block 2 (.loop [3, 4, 5, 71, 72, 73] (c_morphism_Valid_b29 F)))) (.seq (.reg (c_morphism_Valid_r30 F) [6]) .ret)))))))
def h_morphism_Valid : Hints := ⟨[], fun _ => [], tab [(0, [3, 4, 5]), (1, [3, 4, 5, 7]), (2, [3, 4, 5, 7, 18]), (3, [6]), (4, [3, 4, 5, 8]), (5, [3, 4, 5, 8, 23]), (6, [6]), (7, [3, 4, 5, 40]), (8, [6]), (9, [3, 4, 5, 42, 43, 44]), (10, [3, 4, 5, 42, 43, 44, 45]), (11, [3, 4, 5, 9, 10, 42, 43, 44]), (12, [3, 4, 5, 9, 10, 42, 43, 44, 57]), (13, [6]), (14, [3, 4, 5, 42, 43, 44, 68]), (15, [6]), (16, [3, 4, 5, 42, 43, 44]), (17, [3, 4, 5, 71, 72, 73]), (18, [3, 4, 5, 71, 72, 73, 74]), (19, [3, 4, 5, 11, 12, 71, 72, 73]), (20, [3, 4, 5, 11, 12, 71, 72, 73, 86]), (21, [6]), (22, [3, 4, 5, 13, 14, 71, 72, 73]), (23, [3, 4, 5, 13, 14, 71, 72, 73, 101]), (24, [6]), (25, [3, 4, 5, 71, 72, 73, 121]), (26, [6]), (27, [3, 4, 5, 71, 72, 73]), (28, [6])], tab [(10, [3, 4, 5, 42, 43, 44]), (18, [3, 4, 5, 71, 72, 73])]⟩

/- r06.Valid -/
def c_r06_Valid_r0 (F : String → Nat) : List LI := [⟨some 3, .bx (.t 0), none⟩,
  ⟨some 4, .bx (.t 1), none⟩,
  ⟨some 5, .bx (.t 2), none⟩,
  ⟨some 6, .mov (.k (.int .i64 (0))), none⟩]
def c_r06_Valid_r1 (F : String → Nat) : List LI := [⟨some 13, .load true 2 (.t 3), none⟩,
  ⟨some 14, .call (F "r05.Valid") [.t 13] [], none⟩,
  ⟨some 7, .mov (.t 14), none⟩]
def c_r06_Valid_r2 (F : String → Nat) : List LI := [⟨some 15, .mov (.t 7), none⟩,
  ⟨some 16, .bin .neq (.t 15) (.k (.int .i64 (0))), none⟩]
def c_r06_Valid_r3 (F : String → Nat) : List LI := [⟨some 17, .mov (.t 7), none⟩,
  ⟨some 6, .mov (.t 17), none⟩]
def c_r06_Valid_r4 (F : String → Nat) : List LI := [⟨some 18, .load true 2 (.t 4), none⟩,
  ⟨some 19, .call (F "r05.Valid") [.t 18] [], none⟩,
  ⟨some 8, .mov (.t 19), none⟩]
def c_r06_Valid_r5 (F : String → Nat) : List LI := [⟨some 20, .mov (.t 8), none⟩,
  ⟨some 21, .bin .neq (.t 20) (.k (.int .i64 (0))), none⟩]
def c_r06_Valid_r6 (F : String → Nat) : List LI := [⟨some 22, .mov (.t 8), none⟩,
  ⟨some 6, .mov (.t 22), none⟩]
def c_r06_Valid_r7 (F : String → Nat) : List LI := [⟨some 23, .fad 0 (.t 5), none⟩,
  ⟨some 24, .load false 1 (.t 23), none⟩,
  ⟨some 25, .len (.t 24), none⟩,
  ⟨some 26, .fad 0 (.t 3), none⟩,
  ⟨some 27, .load false 1 (.t 26), none⟩,
  ⟨some 28, .len (.t 27), none⟩,
  ⟨some 29, .bin .neq (.t 25) (.t 28), none⟩,
  ⟨some 30, .mov (.t 29), none⟩,
  ⟨some 31, .fad 1 (.t 5), some (30, false)⟩,
  ⟨some 32, .load false 1 (.t 31), some (30, false)⟩,
  ⟨some 33, .len (.t 32), some (30, false)⟩,
  ⟨some 34, .fad 1 (.t 3), some (30, false)⟩,
  ⟨some 35, .load false 1 (.t 34), some (30, false)⟩,
  ⟨some 36, .len (.t 35), some (30, false)⟩,
  ⟨some 37, .bin .neq (.t 33) (.t 36), some (30, false)⟩,
  ⟨some 38, .pick (.t 30) (.k (.bool true)) (.t 37), none⟩]
def c_r06_Valid_r8 (F : String → Nat) : List LI := [⟨some 6, .mov (.k (.int .i64 (20))), none⟩]
def c_r06_Valid_r9 (F : String → Nat) : List LI := [⟨some 9, .mov (.k (.int .i64 (0))), none⟩]
def c_r06_Valid_r10 (F : String → Nat) : List LI := [⟨some 39, .mov (.t 9), none⟩,
  ⟨some 40, .fad 0 (.t 3), none⟩,
  ⟨some 41, .load false 1 (.t 40), none⟩,
  ⟨some 42, .len (.t 41), none⟩,
  ⟨some 43, .bin .lss (.t 39) (.t 42), none⟩]
def c_r06_Valid_r11 (F : String → Nat) : List LI := [⟨some 46, .fad 0 (.t 5), none⟩,
  ⟨some 47, .load false 1 (.t 46), none⟩,
  ⟨some 48, .mov (.t 9), none⟩,
  ⟨some 49, .iad 1 (.t 47) (.t 48), none⟩,
  ⟨some 50, .load false 1 (.t 49), none⟩,
  ⟨some 51, .bin .lss (.t 50) (.k (.int .i64 (0))), none⟩,
  ⟨some 52, .mov (.t 51), none⟩,
  ⟨some 53, .fad 0 (.t 5), some (52, false)⟩,
  ⟨some 54, .load false 1 (.t 53), some (52, false)⟩,
  ⟨some 55, .mov (.t 9), some (52, false)⟩,
  ⟨some 56, .iad 1 (.t 54) (.t 55), some (52, false)⟩,
  ⟨some 57, .load false 1 (.t 56), some (52, false)⟩,
  ⟨some 58, .fad 0 (.t 4), some (52, false)⟩,
  ⟨some 59, .load false 1 (.t 58), some (52, false)⟩,
  ⟨some 60, .len (.t 59), some (52, false)⟩,
  ⟨some 61, .bin .geq (.t 57) (.t 60), some (52, false)⟩,
  ⟨some 62, .pick (.t 52) (.k (.bool true)) (.t 61), none⟩]
def c_r06_Valid_r12 (F : String → Nat) : List LI := [⟨some 6, .mov (.k (.int .i64 (6))), none⟩]
def c_r06_Valid_r13 (F : String → Nat) : List LI := [⟨some 63, .fad 0 (.t 4), none⟩,
  ⟨some 64, .load false 1 (.t 63), none⟩,
  ⟨some 65, .fad 0 (.t 5), none⟩,
  ⟨some 66, .load false 1 (.t 65), none⟩,
  ⟨some 67, .mov (.t 9), none⟩,
  ⟨some 68, .iad 1 (.t 66) (.t 67), none⟩,
  ⟨some 69, .load false 1 (.t 68), none⟩,
  ⟨some 70, .iad 1 (.t 64) (.t 69), none⟩,
  ⟨some 71, .load false 1 (.t 70), none⟩,
  ⟨some 72, .fad 0 (.t 3), none⟩,
  ⟨some 73, .load false 1 (.t 72), none⟩,
  ⟨some 74, .mov (.t 9), none⟩,
  ⟨some 75, .iad 1 (.t 73) (.t 74), none⟩,
  ⟨some 76, .load false 1 (.t 75), none⟩,
  ⟨some 77, .bin .neq (.t 71) (.t 76), none⟩]
def c_r06_Valid_r14 (F : String → Nat) : List LI := [⟨some 6, .mov (.k (.int .i64 (13))), none⟩]
def c_r06_Valid_r15 (F : String → Nat) : List LI := [⟨some 44, .mov (.t 9), none⟩,
  ⟨some 45, .bin .add (.t 44) (.k (.int .i64 (1))), none⟩,
  ⟨some 9, .mov (.t 45), none⟩]
def c_r06_Valid_b16 (F : String → Nat) : LC := (.seq (.seq (.reg (c_r06_Valid_r10 F) [3, 4, 5, 9, 43]) (.cond (.t 43) .skip (.exit 0))) (.seq (.block 1 (.seq (.seq (.dreg [] (c_r06_Valid_r11 F) [3, 4, 5, 9, 62]) (.cond (.t 62) (.seq (.reg (c_r06_Valid_r12 F) [6]) .ret) .skip)) (.seq (.dreg [] (c_r06_Valid_r13 F) [3, 4, 5, 9, 77]) (.cond (.t 77) (.seq (.reg (c_r06_Valid_r14 F) [6]) .ret) .skip)))) (.reg (c_r06_Valid_r15 F) [3, 4, 5, 9])))
def c_r06_Valid_r17 (F : String → Nat) : List LI := [⟨some 10, .mov (.k (.int .i64 (0))), none⟩]
def c_r06_Valid_r18 (F : String → Nat) : List LI := [⟨some 78, .mov (.t 10), none⟩,
  ⟨some 79, .fad 1 (.t 3), none⟩,
  ⟨some 80, .load false 1 (.t 79), none⟩,
  ⟨some 81, .len (.t 80), none⟩,
  ⟨some 82, .bin .lss (.t 78) (.t 81), none⟩]
def c_r06_Valid_r19 (F : String → Nat) : List LI := [⟨some 85, .fad 1 (.t 5), none⟩,
  ⟨some 86, .load false 1 (.t 85), none⟩,
  ⟨some 87, .mov (.t 10), none⟩,
  ⟨some 88, .iad 1 (.t 86) (.t 87), none⟩,
  ⟨some 89, .load false 1 (.t 88), none⟩,
  ⟨some 90, .bin .lss (.t 89) (.k (.int .i64 (0))), none⟩,
  ⟨some 91, .mov (.t 90), none⟩,
  ⟨some 92, .fad 1 (.t 5), some (91, false)⟩,
  ⟨some 93, .load false 1 (.t 92), some (91, false)⟩,
  ⟨some 94, .mov (.t 10), some (91, false)⟩,
  ⟨some 95, .iad 1 (.t 93) (.t 94), some (91, false)⟩,
  ⟨some 96, .load false 1 (.t 95), some (91, false)⟩,
  ⟨some 97, .fad 1 (.t 4), some (91, false)⟩,
  ⟨some 98, .load false 1 (.t 97), some (91, false)⟩,
  ⟨some 99, .len (.t 98), some (91, false)⟩,
  ⟨some 100, .bin .geq (.t 96) (.t 99), some (91, false)⟩,
  ⟨some 101, .pick (.t 91) (.k (.bool true)) (.t 100), none⟩]
def c_r06_Valid_r20 (F : String → Nat) : List LI := [⟨some 6, .mov (.k (.int .i64 (6))), none⟩]
def c_r06_Valid_r21 (F : String → Nat) : List LI := [⟨some 102, .fad 1 (.t 3), none⟩,
  ⟨some 103, .load false 1 (.t 102), none⟩,
  ⟨some 104, .mov (.t 10), none⟩,
  ⟨some 105, .iad 3 (.t 103) (.t 104), none⟩,
  ⟨some 106, .load true 3 (.t 105), none⟩,
  ⟨some 107, .fad 1 (.t 4), none⟩,
  ⟨some 108, .load false 1 (.t 107), none⟩,
  ⟨some 109, .fad 1 (.t 5), none⟩,
  ⟨some 110, .load false 1 (.t 109), none⟩,
  ⟨some 111, .mov (.t 10), none⟩,
  ⟨some 112, .iad 1 (.t 110) (.t 111), none⟩,
  ⟨some 113, .load false 1 (.t 112), none⟩,
  ⟨some 114, .iad 3 (.t 108) (.t 113), none⟩,
  ⟨some 115, .load true 3 (.t 114), none⟩,
  ⟨some 11, .alloc [.int .i64 (0), .int .i64 (0), .int .i64 (0)], none⟩,
  ⟨some 12, .alloc [.int .i64 (0), .int .i64 (0), .int .i64 (0)], none⟩,
  ⟨none, .store 3 (.t 11) (.t 106), none⟩,
  ⟨none, .store 3 (.t 12) (.t 115), none⟩]
def c_r06_Valid_r22 (F : String → Nat) : List LI := [⟨some 116, .fad 0 (.t 11), none⟩,
  ⟨some 117, .load false 1 (.t 116), none⟩,
  ⟨some 118, .fad 0 (.t 12), none⟩,
  ⟨some 119, .load false 1 (.t 118), none⟩,
  ⟨some 120, .bin .neq (.t 117) (.t 119), none⟩]
def c_r06_Valid_r23 (F : String → Nat) : List LI := [⟨some 6, .mov (.k (.int .i64 (13))), none⟩]
def c_r06_Valid_r24 (F : String → Nat) : List LI := [⟨some 121, .fad 0 (.t 5), none⟩,
  ⟨some 122, .load false 1 (.t 121), none⟩,
  ⟨some 123, .fad 1 (.t 11), none⟩,
  ⟨some 124, .load false 1 (.t 123), none⟩,
  ⟨some 125, .iad 1 (.t 122) (.t 124), none⟩,
  ⟨some 126, .load false 1 (.t 125), none⟩,
  ⟨some 127, .fad 1 (.t 12), none⟩,
  ⟨some 128, .load false 1 (.t 127), none⟩,
  ⟨some 129, .bin .neq (.t 126) (.t 128), none⟩,
  ⟨some 130, .mov (.t 129), none⟩,
  ⟨some 131, .fad 0 (.t 5), some (130, false)⟩,
  ⟨some 132, .load false 1 (.t 131), some (130, false)⟩,
  ⟨some 133, .fad 2 (.t 11), some (130, false)⟩,
  ⟨some 134, .load false 1 (.t 133), some (130, false)⟩,
  ⟨some 135, .iad 1 (.t 132) (.t 134), some (130, false)⟩,
  ⟨some 136, .load false 1 (.t 135), some (130, false)⟩,
  ⟨some 137, .fad 2 (.t 12), some (130, false)⟩,
  ⟨some 138, .load false 1 (.t 137), some (130, false)⟩,
  ⟨some 139, .bin .neq (.t 136) (.t 138), some (130, false)⟩,
  ⟨some 140, .pick (.t 130) (.k (.bool true)) (.t 139), none⟩]
def c_r06_Valid_r25 (F : String → Nat) : List LI := [⟨some 6, .mov (.k (.int .i64 (11))), none⟩]
def c_r06_Valid_r26 (F : String → Nat) : List LI := [⟨some 83, .mov (.t 10), none⟩,
  ⟨some 84, .bin .add (.t 83) (.k (.int .i64 (1))), none⟩,
  ⟨some 10, .mov (.t 84), none⟩]
def c_r06_Valid_b27 (F : String → Nat) : LC := (.seq (.seq (.reg (c_r06_Valid_r18 F) [3, 4, 5, 10, 82]) (.cond (.t 82) .skip (.exit 2))) (.seq (.block 3 (.seq (.seq (.dreg [] (c_r06_Valid_r19 F) [3, 4, 5, 10, 101]) (.cond (.t 101) (.seq (.reg (c_r06_Valid_r20 F) [6]) .ret) .skip)) (.seq (.dreg [(6, none, [], true), (8, none, [], true), (10, none, [], true), (11, none, [], true), (12, none, [], true), (13, none, [], true), (16, none, [6, 8, 10, 11, 12, 13], false)] (c_r06_Valid_r21 F) [3, 4, 5, 10, 11, 12]) (.seq (.seq (.reg (c_r06_Valid_r22 F) [3, 4, 5, 10, 11, 12, 120]) (.cond (.t 120) (.seq (.reg (c_r06_Valid_r23 F) [6]) .ret) .skip)) (.seq (.dreg [] (c_r06_Valid_r24 F) [3, 4, 5, 10, 140]) (.cond (.t 140) (.seq (.reg (c_r06_Valid_r25 F) [6]) .ret) .skip)))))) (.reg (c_r06_Valid_r26 F) [3, 4, 5, 10])))
def c_r06_Valid_r28 (F : String → Nat) : List LI := [⟨some 6, .mov (.k (.int .i64 (0))), none⟩]
def c_r06_Valid (F : String → Nat) : LC := (.seq (.reg (c_r06_Valid_r0 F) [3, 4, 5]) (.seq (.seq (.reg (c_r06_Valid_r1 F) [3, 4, 5, 7]) (.seq (.reg (c_r06_Valid_r2 F) [3, 4, 5, 7, 16]) (.cond (.t 16) (.seq (.reg (c_r06_Valid_r3 F) [6]) .ret) .skip))) (.seq (.seq (.reg (c_r06_Valid_r4 F) [3, 4, 5, 8]) (.seq (.reg (c_r06_Valid_r5 F) [3, 4, 5, 8, 21]) (.cond (.t 21) (.seq (.reg (c_r06_Valid_r6 F) [6]) .ret) .skip))) (.seq (.seq (.reg (c_r06_Valid_r7 F) [3, 4, 5, 38]) (.cond (.t 38) (.seq (.reg (c_r06_Valid_r8 F) [6]) .ret) .skip)) (.seq (.seq (.reg (c_r06_Valid_r9 F) [3, 4, 5, 9]) (.block 0 (.loop [3, 4, 5, 9] (c_r06_Valid_b16 F)))) (.seq (.seq (.reg (c_r06_Valid_r17 F) [3, 4, 5, 10]) (.block 2 (.loop [3, 4, 5, 10] (c_r06_Valid_b27 F)))) (.seq (.reg (c_r06_Valid_r28 F) [6]) .ret)))))))
def h_r06_Valid : Hints := ⟨[], fun _ => [], tab [(0, [3, 4, 5]), (1, [3, 4, 5, 7]), (2, [3, 4, 5, 7, 16]), (3, [6]), (4, [3, 4, 5, 8]), (5, [3, 4, 5, 8, 21]), (6, [6]), (7, [3, 4, 5, 38]), (8, [6]), (9, [3, 4, 5, 9]), (10, [3, 4, 5, 9, 43]), (11, [3, 4, 5, 9]), (12, [3, 4, 5, 9, 62]), (13, [6]), (14, [3, 4, 5, 9, 77]), (15, [6]), (16, [3, 4, 5, 10]), (17, [3, 4, 5, 10, 82]), (18, [3, 4, 5, 10]), (19, [3, 4, 5, 10, 101]), (20, [6]), (21, [3, 4, 5, 10, 11, 12]), (22, [3, 4, 5, 10, 11, 12, 120]), (23, [6]), (24, [3, 4, 5, 10, 140]), (25, [6]), (26, [6])], tab [(10, [3, 4, 5, 9]), (17, [3, 4, 5, 10])]⟩

/- r02.SameInts -/
def c_r02_SameInts_r0 (F : String → Nat) : List LI := [⟨some 4, .mov (.k (.bool false)), none⟩]
def c_r02_SameInts_r1 (F : String → Nat) : List LI := [⟨some 6, .mov (.t 0), none⟩,
  ⟨some 7, .len (.t 6), none⟩,
  ⟨some 8, .mov (.t 1), none⟩,
  ⟨some 9, .len (.t 8), none⟩,
  ⟨some 10, .bin .neq (.t 7) (.t 9), none⟩]
def c_r02_SameInts_r2 (F : String → Nat) : List LI := [⟨some 4, .mov (.k (.bool false)), none⟩]
def c_r02_SameInts_r3 (F : String → Nat) : List LI := [⟨some 5, .mov (.k (.int .i64 (0))), none⟩]
def c_r02_SameInts_r4 (F : String → Nat) : List LI := [⟨some 11, .mov (.t 5), none⟩,
  ⟨some 12, .mov (.t 0), none⟩,
  ⟨some 13, .len (.t 12), none⟩,
  ⟨some 14, .bin .lss (.t 11) (.t 13), none⟩]
def c_r02_SameInts_r5 (F : String → Nat) : List LI := [⟨some 17, .mov (.t 0), none⟩,
  ⟨some 18, .mov (.t 5), none⟩,
  ⟨some 19, .iad 1 (.t 17) (.t 18), none⟩,
  ⟨some 20, .load false 1 (.t 19), none⟩,
  ⟨some 21, .mov (.t 1), none⟩,
  ⟨some 22, .mov (.t 5), none⟩,
  ⟨some 23, .iad 1 (.t 21) (.t 22), none⟩,
  ⟨some 24, .load false 1 (.t 23), none⟩,
  ⟨some 25, .bin .neq (.t 20) (.t 24), none⟩]
def c_r02_SameInts_r6 (F : String → Nat) : List LI := [⟨some 4, .mov (.k (.bool false)), none⟩]
def c_r02_SameInts_r7 (F : String → Nat) : List LI := [⟨some 15, .mov (.t 5), none⟩,
  ⟨some 16, .bin .add (.t 15) (.k (.int .i64 (1))), none⟩,
  ⟨some 5, .mov (.t 16), none⟩]
def c_r02_SameInts_b8 (F : String → Nat) : LC := (.seq (.seq (.reg (c_r02_SameInts_r4 F) [0, 1, 5, 14]) (.cond (.t 14) .skip (.exit 0))) (.seq (.block 1 (.seq (.dreg [] (c_r02_SameInts_r5 F) [0, 1, 5, 25]) (.cond (.t 25) (.seq (.reg (c_r02_SameInts_r6 F) [4]) .ret) .skip))) (.reg (c_r02_SameInts_r7 F) [0, 1, 5])))
def c_r02_SameInts_r9 (F : String → Nat) : List LI := [⟨some 4, .mov (.k (.bool true)), none⟩]
def c_r02_SameInts (F : String → Nat) : LC := (.seq (.reg (c_r02_SameInts_r0 F) [0, 1]) (.seq (.seq (.reg (c_r02_SameInts_r1 F) [0, 1, 10]) (.cond (.t 10) (.seq (.reg (c_r02_SameInts_r2 F) [4]) .ret) .skip)) (.seq (.seq (.reg (c_r02_SameInts_r3 F) [0, 1, 5]) (.block 0 (.loop [0, 1, 5] (c_r02_SameInts_b8 F)))) (.seq (.reg (c_r02_SameInts_r9 F) [4]) .ret))))
def h_r02_SameInts : Hints := ⟨[], fun _ => [], tab [(0, [0, 1]), (1, [0, 1, 10]), (2, [4]), (3, [0, 1, 5]), (4, [0, 1, 5, 14]), (5, [0, 1, 5]), (6, [0, 1, 5, 25]), (7, [4]), (8, [4])], tab [(4, [0, 1, 5])]⟩

/- r06.Same -/
def c_r06_Same_r0 (F : String → Nat) : List LI := [⟨some 2, .bx (.t 0), none⟩,
  ⟨some 3, .bx (.t 1), none⟩,
  ⟨some 4, .mov (.k (.bool false)), none⟩]
def c_r06_Same_r1 (F : String → Nat) : List LI := [⟨some 5, .fad 0 (.t 2), none⟩,
  ⟨some 6, .load false 1 (.t 5), none⟩,
  ⟨some 7, .fad 0 (.t 3), none⟩,
  ⟨some 8, .load false 1 (.t 7), none⟩,
  ⟨some 9, .call (F "r02.SameInts") [.t 6, .t 8] [], none⟩,
  ⟨some 10, .mov (.t 9), none⟩,
  ⟨some 11, .fad 1 (.t 2), some (10, true)⟩,
  ⟨some 12, .load false 1 (.t 11), some (10, true)⟩,
  ⟨some 13, .fad 1 (.t 3), some (10, true)⟩,
  ⟨some 14, .load false 1 (.t 13), some (10, true)⟩,
  ⟨some 15, .call (F "r02.SameInts") [.t 12, .t 14] [], some (10, true)⟩,
  ⟨some 16, .pick (.t 10) (.t 15) (.k (.bool false)), none⟩,
  ⟨some 4, .mov (.t 16), none⟩]
def c_r06_Same (F : String → Nat) : LC := (.seq (.reg (c_r06_Same_r0 F) [2, 3]) (.seq (.reg (c_r06_Same_r1 F) [4]) .ret))
def h_r06_Same : Hints := ⟨[], fun _ => [], tab [(0, [2, 3]), (1, [4])], tab []⟩

/- r06.Through -/
def c_r06_Through_r0 (F : String → Nat) : List LI := [⟨some 4, .mov (.k (.nl 1)), none⟩]
def c_r06_Through_r1 (F : String → Nat) : List LI := [⟨some 5, .mov (.k (.nl 1)), none⟩]
def c_r06_Through_r2 (F : String → Nat) : List LI := [⟨some 6, .mov (.k (.int .i64 (0))), none⟩]
def c_r06_Through_r3 (F : String → Nat) : List LI := [⟨some 7, .mov (.t 6), none⟩,
  ⟨some 8, .mov (.t 0), none⟩,
  ⟨some 9, .len (.t 8), none⟩,
  ⟨some 10, .bin .lss (.t 7) (.t 9), none⟩]
def c_r06_Through_r4 (F : String → Nat) : List LI := [⟨some 13, .mov (.t 5), none⟩,
  ⟨some 14, .mov (.t 1), none⟩,
  ⟨some 15, .mov (.t 0), none⟩,
  ⟨some 16, .mov (.t 6), none⟩,
  ⟨some 17, .iad 1 (.t 15) (.t 16), none⟩,
  ⟨some 18, .load false 1 (.t 17), none⟩,
  ⟨some 19, .iad 1 (.t 14) (.t 18), none⟩,
  ⟨some 20, .load false 1 (.t 19), none⟩,
  ⟨some 21, .buildSl 1 8 (.int .i64 (0)) 1 [(0, .t 20)], none⟩,
  ⟨some 22, .app 1 8 (.t 13) (.t 21), none⟩,
  ⟨some 5, .mov (.t 22), none⟩]
def c_r06_Through_r5 (F : String → Nat) : List LI := [⟨some 11, .mov (.t 6), none⟩,
  ⟨some 12, .bin .add (.t 11) (.k (.int .i64 (1))), none⟩,
  ⟨some 6, .mov (.t 12), none⟩]
def c_r06_Through_b6 (F : String → Nat) : LC := (.seq (.seq (.reg (c_r06_Through_r3 F) [0, 1, 5, 6, 10]) (.cond (.t 10) .skip (.exit 0))) (.seq (.block 1 (.reg (c_r06_Through_r4 F) [0, 1, 5, 6])) (.reg (c_r06_Through_r5 F) [0, 1, 5, 6])))
def c_r06_Through_r7 (F : String → Nat) : List LI := [⟨some 23, .mov (.t 5), none⟩,
  ⟨some 4, .mov (.t 23), none⟩]
def c_r06_Through (F : String → Nat) : LC := (.seq (.reg (c_r06_Through_r0 F) [0, 1]) (.seq (.reg (c_r06_Through_r1 F) [0, 1, 5]) (.seq (.seq (.reg (c_r06_Through_r2 F) [0, 1, 5, 6]) (.block 0 (.loop [0, 1, 5, 6] (c_r06_Through_b6 F)))) (.seq (.reg (c_r06_Through_r7 F) [4]) .ret))))
def h_r06_Through : Hints := ⟨[], fun _ => [], tab [(0, [0, 1]), (1, [0, 1, 5]), (2, [0, 1, 5, 6]), (3, [0, 1, 5, 6, 10]), (4, [0, 1, 5, 6]), (5, [0, 1, 5, 6]), (6, [4])], tab [(3, [0, 1, 5, 6])]⟩

/- r06.Then -/
def c_r06_Then_r0 (F : String → Nat) : List LI := [⟨some 2, .bx (.t 0), none⟩,
  ⟨some 3, .bx (.t 1), none⟩,
  ⟨some 4, .alloc [.nl 1, .nl 1], none⟩]
def c_r06_Then_r1 (F : String → Nat) : List LI := [⟨some 5, .fad 0 (.t 2), none⟩,
  ⟨some 6, .load false 1 (.t 5), none⟩,
  ⟨some 7, .fad 0 (.t 3), none⟩,
  ⟨some 8, .load false 1 (.t 7), none⟩,
  ⟨some 9, .call (F "r06.Through") [.t 6, .t 8] [], none⟩,
  ⟨some 10, .fad 1 (.t 2), none⟩,
  ⟨some 11, .load false 1 (.t 10), none⟩,
  ⟨some 12, .fad 1 (.t 3), none⟩,
  ⟨some 13, .load false 1 (.t 12), none⟩,
  ⟨some 14, .call (F "r06.Through") [.t 11, .t 13] [], none⟩,
  ⟨some 15, .build [.nl 1, .nl 1] [(0, 1, .t 9), (1, 1, .t 14)], none⟩,
  ⟨none, .store 2 (.t 4) (.t 15), none⟩]
def c_r06_Then (F : String → Nat) : LC := (.seq (.reg (c_r06_Then_r0 F) [2, 3, 4]) (.seq (.dreg [(4, none, [], true), (6, (some 32), [4], false), (8, (some 128), [4], false)] (c_r06_Then_r1 F) [4]) .ret))
def h_r06_Then : Hints := ⟨[], fun _ => [], tab [(0, [2, 3, 4]), (1, [4])], tab []⟩

/- r06.Few -/
def c_r06_Few_r0 (F : String → Nat) : List LI := [⟨some 2, .bx (.t 0), none⟩,
  ⟨some 4, .mov (.k (.bool false)), none⟩]
def c_r06_Few_r1 (F : String → Nat) : List LI := [⟨some 5, .fad 0 (.t 2), none⟩,
  ⟨some 6, .load false 1 (.t 5), none⟩,
  ⟨some 7, .len (.t 6), none⟩,
  ⟨some 8, .fad 1 (.t 2), none⟩,
  ⟨some 9, .load false 1 (.t 8), none⟩,
  ⟨some 10, .len (.t 9), none⟩,
  ⟨some 11, .bin .add (.t 7) (.t 10), none⟩,
  ⟨some 12, .mov (.t 1), none⟩,
  ⟨some 13, .bin .leq (.t 11) (.t 12), none⟩,
  ⟨some 4, .mov (.t 13), none⟩]
def c_r06_Few (F : String → Nat) : LC := (.seq (.reg (c_r06_Few_r0 F) [1, 2]) (.seq (.reg (c_r06_Few_r1 F) [4]) .ret))
def h_r06_Few : Hints := ⟨[], fun _ => [], tab [(0, [1, 2]), (1, [4])], tab []⟩

attribute [go_sem] c_morphism_Valid_r0 c_morphism_Valid_r1 c_morphism_Valid_r2 c_morphism_Valid_r3 c_morphism_Valid_r4 c_morphism_Valid_r5 c_morphism_Valid_r6 c_morphism_Valid_r7 c_morphism_Valid_r8 c_morphism_Valid_r9 c_morphism_Valid_r10 c_morphism_Valid_r11 c_morphism_Valid_r12 c_morphism_Valid_r13 c_morphism_Valid_r14 c_morphism_Valid_r15 c_morphism_Valid_r16 c_morphism_Valid_r18 c_morphism_Valid_r19 c_morphism_Valid_r20 c_morphism_Valid_r21 c_morphism_Valid_r22 c_morphism_Valid_r23 c_morphism_Valid_r24 c_morphism_Valid_r25 c_morphism_Valid_r26 c_morphism_Valid_r27 c_morphism_Valid_r28 c_morphism_Valid_r30 c_morphism_Valid c_r06_Valid_r0 c_r06_Valid_r1 c_r06_Valid_r2 c_r06_Valid_r3 c_r06_Valid_r4 c_r06_Valid_r5 c_r06_Valid_r6 c_r06_Valid_r7 c_r06_Valid_r8 c_r06_Valid_r9 c_r06_Valid_r10 c_r06_Valid_r11 c_r06_Valid_r12 c_r06_Valid_r13 c_r06_Valid_r14 c_r06_Valid_r15 c_r06_Valid_r17 c_r06_Valid_r18 c_r06_Valid_r19 c_r06_Valid_r20 c_r06_Valid_r21 c_r06_Valid_r22 c_r06_Valid_r23 c_r06_Valid_r24 c_r06_Valid_r25 c_r06_Valid_r26 c_r06_Valid_r28 c_r06_Valid c_r02_SameInts_r0 c_r02_SameInts_r1 c_r02_SameInts_r2 c_r02_SameInts_r3 c_r02_SameInts_r4 c_r02_SameInts_r5 c_r02_SameInts_r6 c_r02_SameInts_r7 c_r02_SameInts_r9 c_r02_SameInts c_r06_Same_r0 c_r06_Same_r1 c_r06_Same c_r06_Through_r0 c_r06_Through_r1 c_r06_Through_r2 c_r06_Through_r3 c_r06_Through_r4 c_r06_Through_r5 c_r06_Through_r7 c_r06_Through c_r06_Then_r0 c_r06_Then_r1 c_r06_Then c_r06_Few_r0 c_r06_Few_r1 c_r06_Few
/-- What is wrong with images of nodes. -/
def nodeE (bn : List Int) : List Int → List Int → Int
  | k :: ms, t :: as => if 0 ≤ k ∧ k < bn.length then (if gt bn k = t then nodeE bn ms as else 13) else 6
  | _, _ => 0
/-- What is wrong with images of edges. -/
def edgeE (be : List E) (mn : List Int) : List Int → List E → Int
  | k :: ms, x :: as => if 0 ≤ k ∧ k < be.length then (if x.t = (gt be k).t then (if gt mn x.f = (gt be k).f ∧ gt mn x.o = (gt be k).o then edgeE be mn ms as else 11) else 13) else 6
  | _, _ => 0
def validM (a b : G) (m : Mo) : Int :=
  if validG a ≠ 0 then validG a else if validG b ≠ 0 then validG b else if m.n.length ≠ a.n.length ∨ m.e.length ≠ a.e.length then 20
  else if nodeE b.n m.n a.n ≠ 0 then nodeE b.n m.n a.n else edgeE b.e m.n m.e a.e
def thr (l by_ : List Int) : List Int := l.map fun x => gt by_ x
def thenM (m n : Mo) : Mo := ⟨thr m.n n.n, thr m.e n.e⟩
def fewM (m : Mo) (n : Int) : Bool := decide ((m.n.length : Int) + m.e.length ≤ n)
section
variable (P : Program) (F : String → Nat)
def K_morphism_Valid : Prop := ∀ (a b : G) (m : Mo), FC P (F "morphism.Valid") [gD a, gD b, mD m] (.int .i64 (validM a b m)) []
def K_r06_Valid : Prop := ∀ (a b : G) (m : Mo), FC P (F "r06.Valid") [gD a, gD b, mD m] (.int .i64 (validM a b m)) []
def K_r02_SameInts : Prop := ∀ a b : List Int, a.length ≤ maxL → FC P (F "r02.SameInts") [.lst 1 (ints a), .lst 1 (ints b)] (.bool (decide (a = b))) []
def K_r06_Same : Prop := ∀ a b : Mo, a.n.length ≤ maxL → a.e.length ≤ maxL → FC P (F "r06.Same") [mD a, mD b] (.bool (decide (a = b))) []
def K_r06_Through : Prop := ∀ l b : List Int, l.length ≤ 1000000 → (∀ x ∈ l, 0 ≤ x ∧ x < b.length) → FC P (F "r06.Through") [.lst 1 (ints l), .lst 1 (ints b)] (.arr 1 (ints (thr l b))) []
def K_r06_Then : Prop := ∀ m n : Mo, m.n.length ≤ 1000000 → m.e.length ≤ 1000000 → (∀ x ∈ m.n, 0 ≤ x ∧ x < n.n.length) → (∀ x ∈ m.e, 0 ≤ x ∧ x < n.e.length) → FC P (F "r06.Then") [mD m, mD n] (mA (thenM m n)) []
def K_r06_Few : Prop := ∀ (m : Mo) (n : Int), m.n.length ≤ maxL → m.e.length ≤ maxL → FC P (F "r06.Few") [mD m, .int .i64 n] (.bool (fewM m n)) []
end
section
variable {P : Program} {F : String → Nat} {α : Type}
theorem nodeE_step {bn ms as : List Int} {i : Nat} (h1 : i < ms.length) (h2 : i < as.length) : nodeE bn (ms.drop i) (as.drop i) =
    if 0 ≤ gt ms i ∧ gt ms i < bn.length then (if gt bn (gt ms i) = gt as i then nodeE bn (ms.drop (i + 1)) (as.drop (i + 1)) else 13) else 6 := by
  rw [drop_gt h1, drop_gt h2, nodeE]
theorem edgeE_step {be : List E} {mn ms : List Int} {as : List E} {i : Nat} (h1 : i < ms.length) (h2 : i < as.length) : edgeE be mn (ms.drop i) (as.drop i) =
    if 0 ≤ gt ms i ∧ gt ms i < be.length then (if (gt as i).t = (gt be (gt ms i)).t then (if gt mn (gt as i).f = (gt be (gt ms i)).f ∧ gt mn (gt as i).o = (gt be (gt ms i)).o then edgeE be mn (ms.drop (i + 1)) (as.drop (i + 1)) else 11) else 13) else 6 := by
  rw [drop_gt h1, drop_gt h2, edgeE]
theorem nodeE_end {bn ms as : List Int} {i : Nat} (h1 : ms.length ≤ i) : nodeE bn (ms.drop i) (as.drop i) = 0 := by
  rw [List.drop_of_length_le h1]; rfl
theorem edgeE_end {be : List E} {mn ms : List Int} {as : List E} {i : Nat} (h1 : ms.length ≤ i) : edgeE be mn (ms.drop i) (as.drop i) = 0 := by
  rw [List.drop_of_length_le h1]; cases as.drop i <;> rfl
theorem w_morphism_Valid (hv : K_graph_Valid P F) (a b : G) (m : Mo) : W P (c_morphism_Valid F) (Done [.t 6] [] (.int .i64 (validM a b m)) []) (init [gD a, gD b, mD m]) := by
  refine W_of ?_
  have rva := hv a
  have rvb := hv b
  have sva := @valid_spec a
  have svb := @valid_spec b
  have hvm : validM a b m = if validG a ≠ 0 then validG a else if validG b ≠ 0 then validG b else if m.n.length ≠ a.n.length ∨ m.e.length ≠ a.e.length then 20
    else if nodeE b.n m.n a.n ≠ 0 then nodeE b.n m.n a.n else edgeE b.e m.n m.e a.e := rfl
  rw [hvm]
  generalize validG a = va at *
  generalize validG b = vb at *
  clear hvm
  obtain ⟨an, ae⟩ := a
  obtain ⟨bn, be⟩ := b
  obtain ⟨mn, me⟩ := m
  simp only [gD] at rva rvb
  simp only at sva svb
  simp (config := { maxSteps := 1000000 }) (disch := first | omega | (simp only [go_sem]; omega)) only [go_sem, ↓reduceIte, gD, mD]
  refine call_by rva ?_
  simp (config := { maxSteps := 1000000 }) (disch := first | omega | (simp only [go_sem]; omega)) only [go_sem, ↓reduceIte]
  refine bran_ndec (fun c1 => ?_) (fun c1 => ?_)
  · simp (config := { maxSteps := 1000000 }) (disch := first | omega | (simp only [go_sem]; omega)) only [go_sem, ↓reduceIte]
  · subst c1
    obtain ⟨a1, a2, _, a4⟩ := sva rfl
    simp (config := { maxSteps := 1000000 }) (disch := first | omega | (simp only [go_sem]; omega)) only [go_sem, ↓reduceIte]
    refine call_by rvb ?_
    simp (config := { maxSteps := 1000000 }) (disch := first | omega | (simp only [go_sem]; omega)) only [go_sem, ↓reduceIte]
    refine bran_ndec (fun c2 => ?_) (fun c2 => ?_)
    · simp (config := { maxSteps := 1000000 }) (disch := first | omega | (simp only [go_sem]; omega)) only [go_sem, ↓reduceIte]
      simp [c2]
    · subst c2
      obtain ⟨b1, b2, _, b4⟩ := svb rfl
      simp (config := { maxSteps := 1000000 }) (disch := first | omega | (simp only [go_sem]; omega)) only [go_sem, ↓reduceIte]
      refine bran_ndec (fun c3 => ?_) (fun c3 => ?_)
      · simp (config := { maxSteps := 1000000 }) (disch := first | omega | (simp only [go_sem]; omega)) only [go_sem, ↓reduceIte, c3]
        rw [if_neg (by simp), if_neg (by simp)]
      · simp (config := { maxSteps := 1000000 }) (disch := first | omega | (simp only [go_sem]; omega)) only [go_sem, ↓reduceIte, c3]
        refine bran_ndec (fun c4 => ?_) (fun c4 => ?_)
        · simp (config := { maxSteps := 1000000 }) (disch := first | omega | (simp only [go_sem]; omega)) only [go_sem, ↓reduceIte, c3, c4]
          rw [if_neg (by simp), if_neg (by simp)]
        · have d3 : mn.length = an.length := by omega
          have d4 : me.length = ae.length := by omega
          rw [if_neg (by simp), if_neg (by simp), if_neg (by simp only; omega)]
          clear c3 c4
          simp (config := { maxSteps := 1000000 }) (disch := first | omega | (simp only [go_sem]; omega)) only [go_sem, ↓reduceIte, d3, d4]
          refine W_loop (fun i : Nat => ⟨[(3, .pt 0 0), (4, .pt 1 0), (5, .pt 2 0), (42, .lst 1 (ints mn)), (43, .int .i64 an.length), (44, .int .i64 i)],
            [(0, .box [.lst 1 (ints an), .lst 3 (eds ae)]), (1, .box [.lst 1 (ints bn), .lst 3 (eds be)]), (2, .box [.lst 1 (ints mn), .lst 1 (ints me)])], 3⟩)
            (fun i => i ≤ mn.length ∧ nodeE bn mn an = nodeE bn (mn.drop i) (an.drop i)) (fun i => mn.length - i) 0 ?_ ?_ ?_
          · simp (config := { maxSteps := 1000000 }) (disch := first | omega | (simp only [go_sem]; omega)) only [go_sem, ↓reduceIte, d3]
            rfl
          · simp
          · rintro i ⟨hi, hn⟩
            simp (config := { maxSteps := 1000000 }) (disch := first | omega | (simp only [go_sem]; omega)) only [go_sem, ↓reduceIte, c_morphism_Valid_b17]
            refine bran_dec (fun c5 => ?_) (fun c5 => ?_)
            · have hs := nodeE_step (bn := bn) (ms := mn) (as := an) (i := i) (by omega) (by omega)
              simp (config := { maxSteps := 1000000 }) (disch := first | omega | (simp only [go_sem]; omega)) only [go_sem, ↓reduceIte]
              refine bran_dec (fun c6 => ?_) (fun c6 => ?_)
              · simp (config := { maxSteps := 1000000 }) (disch := first | omega | (simp only [go_sem]; omega)) only [go_sem, ↓reduceIte, c6]
                rw [if_neg (show ¬ (0 ≤ gt mn i ∧ gt mn i < bn.length) by omega)] at hs
                rw [hn, hs]
                try simp
              · simp (config := { maxSteps := 1000000 }) (disch := first | omega | (simp only [go_sem]; omega)) only [go_sem, ↓reduceIte, c6]
                refine bran_dec (fun c7 => ?_) (fun c7 => ?_)
                · simp (config := { maxSteps := 1000000 }) (disch := first | omega | (simp only [go_sem]; omega)) only [go_sem, ↓reduceIte]
                  rw [if_neg (show ¬ (0 ≤ gt mn i ∧ gt mn i < bn.length) by omega)] at hs
                  rw [hn, hs]
                  try simp
                · rw [if_pos (show (0 ≤ gt mn i ∧ gt mn i < bn.length) by omega)] at hs
                  simp (config := { maxSteps := 1000000 }) (disch := first | omega | (simp only [go_sem]; omega)) only [go_sem, ↓reduceIte]
                  refine bran_ndec (fun c8 => ?_) (fun c8 => ?_)
                  · rw [if_neg c8] at hs
                    simp (config := { maxSteps := 1000000 }) (disch := first | omega | (simp only [go_sem]; omega)) only [go_sem, ↓reduceIte]
                    rw [hn, hs]
                    try simp
                  · rw [if_pos c8] at hs
                    simp (config := { maxSteps := 1000000 }) (disch := first | omega | (simp only [go_sem]; omega)) only [go_sem, ↓reduceIte]
                    exact ⟨i + 1, by simp, ⟨by omega, by rw [hn, hs]⟩, by omega⟩
            · rw [nodeE_end (by omega)] at hn
              simp (config := { maxSteps := 1000000 }) (disch := first | omega | (simp only [go_sem]; omega)) only [go_sem, ↓reduceIte]
              refine W_loop (fun i : Nat => ⟨[(3, .pt 0 0), (4, .pt 1 0), (5, .pt 2 0), (71, .lst 1 (ints me)), (72, .int .i64 ae.length), (73, .int .i64 i)],
                [(0, .box [.lst 1 (ints an), .lst 3 (eds ae)]), (1, .box [.lst 1 (ints bn), .lst 3 (eds be)]), (2, .box [.lst 1 (ints mn), .lst 1 (ints me)])], 3⟩)
                (fun i => i ≤ me.length ∧ edgeE be mn me ae = edgeE be mn (me.drop i) (ae.drop i)) (fun i => me.length - i) 0 ?_ ?_ ?_
              · simp (config := { maxSteps := 1000000 }) (disch := first | omega | (simp only [go_sem]; omega)) only [go_sem, ↓reduceIte, d4]
                rfl
              · simp
              · rintro i ⟨hi, he⟩
                simp (config := { maxSteps := 1000000 }) (disch := first | omega | (simp only [go_sem]; omega)) only [go_sem, ↓reduceIte, c_morphism_Valid_b29]
                refine bran_dec (fun c5 => ?_) (fun c5 => ?_)
                · have hs := edgeE_step (be := be) (mn := mn) (ms := me) (as := ae) (i := i) (by omega) (by omega)
                  have hae := fits_spec (a4 _ (gt_mem (l := ae) (j := i) (by omega) (by omega)))
                  simp (config := { maxSteps := 1000000 }) (disch := first | omega | (simp only [go_sem]; omega)) only [go_sem, ↓reduceIte]
                  refine bran_dec (fun c6 => ?_) (fun c6 => ?_)
                  · simp (config := { maxSteps := 1000000 }) (disch := first | omega | (simp only [go_sem]; omega)) only [go_sem, ↓reduceIte, c6]
                    rw [if_neg (show ¬ (0 ≤ gt me i ∧ gt me i < be.length) by omega)] at hs
                    rw [hn, he, hs]
                    simp
                  · simp (config := { maxSteps := 1000000 }) (disch := first | omega | (simp only [go_sem]; omega)) only [go_sem, ↓reduceIte, c6]
                    refine bran_dec (fun c7 => ?_) (fun c7 => ?_)
                    · simp (config := { maxSteps := 1000000 }) (disch := first | omega | (simp only [go_sem]; omega)) only [go_sem, ↓reduceIte]
                      rw [if_neg (show ¬ (0 ≤ gt me i ∧ gt me i < be.length) by omega)] at hs
                      rw [hn, he, hs]
                      simp
                    · rw [if_pos (show (0 ≤ gt me i ∧ gt me i < be.length) by omega)] at hs
                      simp (config := { maxSteps := 1000000 }) (disch := first | omega | (simp only [go_sem]; omega)) only [go_sem, ↓reduceIte]
                      refine bran_ndec (fun c8 => ?_) (fun c8 => ?_)
                      · rw [if_neg c8] at hs
                        simp (config := { maxSteps := 1000000 }) (disch := first | omega | (simp only [go_sem]; omega)) only [go_sem, ↓reduceIte]
                        rw [hn, he, hs]
                        simp
                      · rw [if_pos c8] at hs
                        simp (config := { maxSteps := 1000000 }) (disch := first | omega | (simp only [go_sem]; omega)) only [go_sem, ↓reduceIte]
                        refine bran_ndec (fun c9 => ?_) (fun c9 => ?_)
                        · rw [if_neg (fun h => c9 h.1)] at hs
                          simp (config := { maxSteps := 1000000 }) (disch := first | omega | (simp only [go_sem]; omega)) only [go_sem, ↓reduceIte, c9]
                          rw [hn, he, hs]
                          simp
                        · simp (config := { maxSteps := 1000000 }) (disch := first | omega | (simp only [go_sem]; omega)) only [go_sem, ↓reduceIte, c9]
                          refine bran_ndec (fun d1 => ?_) (fun d1 => ?_)
                          · rw [if_neg (fun h => d1 h.2)] at hs
                            simp (config := { maxSteps := 1000000 }) (disch := first | omega | (simp only [go_sem]; omega)) only [go_sem, ↓reduceIte]
                            rw [hn, he, hs]
                            simp
                          · rw [if_pos ⟨c9, d1⟩] at hs
                            simp (config := { maxSteps := 1000000 }) (disch := first | omega | (simp only [go_sem]; omega)) only [go_sem, ↓reduceIte]
                            exact ⟨i + 1, by simp, ⟨by omega, by rw [he, hs]⟩, by omega⟩
                · rw [edgeE_end (by omega)] at he
                  simp (config := { maxSteps := 1000000 }) (disch := first | omega | (simp only [go_sem]; omega)) only [go_sem, ↓reduceIte]
                  rw [hn, he]
                  simp
theorem w_r06_Valid (hv : K_r05_Valid P F) (a b : G) (m : Mo) : W P (c_r06_Valid F) (Done [.t 6] [] (.int .i64 (validM a b m)) []) (init [gD a, gD b, mD m]) := by
  refine W_of ?_
  have rva := hv a
  have rvb := hv b
  have sva := @valid_spec a
  have svb := @valid_spec b
  have hvm : validM a b m = if validG a ≠ 0 then validG a else if validG b ≠ 0 then validG b else if m.n.length ≠ a.n.length ∨ m.e.length ≠ a.e.length then 20
    else if nodeE b.n m.n a.n ≠ 0 then nodeE b.n m.n a.n else edgeE b.e m.n m.e a.e := rfl
  rw [hvm]
  generalize validG a = va at *
  generalize validG b = vb at *
  clear hvm
  obtain ⟨an, ae⟩ := a
  obtain ⟨bn, be⟩ := b
  obtain ⟨mn, me⟩ := m
  simp only [gD] at rva rvb
  simp only at sva svb
  simp (config := { maxSteps := 1000000 }) (disch := first | omega | (simp only [go_sem]; omega)) only [go_sem, ↓reduceIte, gD, mD]
  refine call_by rva ?_
  simp (config := { maxSteps := 1000000 }) (disch := first | omega | (simp only [go_sem]; omega)) only [go_sem, ↓reduceIte]
  refine bran_ndec (fun c1 => ?_) (fun c1 => ?_)
  · simp (config := { maxSteps := 1000000 }) (disch := first | omega | (simp only [go_sem]; omega)) only [go_sem, ↓reduceIte]
  · subst c1
    obtain ⟨a1, a2, _, a4⟩ := sva rfl
    simp (config := { maxSteps := 1000000 }) (disch := first | omega | (simp only [go_sem]; omega)) only [go_sem, ↓reduceIte]
    refine call_by rvb ?_
    simp (config := { maxSteps := 1000000 }) (disch := first | omega | (simp only [go_sem]; omega)) only [go_sem, ↓reduceIte]
    refine bran_ndec (fun c2 => ?_) (fun c2 => ?_)
    · simp (config := { maxSteps := 1000000 }) (disch := first | omega | (simp only [go_sem]; omega)) only [go_sem, ↓reduceIte]
      simp [c2]
    · subst c2
      obtain ⟨b1, b2, _, b4⟩ := svb rfl
      simp (config := { maxSteps := 1000000 }) (disch := first | omega | (simp only [go_sem]; omega)) only [go_sem, ↓reduceIte]
      refine bran_ndec (fun c3 => ?_) (fun c3 => ?_)
      · simp (config := { maxSteps := 1000000 }) (disch := first | omega | (simp only [go_sem]; omega)) only [go_sem, ↓reduceIte, c3]
        rw [if_neg (by simp), if_neg (by simp)]
      · simp (config := { maxSteps := 1000000 }) (disch := first | omega | (simp only [go_sem]; omega)) only [go_sem, ↓reduceIte, c3]
        refine bran_ndec (fun c4 => ?_) (fun c4 => ?_)
        · simp (config := { maxSteps := 1000000 }) (disch := first | omega | (simp only [go_sem]; omega)) only [go_sem, ↓reduceIte, c3, c4]
          rw [if_neg (by simp), if_neg (by simp)]
        · have d3 : mn.length = an.length := by omega
          have d4 : me.length = ae.length := by omega
          rw [if_neg (by simp), if_neg (by simp), if_neg (by simp only; omega)]
          clear c3 c4
          simp (config := { maxSteps := 1000000 }) (disch := first | omega | (simp only [go_sem]; omega)) only [go_sem, ↓reduceIte, d3, d4]
          refine W_loop (fun i : Nat => ⟨[(3, .pt 0 0), (4, .pt 1 0), (5, .pt 2 0), (9, .int .i64 i)],
            [(0, .box [.lst 1 (ints an), .lst 3 (eds ae)]), (1, .box [.lst 1 (ints bn), .lst 3 (eds be)]), (2, .box [.lst 1 (ints mn), .lst 1 (ints me)])], 3⟩)
            (fun i => i ≤ mn.length ∧ nodeE bn mn an = nodeE bn (mn.drop i) (an.drop i)) (fun i => mn.length - i) 0 ?_ ?_ ?_
          · simp (config := { maxSteps := 1000000 }) (disch := first | omega | (simp only [go_sem]; omega)) only [go_sem, ↓reduceIte, d3]
            rfl
          · simp
          · rintro i ⟨hi, hn⟩
            simp (config := { maxSteps := 1000000 }) (disch := first | omega | (simp only [go_sem]; omega)) only [go_sem, ↓reduceIte, c_r06_Valid_b16]
            refine bran_dec (fun c5 => ?_) (fun c5 => ?_)
            · have hs := nodeE_step (bn := bn) (ms := mn) (as := an) (i := i) (by omega) (by omega)
              simp (config := { maxSteps := 1000000 }) (disch := first | omega | (simp only [go_sem]; omega)) only [go_sem, ↓reduceIte]
              refine bran_dec (fun c6 => ?_) (fun c6 => ?_)
              · simp (config := { maxSteps := 1000000 }) (disch := first | omega | (simp only [go_sem]; omega)) only [go_sem, ↓reduceIte, c6]
                rw [if_neg (show ¬ (0 ≤ gt mn i ∧ gt mn i < bn.length) by omega)] at hs
                rw [hn, hs]
                try simp
              · simp (config := { maxSteps := 1000000 }) (disch := first | omega | (simp only [go_sem]; omega)) only [go_sem, ↓reduceIte, c6]
                refine bran_dec (fun c7 => ?_) (fun c7 => ?_)
                · simp (config := { maxSteps := 1000000 }) (disch := first | omega | (simp only [go_sem]; omega)) only [go_sem, ↓reduceIte]
                  rw [if_neg (show ¬ (0 ≤ gt mn i ∧ gt mn i < bn.length) by omega)] at hs
                  rw [hn, hs]
                  try simp
                · rw [if_pos (show (0 ≤ gt mn i ∧ gt mn i < bn.length) by omega)] at hs
                  simp (config := { maxSteps := 1000000 }) (disch := first | omega | (simp only [go_sem]; omega)) only [go_sem, ↓reduceIte]
                  refine bran_ndec (fun c8 => ?_) (fun c8 => ?_)
                  · rw [if_neg c8] at hs
                    simp (config := { maxSteps := 1000000 }) (disch := first | omega | (simp only [go_sem]; omega)) only [go_sem, ↓reduceIte]
                    rw [hn, hs]
                    try simp
                  · rw [if_pos c8] at hs
                    simp (config := { maxSteps := 1000000 }) (disch := first | omega | (simp only [go_sem]; omega)) only [go_sem, ↓reduceIte]
                    exact ⟨i + 1, by simp, ⟨by omega, by rw [hn, hs]⟩, by omega⟩
            · rw [nodeE_end (by omega)] at hn
              simp (config := { maxSteps := 1000000 }) (disch := first | omega | (simp only [go_sem]; omega)) only [go_sem, ↓reduceIte]
              refine W_loop (fun i : Nat => ⟨[(3, .pt 0 0), (4, .pt 1 0), (5, .pt 2 0), (10, .int .i64 i)],
                [(0, .box [.lst 1 (ints an), .lst 3 (eds ae)]), (1, .box [.lst 1 (ints bn), .lst 3 (eds be)]), (2, .box [.lst 1 (ints mn), .lst 1 (ints me)])], 3⟩)
                (fun i => i ≤ me.length ∧ edgeE be mn me ae = edgeE be mn (me.drop i) (ae.drop i)) (fun i => me.length - i) 0 ?_ ?_ ?_
              · simp (config := { maxSteps := 1000000 }) (disch := first | omega | (simp only [go_sem]; omega)) only [go_sem, ↓reduceIte, d4]
                rfl
              · simp
              · rintro i ⟨hi, he⟩
                simp (config := { maxSteps := 1000000 }) (disch := first | omega | (simp only [go_sem]; omega)) only [go_sem, ↓reduceIte, c_r06_Valid_b27]
                refine bran_dec (fun c5 => ?_) (fun c5 => ?_)
                · have hs := edgeE_step (be := be) (mn := mn) (ms := me) (as := ae) (i := i) (by omega) (by omega)
                  have hae := fits_spec (a4 _ (gt_mem (l := ae) (j := i) (by omega) (by omega)))
                  simp (config := { maxSteps := 1000000 }) (disch := first | omega | (simp only [go_sem]; omega)) only [go_sem, ↓reduceIte]
                  refine bran_dec (fun c6 => ?_) (fun c6 => ?_)
                  · simp (config := { maxSteps := 1000000 }) (disch := first | omega | (simp only [go_sem]; omega)) only [go_sem, ↓reduceIte, c6]
                    rw [if_neg (show ¬ (0 ≤ gt me i ∧ gt me i < be.length) by omega)] at hs
                    rw [hn, he, hs]
                    simp
                  · simp (config := { maxSteps := 1000000 }) (disch := first | omega | (simp only [go_sem]; omega)) only [go_sem, ↓reduceIte, c6]
                    refine bran_dec (fun c7 => ?_) (fun c7 => ?_)
                    · simp (config := { maxSteps := 1000000 }) (disch := first | omega | (simp only [go_sem]; omega)) only [go_sem, ↓reduceIte]
                      rw [if_neg (show ¬ (0 ≤ gt me i ∧ gt me i < be.length) by omega)] at hs
                      rw [hn, he, hs]
                      simp
                    · rw [if_pos (show (0 ≤ gt me i ∧ gt me i < be.length) by omega)] at hs
                      simp (config := { maxSteps := 1000000 }) (disch := first | omega | (simp only [go_sem]; omega)) only [go_sem, ↓reduceIte]
                      refine bran_ndec (fun c8 => ?_) (fun c8 => ?_)
                      · rw [if_neg c8] at hs
                        simp (config := { maxSteps := 1000000 }) (disch := first | omega | (simp only [go_sem]; omega)) only [go_sem, ↓reduceIte]
                        rw [hn, he, hs]
                        simp
                      · rw [if_pos c8] at hs
                        simp (config := { maxSteps := 1000000 }) (disch := first | omega | (simp only [go_sem]; omega)) only [go_sem, ↓reduceIte]
                        refine bran_ndec (fun c9 => ?_) (fun c9 => ?_)
                        · rw [if_neg (fun h => c9 h.1)] at hs
                          simp (config := { maxSteps := 1000000 }) (disch := first | omega | (simp only [go_sem]; omega)) only [go_sem, ↓reduceIte, c9]
                          rw [hn, he, hs]
                          simp
                        · simp (config := { maxSteps := 1000000 }) (disch := first | omega | (simp only [go_sem]; omega)) only [go_sem, ↓reduceIte, c9]
                          refine bran_ndec (fun d1 => ?_) (fun d1 => ?_)
                          · rw [if_neg (fun h => d1 h.2)] at hs
                            simp (config := { maxSteps := 1000000 }) (disch := first | omega | (simp only [go_sem]; omega)) only [go_sem, ↓reduceIte]
                            rw [hn, he, hs]
                            simp
                          · rw [if_pos ⟨c9, d1⟩] at hs
                            simp (config := { maxSteps := 1000000 }) (disch := first | omega | (simp only [go_sem]; omega)) only [go_sem, ↓reduceIte]
                            exact ⟨i + 1, by simp, ⟨by omega, by rw [he, hs]⟩, by omega⟩
                · rw [edgeE_end (by omega)] at he
                  simp (config := { maxSteps := 1000000 }) (disch := first | omega | (simp only [go_sem]; omega)) only [go_sem, ↓reduceIte]
                  rw [hn, he]
                  simp
theorem w_r02_SameInts (a b : List Int) (hl : a.length ≤ maxL) : W P (c_r02_SameInts F) (Done [.t 4] [] (.bool (decide (a = b))) []) (init [.lst 1 (ints a), .lst 1 (ints b)]) := by
  refine W_of ?_
  unfold maxL at hl
  simp (config := { maxSteps := 1000000 }) (disch := first | omega | (simp only [go_sem]; omega)) only [go_sem, ↓reduceIte]
  refine bran_ndec (fun h => ?_) (fun h => ?_)
  · simp (config := { maxSteps := 1000000 }) (disch := first | omega | (simp only [go_sem]; omega)) only [go_sem, ↓reduceIte]
    have : a ≠ b := fun e => h (by rw [e])
    simp [this]
  · have h' : a.length = b.length := by omega
    simp (config := { maxSteps := 1000000 }) (disch := first | omega | (simp only [go_sem]; omega)) only [go_sem, ↓reduceIte]
    refine W_loop (fun i : Nat => ⟨[(0, .lst 1 (ints a)), (1, .lst 1 (ints b)), (5, .int .i64 i)], [], 0⟩) (fun i => i ≤ a.length ∧ a.take i = b.take i) (fun i => a.length - i) 0 ?_ ?_ ?_
    · simp (config := { maxSteps := 1000000 }) (disch := first | omega | (simp only [go_sem]; omega)) only [go_sem, ↓reduceIte]
      rfl
    · simp
    · intro i hi
      simp (config := { maxSteps := 1000000 }) (disch := first | omega | (simp only [go_sem]; omega)) only [go_sem, ↓reduceIte, c_r02_SameInts_b8]
      refine bran_dec (fun c => ?_) (fun c => ?_)
      · simp (config := { maxSteps := 1000000 }) (disch := first | omega | (simp only [go_sem]; omega)) only [go_sem, ↓reduceIte]
        refine bran_ndec (fun d => ?_) (fun d => ?_)
        · simp (config := { maxSteps := 1000000 }) (disch := first | omega | (simp only [go_sem]; omega)) only [go_sem, ↓reduceIte]
          have : a ≠ b := fun e => d (by rw [e])
          simp [this]
        · simp (config := { maxSteps := 1000000 }) (disch := first | omega | (simp only [go_sem]; omega)) only [go_sem, ↓reduceIte]
          exact ⟨i + 1, by simp, ⟨by omega, by rw [take_gt (by omega), take_gt (by omega), hi.2, d]⟩, by omega⟩
      · simp (config := { maxSteps := 1000000 }) (disch := first | omega | (simp only [go_sem]; omega)) only [go_sem, ↓reduceIte]
        obtain rfl : i = a.length := by omega
        have := hi.2
        rw [List.take_length, List.take_of_length_le (by omega)] at this
        simp [this]
theorem w_r06_Same (hs : K_r02_SameInts P F) (a b : Mo) (h1 : a.n.length ≤ maxL) (h2 : a.e.length ≤ maxL) : W P (c_r06_Same F) (Done [.t 4] [] (.bool (decide (a = b))) []) (init [mD a, mD b]) := by
  refine W_of ?_
  obtain ⟨an, ae⟩ := a
  obtain ⟨bn, be⟩ := b
  simp only at h1 h2
  simp (config := { maxSteps := 1000000 }) (disch := first | omega | (simp only [go_sem]; omega)) only [go_sem, ↓reduceIte, mD]
  refine call_by (hs _ _ h1) ?_
  simp (config := { maxSteps := 1000000 }) (disch := first | omega | (simp only [go_sem]; omega)) only [go_sem, ↓reduceIte]
  refine bran_dec (fun c => ?_) (fun c => ?_)
  · subst c
    simp (config := { maxSteps := 1000000 }) (disch := first | omega | (simp only [go_sem]; omega)) only [go_sem, ↓reduceIte]
    refine call_by (hs _ _ h2) ?_
    simp (config := { maxSteps := 1000000 }) (disch := first | omega | (simp only [go_sem]; omega)) only [go_sem, ↓reduceIte]
    simp
  · simp (config := { maxSteps := 1000000 }) (disch := first | omega | (simp only [go_sem]; omega)) only [go_sem, ↓reduceIte, c]
    simp [c]
theorem thr_len (l b : List Int) : (thr l b).length = l.length := by simp [thr]
theorem thr_step {l b : List Int} {i : Nat} (h : i < l.length) : thr (l.take (i + 1)) b = thr (l.take i) b ++ [gt b (gt l i)] := by
  rw [take_gt h]; simp [thr]
theorem w_r06_Through (l b : List Int) (hl : l.length ≤ 1000000) (hb : ∀ x ∈ l, 0 ≤ x ∧ x < b.length) : W P (c_r06_Through F) (Done [.t 4] [] (.arr 1 (ints (thr l b))) []) (init [.lst 1 (ints l), .lst 1 (ints b)]) := by
  refine W_of ?_
  simp (config := { maxSteps := 1000000 }) (disch := first | omega | (simp only [go_sem]; omega)) only [go_sem, ↓reduceIte]
  refine W_loop (fun i : Nat => ⟨[(0, .lst 1 (ints l)), (1, .lst 1 (ints b)), (5, .sl 0 0 i), (6, .int .i64 i)], [(0, .arr 1 (ints (thr (l.take i) b)))], 1⟩) (fun i => i ≤ l.length) (fun i => l.length - i) 0 ?_ ?_ ?_
  · simp (config := { maxSteps := 1000000 }) (disch := first | omega | (simp only [go_sem]; omega)) only [go_sem, ↓reduceIte]
    rfl
  · simp
  · intro i hi
    have el : (thr (l.take i) b).length = i := by rw [thr_len]; simp; omega
    simp (config := { maxSteps := 1000000 }) (disch := first | omega | (simp only [go_sem]; omega)) only [go_sem, ↓reduceIte, c_r06_Through_b6]
    refine bran_dec (fun c => ?_) (fun c => ?_)
    · have hx := hb _ (gt_mem (l := l) (j := i) (by omega) (by omega))
      simp (config := { maxSteps := 1000000 }) (disch := first | omega | (simp only [go_sem]; omega)) only [go_sem, ↓reduceIte, el]
      exact ⟨i + 1, by simp [thr_step (show i < l.length by omega)], by omega, by omega⟩
    · simp (config := { maxSteps := 1000000 }) (disch := first | omega | (simp only [go_sem]; omega)) only [go_sem, ↓reduceIte, el]
      rw [List.take_of_length_le (by omega)]
theorem w_r06_Then (ht : K_r06_Through P F) (m n : Mo) (h1 : m.n.length ≤ 1000000) (h2 : m.e.length ≤ 1000000) (h3 : ∀ x ∈ m.n, 0 ≤ x ∧ x < n.n.length) (h4 : ∀ x ∈ m.e, 0 ≤ x ∧ x < n.e.length) :
    W P (c_r06_Then F) (Done [.c 4 true 2] [] (mA (thenM m n)) []) (init [mD m, mD n]) := by
  refine W_of ?_
  obtain ⟨mn, me⟩ := m
  obtain ⟨nn, ne⟩ := n
  have r1 := ht mn nn h1 h3
  have r2 := ht me ne h2 h4
  simp (config := { maxSteps := 1000000 }) (disch := first | omega | (simp only [go_sem]; omega)) only [go_sem, ↓reduceIte, mD]
  refine call_by r1 ?_
  simp (config := { maxSteps := 1000000 }) (disch := first | omega | (simp only [go_sem]; omega)) only [go_sem, ↓reduceIte]
  refine call_by r2 ?_
  simp (config := { maxSteps := 1000000 }) (disch := first | omega | (simp only [go_sem]; omega)) only [go_sem, ↓reduceIte, mA, thenM]
theorem w_r06_Few (m : Mo) (n : Int) (h1 : m.n.length ≤ maxL) (h2 : m.e.length ≤ maxL) : W P (c_r06_Few F) (Done [.t 4] [] (.bool (fewM m n)) []) (init [mD m, .int .i64 n]) := by
  refine W_of ?_
  obtain ⟨mn, me⟩ := m
  simp only [maxL] at h1 h2
  simp (config := { maxSteps := 1000000 }) (disch := first | omega | (simp only [go_sem]; omega)) only [go_sem, ↓reduceIte, mD, fewM]
end
end Go.Am
namespace Go.Am
open Go Go.Sort
set_option linter.unusedVariables false
set_option linter.unusedSimpArgs false
set_option linter.unnecessarySimpa false
def srt (l : List Int) : List Int := l.mergeSort fun x y => decide (x ≤ y)
theorem srt_perm (l : List Int) : (srt l).Perm l := List.mergeSort_perm _ _
theorem srt_len (l : List Int) : (srt l).length = l.length := (srt_perm l).length_eq
theorem srt_sorted (l : List Int) : (srt l).Pairwise (· ≤ ·) := by
  have := List.pairwise_mergeSort (le := fun x y : Int => decide (x ≤ y)) (fun a b c h1 h2 => by simp at *; omega) (fun a b => by simp; omega) l
  simpa [srt] using this
section
variable (P : Program) (F : String → Nat)
def K_slices_Sort_I : Prop := ∀ l : List Int, l.length ≤ maxL → FC P (F "slices.Sort.I") [.arr 1 (ints l)] (.tup []) [(0, .arr 1 (ints (srt l)))]
end
theorem PE_ints {w : World} {I : Nat → Prop} : ∀ {l : List Int} {us : List Value}, PE w I 1 (ints l) us → us = l.map (Value.int .i64)
  | [], us, h => by simpa [ints, PE] using h
  | x :: l, us, h => by
    simp only [ints, List.map_cons, PE, P1] at h
    obtain ⟨u, us', rfl, _, rfl, h2⟩ := h
    rw [PE_ints (l := l) h2]; rfl
theorem PE_ints' {w : World} {I : Nat → Prop} : ∀ (l : List Int), PE w I 1 (ints l) (l.map (Value.int .i64))
  | [] => by simp [ints, PE]
  | x :: l => by
    simp only [ints, List.map_cons, PE, P1]
    exact ⟨[.int .i64 x], l.map (Value.int .i64), rfl, rfl, rfl, PE_ints' l⟩
/-- What a sort does to the memory. -/
theorem sort_world {w : World} {b n : Nat} {cur : Array Value} {e : TypeId} {d : Array Int} {os : Array Obj} (hg : w.heap[b]? = some (.cells cur e (0, 0))) (hd : d.size ≤ cur.size) :
    Stp (· = b) w (grow (putRow (Value.int .i64) (Sort.ahead w n) b 0 d) os) ∧ ∃ c, (grow (putRow (Value.int .i64) (Sort.ahead w n) b 0 d) os).heap[b]? = some (.cells c e (0, 0)) ∧ c.size = cur.size ∧ ∀ j, j < d.size → c[j]? = some (.int .i64 d[j]!) := by
  have hb : b < w.heap.size := (Array.getElem?_eq_some_iff.1 hg).1
  have hold : ∀ k, k < w.heap.size → (grow (putRow (Value.int .i64) (Sort.ahead w n) b 0 d) os).heap[k]? = if b = k then (w.heap[k]?).map (onCells (putCells (Value.int .i64) 0 d)) else w.heap[k]? := fun k hk => by
    rw [heap_grow_old _ _ (by simpa [Sort.ahead] using hk)]
    simp only [putRow, mapBlock, Sort.ahead, Array.getElem?_modify]
  have hnew : (grow (putRow (Value.int .i64) (Sort.ahead w n) b 0 d) os).heap[b]? = some (.cells (putCells (Value.int .i64) 0 d cur) e (0, 0)) := by
    rw [hold b hb, if_pos rfl, hg]; rfl
  refine ⟨⟨rfl, rfl, rfl, by simp [Sort.ahead], fun k hk hne => by rw [hold k hk, if_neg (fun h => hne h.symm)], fun k c e' fr hk => ?_, ?_⟩, _, hnew, by simp [putCells], fun j hj => ?_⟩
  · have hk2 : k < w.heap.size := (Array.getElem?_eq_some_iff.1 hk).1
    rw [hold k hk2]
    by_cases h : b = k
    · subst h
      rw [if_pos rfl, hk]
      exact ⟨_, rfl, by simp [putCells]⟩
    · rw [if_neg h, hk]
      exact ⟨c, rfl, rfl⟩
  · show w.drawn ≤ w.drawn + n
    omega
  · simp only [putCells, Array.getElem?_mapIdx]
    rw [Array.getElem?_eq_getElem (by omega)]
    simp only [Option.map_some]
    rw [if_pos (by omega)]
    rfl
theorem sort_FC {P : Program} {f : Nat} (hen : ∀ (vs : Array Value) (w : World), (callFunc f vs).run P w = .ok (.enter f vs) w)
    (h1 : ∀ (blk off cap : Nat) (zs : List Int) (w : World), Holds (Value.int .i64) w blk off zs.toArray → blk < w.heap.size → zs.length < 4611686018427387904 → Calls P f #[.slice (some ⟨blk, off, none⟩) zs.length cap] w fun e w' =>
      e = .returned (.tuple #[]) ∧ ∃ n os, w' = grow (putRow (Value.int .i64) (Sort.ahead w n) blk off (zs.mergeSort fun x y => decide (x ≤ y)).toArray) os)
    (h2 : ∀ (p : Option Addr) (cap : Nat) (w : World), Calls P f #[.slice p 0 cap] w fun e w' => e = .returned (.tuple #[]) ∧ w' = w) (l : List Int) (hl : l.length ≤ maxL) :
    FC P f [.arr 1 (ints l)] (.tup []) [(0, .arr 1 (ints (srt l)))] := by
  refine ⟨hen, fun w I vs os hI hnd hos hdr => ?_⟩
  simp only [DRs] at hdr
  obtain ⟨v, vs', o, o', rfl, rfl, hd, rfl, rfl⟩ := hdr
  simp only [DR] at hd
  obtain ⟨hmax, ⟨rfl, hnil, rfl⟩ | ⟨b, cap, cur, e, us, rfl, rfl, hg, c1, c2, c3, hM, hP⟩⟩ := hd
  · have hl0 : l = [] := by simpa [ints] using hnil
    subst hl0
    refine (h2 none 0 w).mono ?_
    rintro e w' ⟨rfl, rfl⟩
    refine ⟨_, [], rfl, Stp.refl _ _, by simp, by simp, ?_⟩
    simp only [List.map_cons, List.map_nil, DRs, DR]
    exact ⟨_, _, [], [], rfl, rfl, ⟨_, rfl, rfl, rfl⟩, _, _, [], [], rfl, rfl, ⟨by simp [srt, ints, maxL], .inl ⟨rfl, by simp [srt, ints], rfl⟩⟩, rfl, rfl⟩
  · have hus := PE_ints hP
    subst hus
    have hlen : (ints l).length = l.length := ints_length l
    rw [hlen] at c1
    simp only [Nat.mul_one] at c3
    rw [hlen]
    have hcur : ∀ j, j < l.length → cur[j]? = some (.int .i64 l[j]!) := fun j hj => by
      have := Mem.cells hg hM j (.int .i64 l[j]!) (by simp [hj])
      simpa using this
    have hH : Holds (Value.int .i64) w b 0 l.toArray := fun j hj => by
      have hj : j < l.length := by simpa using hj
      have hc := hcur j hj
      refine ⟨?_, ?_⟩
      · simp only [World.cell?, hg, Nat.zero_add, hc]
        simp [hj]
      · simp [World.frozen?, hg]
    have hbs : b < w.heap.size := (Array.getElem?_eq_some_iff.1 hg).1
    refine (h1 b 0 cap l w hH hbs (by simp only [maxL] at hl; omega)).mono ?_
    rintro er w' ⟨rfl, n, os2, rfl⟩
    have hsz : (l.mergeSort fun x y => decide (x ≤ y)).toArray.size = l.length := by simp
    obtain ⟨k1, c, k2, k3, k4⟩ := sort_world (n := n) (os := os2) (d := (l.mergeSort fun x y => decide (x ≤ y)).toArray) hg (by rw [hsz]; omega)
    refine ⟨_, [b], rfl, k1.mono fun x _ hx => by simp [hx], by simp, fun x hx => by simp at hx; subst hx; exact ⟨.inl (by simp), Nat.lt_of_lt_of_le hbs k1.size⟩, ?_⟩
    simp only [List.map_cons, List.map_nil, DRs, DR]
    refine ⟨_, _, [], [b], rfl, rfl, ⟨_, rfl, rfl, rfl⟩, _, _, [b], [], rfl, rfl, ⟨by rw [ints_length, srt_len]; exact hl, .inr ⟨b, cap, c, e, (srt l).map (Value.int .i64), ?_, rfl, k2, by rw [ints_length, srt_len]; exact c1, c2, by omega, ?_, PE_ints' _⟩⟩, rfl, rfl⟩
    · simp [ints_length, srt_len, hlen]
    · refine Mem.of_cells k2 (fun j u hj => ?_)
      rw [List.getElem?_map] at hj
      have hjl : j < (srt l).length := by
        rcases Nat.lt_or_ge j (srt l).length with h | h
        · exact h
        · rw [List.getElem?_eq_none h] at hj; cases hj
      have := k4 j (by rw [hsz]; rw [srt_len] at hjl; exact hjl)
      rw [Nat.zero_add, this]
      rw [List.getElem?_eq_getElem hjl] at hj
      simp only [Option.map_some] at hj
      rw [← hj]
      congr 2
      simp [srt] at hjl ⊢
      rw [List.getElem?_eq_getElem (by simpa using hjl)]
      rfl
end Go.Am
namespace Go.Am
open Go
set_option linter.unusedVariables false
set_option linter.unusedSimpArgs false
/- slices.Clone.I -/
def c_slices_Clone_I_r0 (F : String → Nat) : List LI := [⟨some 2, .mov (.k (.nl 1)), none⟩]
def c_slices_Clone_I_r1 (F : String → Nat) : List LI := [⟨some 3, .mov (.t 0), none⟩,
  ⟨some 4, .isnil false (.t 3), none⟩]
def c_slices_Clone_I_r2 (F : String → Nat) : List LI := [⟨some 2, .mov (.k (.nl 1)), none⟩]
def c_slices_Clone_I_r3 (F : String → Nat) : List LI := [⟨some 5, .buildSl 1 8 (.int .i64 (0)) 0 [], none⟩,
  ⟨some 6, .mov (.t 0), none⟩,
  ⟨some 7, .app 1 8 (.t 5) (.t 6), none⟩,
  ⟨some 2, .mov (.t 7), none⟩]
def c_slices_Clone_I (F : String → Nat) : LC := (.seq (.reg (c_slices_Clone_I_r0 F) [0]) (.seq (.seq (.reg (c_slices_Clone_I_r1 F) [0, 4]) (.cond (.t 4) (.seq (.reg (c_slices_Clone_I_r2 F) [2]) .ret) .skip)) (.seq (.reg (c_slices_Clone_I_r3 F) [2]) .ret)))
def h_slices_Clone_I : Hints := ⟨[], fun _ => [], tab [(0, [0]), (1, [0, 4]), (2, [2]), (3, [2])], tab []⟩

/- slices.Clone.E -/
def c_slices_Clone_E_r0 (F : String → Nat) : List LI := [⟨some 2, .mov (.k (.nl 3)), none⟩]
def c_slices_Clone_E_r1 (F : String → Nat) : List LI := [⟨some 3, .mov (.t 0), none⟩,
  ⟨some 4, .isnil false (.t 3), none⟩]
def c_slices_Clone_E_r2 (F : String → Nat) : List LI := [⟨some 2, .mov (.k (.nl 3)), none⟩]
def c_slices_Clone_E_r3 (F : String → Nat) : List LI := [⟨some 5, .buildSl 3 24 (.agg [.int .i64 (0), .int .i64 (0), .int .i64 (0)]) 0 [], none⟩,
  ⟨some 6, .mov (.t 0), none⟩,
  ⟨some 7, .app 3 24 (.t 5) (.t 6), none⟩,
  ⟨some 2, .mov (.t 7), none⟩]
def c_slices_Clone_E (F : String → Nat) : LC := (.seq (.reg (c_slices_Clone_E_r0 F) [0]) (.seq (.seq (.reg (c_slices_Clone_E_r1 F) [0, 4]) (.cond (.t 4) (.seq (.reg (c_slices_Clone_E_r2 F) [2]) .ret) .skip)) (.seq (.reg (c_slices_Clone_E_r3 F) [2]) .ret)))
def h_slices_Clone_E : Hints := ⟨[], fun _ => [], tab [(0, [0]), (1, [0, 4]), (2, [2]), (3, [2])], tab []⟩

attribute [go_sem] c_slices_Clone_I_r0 c_slices_Clone_I_r1 c_slices_Clone_I_r2 c_slices_Clone_I_r3 c_slices_Clone_I c_slices_Clone_E_r0 c_slices_Clone_E_r1 c_slices_Clone_E_r2 c_slices_Clone_E_r3 c_slices_Clone_E
def pts (l : List Mo) : List D := l.map mD
theorem pts_length (l : List Mo) : (pts l).length = l.length := by simp [pts]
theorem pts_snoc (l : List Mo) (a b : List Int) : pts l ++ [.agg [.lst 1 (ints a), .lst 1 (ints b)]] = pts (l ++ [⟨a, b⟩]) := by simp [pts, mD]
attribute [go_sem] pts_length pts_snoc
section
variable (P : Program) (F : String → Nat)
def K_slices_Clone_I : Prop := ∀ l : List Int, l.length ≤ 10000000000000 → FC P (F "slices.Clone.I") [.lst 1 (ints l)] (.arr 1 (ints l)) []
def K_slices_Clone_E : Prop := ∀ l : List E, l.length ≤ 1000000000000 → FC P (F "slices.Clone.E") [.lst 3 (eds l)] (.arr 3 (eds l)) []
end
section
variable {P : Program} {F : String → Nat} {α : Type}
theorem w_slices_Clone_I (l : List Int) (hl : l.length ≤ 10000000000000) : W P (c_slices_Clone_I F) (Done [.t 2] [] (.arr 1 (ints l)) []) (init [.lst 1 (ints l)]) := by
  refine W_of ?_
  simp (config := { maxSteps := 1000000 }) (disch := first | omega | (simp only [go_sem]; omega)) only [go_sem, ↓reduceIte]
  refine nil_by (fun h => ?_) (fun _ => ?_)
  · have : l = [] := by simpa [ints] using h
    subst this
    simp (config := { maxSteps := 1000000 }) (disch := first | omega | (simp only [go_sem]; omega)) only [go_sem, ↓reduceIte, ints_nil]
  · simp (config := { maxSteps := 1000000 }) (disch := first | omega | (simp only [go_sem]; omega)) only [go_sem, ↓reduceIte]
theorem w_slices_Clone_E (l : List E) (hl : l.length ≤ 1000000000000) : W P (c_slices_Clone_E F) (Done [.t 2] [] (.arr 3 (eds l)) []) (init [.lst 3 (eds l)]) := by
  refine W_of ?_
  simp (config := { maxSteps := 1000000 }) (disch := first | omega | (simp only [go_sem]; omega)) only [go_sem, ↓reduceIte]
  refine nil_by (fun h => ?_) (fun _ => ?_)
  · have : l = [] := by simpa [eds] using h
    subst this
    have e : eds [] = [] := rfl
    simp (config := { maxSteps := 1000000 }) (disch := first | omega | (simp only [go_sem]; omega)) only [go_sem, ↓reduceIte, e]
  · simp (config := { maxSteps := 1000000 }) (disch := first | omega | (simp only [go_sem]; omega)) only [go_sem, ↓reduceIte]
end
end Go.Am
namespace Go.Am
open Go
set_option linter.unusedVariables false
set_option linter.unusedSimpArgs false
/-- A pair. -/
structure Pr where
  a : Int
  b : Int
  deriving DecidableEq, Inhabited
def prD (x : Pr) : D := .agg [.int .i64 x.a, .int .i64 x.b]
def prs (l : List Pr) : List D := l.map prD
theorem prs_length (l : List Pr) : (prs l).length = l.length := by simp [prs]
theorem prs_snoc (l : List Pr) (a b : Int) : prs l ++ [.agg [.int .i64 a, .int .i64 b]] = prs (l ++ [⟨a, b⟩]) := by simp [prs, prD]
theorem prs_app (l m : List Pr) : prs l ++ prs m = prs (l ++ m) := by simp [prs]
theorem flat_prs (l : List Pr) : (prs l).all D.flatE = true := by simp [prs, prD, D.flatE, D.flat0]
theorem prs_at {l : List Pr} {j : Int} (h0 : 0 ≤ j) (h : j < l.length) : (prs l)[j.toNat]? = some (.agg [.int .i64 (gt l j).a, .int .i64 (gt l j).b]) := by
  unfold prs
  rw [List.getElem?_map, get_gt h0 h]; rfl
theorem prs_atn {l : List Pr} {i : Nat} (h : i < l.length) : (prs l)[i]? = some (.agg [.int .i64 (gt l i).a, .int .i64 (gt l i).b]) := by
  have := prs_at (l := l) (j := i) (by omega) (by omega)
  simpa using this
theorem prs_set {l : List Pr} {i : Nat} {a b : Int} : (prs l).set i (.agg [.int .i64 a, .int .i64 b]) = prs (l.set i ⟨a, b⟩) := by simp [prs, List.map_set, prD]
theorem prs_take {l : List Pr} {n : Nat} : (prs l).take n = prs (l.take n) := by simp [prs, List.map_take]
theorem prs_drop {l : List Pr} {n : Nat} : (prs l).drop n = prs (l.drop n) := by simp [prs, List.map_drop]
theorem eqPr (a b : Pr) : a = b ↔ a.a = b.a ∧ a.b = b.b := by cases a; cases b; simp
attribute [go_sem] prs_length prs_snoc prs_app flat_prs prs_at prs_set prs_take prs_drop
attribute [go_sem low] prs_atn
def g0 : G := ⟨[], []⟩
def m0 : Mo := ⟨[], []⟩
/-- The numbers below `n` that have a property. -/
def sel (p : Nat → Bool) (n : Nat) : List Int := ((List.range n).filter p).map fun i : Nat => (i : Int)
theorem sel_zero (p : Nat → Bool) : sel p 0 = [] := rfl
theorem sel_succ (p : Nat → Bool) (n : Nat) : sel p (n + 1) = if p n = true then sel p n ++ [(n : Int)] else sel p n := by
  simp only [sel, List.range_succ, List.filter_append, List.filter_cons, List.filter_nil, List.map_append]
  split <;> simp
theorem sel_len (p : Nat → Bool) (n : Nat) : (sel p n).length ≤ n := by
  simp only [sel, List.length_map]
  exact Nat.le_trans (List.length_filter_le _ _) (by simp)
def distinct (l : List Int) : Bool := decide l.Nodup
def injM (a b : G) (m : Mo) : Bool := decide (validM a b m = 0) && (distinct m.n && distinct m.e)
section
variable (P : Program) (F : String → Nat)
end
section
variable {P : Program} {F : String → Nat} {α : Type}
theorem validM_spec {a b : G} {m : Mo} (h : validM a b m = 0) : validG a = 0 ∧ validG b = 0 ∧ m.n.length = a.n.length ∧ m.e.length = a.e.length ∧ nodeE b.n m.n a.n = 0 ∧ edgeE b.e m.n m.e a.e = 0 := by
  unfold validM at h
  split at h
  · rename_i h1; exact absurd h h1
  · rename_i h1
    split at h
    · rename_i h2; exact absurd h h2
    · rename_i h2
      split at h
      · cases h
      · rename_i h3
        split at h
        · rename_i h4; exact absurd h h4
        · rename_i h4
          exact ⟨by simpa using h1, by simpa using h2, by omega, by omega, by simpa using h4, h⟩
theorem validM_len {a b : G} {m : Mo} (h : validM a b m = 0) : m.n.length ≤ 40 ∧ m.e.length ≤ 80 ∧ a.n.length ≤ 40 ∧ a.e.length ≤ 80 ∧ b.n.length ≤ 40 ∧ b.e.length ≤ 80 := by
  obtain ⟨h1, h2, h3, h4, _⟩ := validM_spec h
  obtain ⟨a1, a2, _⟩ := valid_spec h1
  obtain ⟨b1, b2, _⟩ := valid_spec h2
  omega
end
end Go.Am
namespace Go.Am
open Go
set_option linter.unusedVariables false
set_option linter.unusedSimpArgs false
/- slices.Compact.I -/
def c_slices_Compact_I_r0 (F : String → Nat) : List LI := [⟨some 2, .mov (.k (.nl 1)), none⟩]
def c_slices_Compact_I_r1 (F : String → Nat) : List LI := [⟨some 6, .mov (.t 0), none⟩,
  ⟨some 7, .len (.t 6), none⟩,
  ⟨some 8, .bin .lss (.t 7) (.k (.int .i64 (2))), none⟩]
def c_slices_Compact_I_r2 (F : String → Nat) : List LI := [⟨some 9, .mov (.t 0), none⟩,
  ⟨some 2, .mov (.t 9), none⟩]
def c_slices_Compact_I_r3 (F : String → Nat) : List LI := [⟨some 3, .mov (.k (.int .i64 (1))), none⟩]
def c_slices_Compact_I_r4 (F : String → Nat) : List LI := [⟨some 10, .mov (.t 3), none⟩,
  ⟨some 11, .mov (.t 0), none⟩,
  ⟨some 12, .len (.t 11), none⟩,
  ⟨some 13, .bin .lss (.t 10) (.t 12), none⟩]
def c_slices_Compact_I_r5 (F : String → Nat) : List LI := [⟨some 16, .mov (.t 0), none⟩,
  ⟨some 17, .mov (.t 3), none⟩,
  ⟨some 18, .iad 1 (.t 16) (.t 17), none⟩,
  ⟨some 19, .load false 1 (.t 18), none⟩,
  ⟨some 20, .mov (.t 0), none⟩,
  ⟨some 21, .mov (.t 3), none⟩,
  ⟨some 22, .bin .sub (.t 21) (.k (.int .i64 (1))), none⟩,
  ⟨some 23, .iad 1 (.t 20) (.t 22), none⟩,
  ⟨some 24, .load false 1 (.t 23), none⟩,
  ⟨some 25, .bin .eql (.t 19) (.t 24), none⟩]
def c_slices_Compact_I_r6 (F : String → Nat) : List LI := [⟨some 26, .mov (.t 0), none⟩,
  ⟨some 27, .mov (.t 3), none⟩,
  ⟨some 28, .slc 1 (.t 26) (some (.t 27)) none, none⟩,
  ⟨some 4, .mov (.t 28), none⟩]
def c_slices_Compact_I_r7 (F : String → Nat) : List LI := [⟨some 5, .mov (.k (.int .i64 (1))), none⟩]
def c_slices_Compact_I_r8 (F : String → Nat) : List LI := [⟨some 29, .mov (.t 5), none⟩,
  ⟨some 30, .mov (.t 4), none⟩,
  ⟨some 31, .len (.t 30), none⟩,
  ⟨some 32, .bin .lss (.t 29) (.t 31), none⟩]
def c_slices_Compact_I_r9 (F : String → Nat) : List LI := [⟨some 35, .mov (.t 4), none⟩,
  ⟨some 36, .mov (.t 5), none⟩,
  ⟨some 37, .iad 1 (.t 35) (.t 36), none⟩,
  ⟨some 38, .load false 1 (.t 37), none⟩,
  ⟨some 39, .mov (.t 4), none⟩,
  ⟨some 40, .mov (.t 5), none⟩,
  ⟨some 41, .bin .sub (.t 40) (.k (.int .i64 (1))), none⟩,
  ⟨some 42, .iad 1 (.t 39) (.t 41), none⟩,
  ⟨some 43, .load false 1 (.t 42), none⟩,
  ⟨some 44, .bin .neq (.t 38) (.t 43), none⟩]
def c_slices_Compact_I_r10 (F : String → Nat) : List LI := [⟨some 45, .mov (.t 0), none⟩,
  ⟨some 46, .mov (.t 3), none⟩,
  ⟨some 47, .mov (.t 4), none⟩,
  ⟨some 48, .mov (.t 5), none⟩,
  ⟨some 49, .iad 1 (.t 47) (.t 48), none⟩,
  ⟨some 50, .load false 1 (.t 49), none⟩,
  ⟨some 51, .iad 1 (.t 45) (.t 46), none⟩,
  ⟨none, .store 1 (.t 51) (.t 50), none⟩]
def c_slices_Compact_I_r11 (F : String → Nat) : List LI := [⟨some 52, .mov (.t 3), none⟩,
  ⟨some 53, .bin .add (.t 52) (.k (.int .i64 (1))), none⟩,
  ⟨some 3, .mov (.t 53), none⟩]
def c_slices_Compact_I_r12 (F : String → Nat) : List LI := [⟨some 33, .mov (.t 5), none⟩,
  ⟨some 34, .bin .add (.t 33) (.k (.int .i64 (1))), none⟩,
  ⟨some 5, .mov (.t 34), none⟩]
def c_slices_Compact_I_b13 (F : String → Nat) : LC := (.seq (.seq (.reg (c_slices_Compact_I_r8 F) [0, 3, 4, 5, 32]) (.cond (.t 32) .skip (.exit 2))) (.seq (.block 3 (.seq (.dreg [] (c_slices_Compact_I_r9 F) [0, 3, 4, 5, 44]) (.cond (.t 44) (.seq (.reg (c_slices_Compact_I_r10 F) [0, 3, 4, 5]) (.reg (c_slices_Compact_I_r11 F) [0, 3, 4, 5])) .skip))) (.reg (c_slices_Compact_I_r12 F) [0, 3, 4, 5])))
def c_slices_Compact_I_r14 (F : String → Nat) : List LI := [⟨some 54, .mov (.t 0), none⟩,
  ⟨some 55, .mov (.t 3), none⟩,
  ⟨some 56, .slc 1 (.t 54) (some (.t 55)) none, none⟩,
  ⟨none, .clr 1 (.t 56), none⟩]
def c_slices_Compact_I_r15 (F : String → Nat) : List LI := [⟨some 57, .mov (.t 0), none⟩,
  ⟨some 58, .mov (.t 3), none⟩,
  ⟨some 59, .slc 1 (.t 57) none (some (.t 58)), none⟩,
  ⟨some 2, .mov (.t 59), none⟩]
def c_slices_Compact_I_r16 (F : String → Nat) : List LI := [⟨some 14, .mov (.t 3), none⟩,
  ⟨some 15, .bin .add (.t 14) (.k (.int .i64 (1))), none⟩,
  ⟨some 3, .mov (.t 15), none⟩]
def c_slices_Compact_I_b17 (F : String → Nat) : LC := (.seq (.seq (.reg (c_slices_Compact_I_r4 F) [0, 3, 13]) (.cond (.t 13) .skip (.exit 0))) (.seq (.block 1 (.seq (.dreg [] (c_slices_Compact_I_r5 F) [0, 3, 25]) (.cond (.t 25) (.seq (.reg (c_slices_Compact_I_r6 F) [0, 3, 4]) (.seq (.seq (.reg (c_slices_Compact_I_r7 F) [0, 3, 4, 5]) (.block 2 (.loop [0, 3, 4, 5] (c_slices_Compact_I_b13 F)))) (.seq (.reg (c_slices_Compact_I_r14 F) [0, 3]) (.seq (.reg (c_slices_Compact_I_r15 F) [2]) .ret)))) .skip))) (.reg (c_slices_Compact_I_r16 F) [0, 3])))
def c_slices_Compact_I_r18 (F : String → Nat) : List LI := [⟨some 60, .mov (.t 0), none⟩,
  ⟨some 2, .mov (.t 60), none⟩]
def c_slices_Compact_I (F : String → Nat) : LC := (.seq (.reg (c_slices_Compact_I_r0 F) [0]) (.seq (.seq (.reg (c_slices_Compact_I_r1 F) [0, 8]) (.cond (.t 8) (.seq (.reg (c_slices_Compact_I_r2 F) [2]) .ret) .skip)) (.seq (.seq (.reg (c_slices_Compact_I_r3 F) [0, 3]) (.block 0 (.loop [0, 3] (c_slices_Compact_I_b17 F)))) (.seq (.reg (c_slices_Compact_I_r18 F) [2]) .ret))))
def h_slices_Compact_I : Hints := ⟨[], fun _ => [], tab [(0, [0]), (1, [0, 8]), (2, [2]), (3, [0, 3]), (4, [0, 3, 13]), (5, [0, 3]), (6, [0, 3, 25]), (7, [0, 3, 4]), (8, [0, 3, 4, 5]), (9, [0, 3, 4, 5, 32]), (10, [0, 3, 4, 5]), (11, [0, 3, 4, 5, 44]), (12, [0, 3, 4, 5]), (13, [0, 3, 4, 5]), (14, [0, 3]), (15, [2]), (16, [2])], tab [(4, [0, 3]), (9, [0, 3, 4, 5])]⟩

/- morphism.images -/
def c_morphism_images_r0 (F : String → Nat) : List LI := [⟨some 2, .mov (.k (.int .i64 (0))), none⟩]
def c_morphism_images_r1 (F : String → Nat) : List LI := [⟨some 4, .mov (.t 0), none⟩,
  ⟨some 5, .call (F "slices.Clone.I") [.t 4] [], none⟩,
  ⟨some 3, .mov (.t 5), none⟩]
def c_morphism_images_r2 (F : String → Nat) : List LI := [⟨some 6, .mov (.t 3), none⟩,
  ⟨some 7, .call (F "slices.Sort.I") [.t 6] [.mu], none⟩]
def c_morphism_images_r3 (F : String → Nat) : List LI := [⟨some 8, .mov (.t 3), none⟩,
  ⟨some 9, .call (F "slices.Compact.I") [.t 8] [.ow], none⟩,
  ⟨some 10, .len (.t 9), none⟩,
  ⟨some 2, .mov (.t 10), none⟩]
def c_morphism_images (F : String → Nat) : LC := (.seq (.reg (c_morphism_images_r0 F) [0]) (.seq (.reg (c_morphism_images_r1 F) [3]) (.seq (.reg (c_morphism_images_r2 F) [3]) (.seq (.reg (c_morphism_images_r3 F) [2]) .ret))))
def h_morphism_images : Hints := ⟨[], fun _ => [], tab [(0, [0]), (1, [3]), (2, [3]), (3, [2])], tab []⟩

/- morphism.Injective -/
def c_morphism_Injective_r0 (F : String → Nat) : List LI := [⟨some 3, .bx (.t 0), none⟩,
  ⟨some 4, .bx (.t 1), none⟩,
  ⟨some 5, .bx (.t 2), none⟩,
  ⟨some 6, .mov (.k (.bool false)), none⟩]
def c_morphism_Injective_r1 (F : String → Nat) : List LI := [⟨some 7, .load true 2 (.t 3), none⟩,
  ⟨some 8, .load true 2 (.t 4), none⟩,
  ⟨some 9, .load true 2 (.t 5), none⟩,
  ⟨some 10, .call (F "morphism.Valid") [.t 7, .t 8, .t 9] [], none⟩,
  ⟨some 11, .bin .eql (.t 10) (.k (.int .i64 (0))), none⟩,
  ⟨some 12, .mov (.t 11), none⟩,
  ⟨some 13, .fad 0 (.t 5), some (12, true)⟩,
  ⟨some 14, .load false 1 (.t 13), some (12, true)⟩,
  ⟨some 15, .call (F "morphism.images") [.t 14] [], some (12, true)⟩,
  ⟨some 16, .fad 0 (.t 5), some (12, true)⟩,
  ⟨some 17, .load false 1 (.t 16), some (12, true)⟩,
  ⟨some 18, .len (.t 17), some (12, true)⟩,
  ⟨some 19, .bin .eql (.t 15) (.t 18), some (12, true)⟩,
  ⟨some 20, .pick (.t 12) (.t 19) (.k (.bool false)), none⟩,
  ⟨some 21, .mov (.t 20), none⟩,
  ⟨some 22, .fad 1 (.t 5), some (21, true)⟩,
  ⟨some 23, .load false 1 (.t 22), some (21, true)⟩,
  ⟨some 24, .call (F "morphism.images") [.t 23] [], some (21, true)⟩,
  ⟨some 25, .fad 1 (.t 5), some (21, true)⟩,
  ⟨some 26, .load false 1 (.t 25), some (21, true)⟩,
  ⟨some 27, .len (.t 26), some (21, true)⟩,
  ⟨some 28, .bin .eql (.t 24) (.t 27), some (21, true)⟩,
  ⟨some 29, .pick (.t 21) (.t 28) (.k (.bool false)), none⟩,
  ⟨some 6, .mov (.t 29), none⟩]
def c_morphism_Injective (F : String → Nat) : LC := (.seq (.reg (c_morphism_Injective_r0 F) [3, 4, 5]) (.seq (.dreg [(8, none, [], true), (10, (some 575), [8], false), (17, none, [], true), (19, (some 294911), [17], false)] (c_morphism_Injective_r1 F) [6]) .ret))
def h_morphism_Injective : Hints := ⟨[], fun _ => [], tab [(0, [3, 4, 5]), (1, [6])], tab []⟩

/- morphism.Surjective -/
def c_morphism_Surjective_r0 (F : String → Nat) : List LI := [⟨some 3, .bx (.t 0), none⟩,
  ⟨some 4, .bx (.t 1), none⟩,
  ⟨some 5, .bx (.t 2), none⟩,
  ⟨some 6, .mov (.k (.bool false)), none⟩]
def c_morphism_Surjective_r1 (F : String → Nat) : List LI := [⟨some 7, .load true 2 (.t 3), none⟩,
  ⟨some 8, .load true 2 (.t 4), none⟩,
  ⟨some 9, .load true 2 (.t 5), none⟩,
  ⟨some 10, .call (F "morphism.Valid") [.t 7, .t 8, .t 9] [], none⟩,
  ⟨some 11, .bin .eql (.t 10) (.k (.int .i64 (0))), none⟩,
  ⟨some 12, .mov (.t 11), none⟩,
  ⟨some 13, .fad 0 (.t 5), some (12, true)⟩,
  ⟨some 14, .load false 1 (.t 13), some (12, true)⟩,
  ⟨some 15, .call (F "morphism.images") [.t 14] [], some (12, true)⟩,
  ⟨some 16, .fad 0 (.t 4), some (12, true)⟩,
  ⟨some 17, .load false 1 (.t 16), some (12, true)⟩,
  ⟨some 18, .len (.t 17), some (12, true)⟩,
  ⟨some 19, .bin .eql (.t 15) (.t 18), some (12, true)⟩,
  ⟨some 20, .pick (.t 12) (.t 19) (.k (.bool false)), none⟩,
  ⟨some 21, .mov (.t 20), none⟩,
  ⟨some 22, .fad 1 (.t 5), some (21, true)⟩,
  ⟨some 23, .load false 1 (.t 22), some (21, true)⟩,
  ⟨some 24, .call (F "morphism.images") [.t 23] [], some (21, true)⟩,
  ⟨some 25, .fad 1 (.t 4), some (21, true)⟩,
  ⟨some 26, .load false 1 (.t 25), some (21, true)⟩,
  ⟨some 27, .len (.t 26), some (21, true)⟩,
  ⟨some 28, .bin .eql (.t 24) (.t 27), some (21, true)⟩,
  ⟨some 29, .pick (.t 21) (.t 28) (.k (.bool false)), none⟩,
  ⟨some 6, .mov (.t 29), none⟩]
def c_morphism_Surjective (F : String → Nat) : LC := (.seq (.reg (c_morphism_Surjective_r0 F) [3, 4, 5]) (.seq (.dreg [(8, none, [], true), (10, (some 575), [8], false), (17, none, [], true), (19, (some 294911), [17], false)] (c_morphism_Surjective_r1 F) [6]) .ret))
def h_morphism_Surjective : Hints := ⟨[], fun _ => [], tab [(0, [3, 4, 5]), (1, [6])], tab []⟩

attribute [go_sem] c_slices_Compact_I_r0 c_slices_Compact_I_r1 c_slices_Compact_I_r2 c_slices_Compact_I_r3 c_slices_Compact_I_r4 c_slices_Compact_I_r5 c_slices_Compact_I_r6 c_slices_Compact_I_r7 c_slices_Compact_I_r8 c_slices_Compact_I_r9 c_slices_Compact_I_r10 c_slices_Compact_I_r11 c_slices_Compact_I_r12 c_slices_Compact_I_r14 c_slices_Compact_I_r15 c_slices_Compact_I_r16 c_slices_Compact_I_r18 c_slices_Compact_I c_morphism_images_r0 c_morphism_images_r1 c_morphism_images_r2 c_morphism_images_r3 c_morphism_images c_morphism_Injective_r0 c_morphism_Injective_r1 c_morphism_Injective c_morphism_Surjective_r0 c_morphism_Surjective_r1 c_morphism_Surjective
/-- Is an element kept? -/
def kept (l : List Int) (i : Nat) : Bool := decide (i = 0) || decide (gt l i ≠ gt l ((i : Int) - 1))
/-- What is kept of the first `n`. -/
def kp (l : List Int) (n : Nat) : List Int := ((List.range n).filter (kept l)).map fun i : Nat => gt l i
def cpt (l : List Int) : List Int := kp l l.length
def imgs (l : List Int) : List Int := cpt (srt l)
def covers (l : List Int) (n : Nat) : Bool := (List.range n).all fun k : Nat => decide ((k : Int) ∈ l)
def surM (a b : G) (m : Mo) : Bool := decide (validM a b m = 0) && (covers m.n b.n.length && covers m.e b.e.length)
section
variable (P : Program) (F : String → Nat)
def K_slices_Compact_I : Prop := ∀ l : List Int, l.length ≤ maxL → FC P (F "slices.Compact.I") [.arr 1 (ints l)] (.arr 1 (ints (cpt l))) []
def K_morphism_images : Prop := ∀ l : List Int, l.length ≤ 1000000 → FC P (F "morphism.images") [.lst 1 (ints l)] (.int .i64 (imgs l).length) []
def K_morphism_Injective : Prop := ∀ (a b : G) (m : Mo), FC P (F "morphism.Injective") [gD a, gD b, mD m] (.bool (injM a b m)) []
def K_morphism_Surjective : Prop := ∀ (a b : G) (m : Mo), FC P (F "morphism.Surjective") [gD a, gD b, mD m] (.bool (surM a b m)) []
end
section
variable {P : Program} {F : String → Nat} {α : Type}
theorem kp_succ (l : List Int) (n : Nat) : kp l (n + 1) = if kept l n = true then kp l n ++ [gt l n] else kp l n := by
  simp only [kp, List.range_succ, List.filter_append, List.filter_cons, List.filter_nil, List.map_append]
  split <;> simp
theorem kp_len (l : List Int) (n : Nat) : (kp l n).length ≤ n := by
  simp only [kp, List.length_map]
  exact Nat.le_trans (List.length_filter_le _ _) (by simp)
theorem w_slices_Compact_I (l : List Int) (hl : l.length ≤ maxL) : W P (c_slices_Compact_I F) (Done [.t 2] [] (.arr 1 (ints (cpt l))) []) (init [.arr 1 (ints l)]) := by
  refine W_of ?_
  unfold maxL at hl
  simp (config := { maxSteps := 1000000 }) (disch := first | omega | (simp only [go_sem]; omega)) only [go_sem, ↓reduceIte]
  refine bran_dec (fun c => ?_) (fun c => ?_)
  · have : cpt l = l := by
      match l, c with
      | [], _ => rfl
      | [x], _ => simp [cpt, kp, kept, List.range_succ, gt]
      | x :: y :: l, c => simp at c; omega
    simp (config := { maxSteps := 1000000 }) (disch := first | omega | (simp only [go_sem]; omega)) only [go_sem, ↓reduceIte]
    rw [this]
  · simp (config := { maxSteps := 1000000 }) (disch := first | omega | (simp only [go_sem]; omega)) only [go_sem, ↓reduceIte]
    refine W_loop (fun k : Nat => ⟨[(0, .sl 0 0 l.length), (3, .int .i64 k)], [(0, .arr 1 (ints l))], 1⟩) (fun k => 1 ≤ k ∧ k ≤ l.length ∧ kp l k = l.take k) (fun k => l.length - k) 1 ?_ ?_ ?_
    · simp (config := { maxSteps := 1000000 }) (disch := first | omega | (simp only [go_sem]; omega)) only [go_sem, ↓reduceIte]
      rfl
    · refine ⟨by omega, by omega, ?_⟩
      rw [kp_succ, if_pos (by simp [kept]), take_gt (by omega)]
      rfl
    · rintro k ⟨h1, h2, h3⟩
      have hs := kp_succ l k
      simp (config := { maxSteps := 1000000 }) (disch := first | omega | (simp only [go_sem]; omega)) only [go_sem, ↓reduceIte, c_slices_Compact_I_b17]
      refine bran_dec (fun d => ?_) (fun d => ?_)
      · simp (config := { maxSteps := 1000000 }) (disch := first | omega | (simp only [go_sem]; omega)) only [go_sem, ↓reduceIte]
        refine bran_dec (fun e => ?_) (fun e => ?_)
        · rw [if_neg (by simp [kept, e]; omega)] at hs
          simp (config := { maxSteps := 1000000 }) (disch := first | omega | (simp only [go_sem]; omega)) only [go_sem, ↓reduceIte]
          refine W_loop (fun s : Nat × Nat × List Int => ⟨[(0, .sl 0 0 l.length), (3, .int .i64 s.2.1), (4, .sl 0 k (l.length - k)), (5, .int .i64 s.1)], [(0, .arr 1 (ints s.2.2))], 1⟩)
            (fun s => 1 ≤ s.1 ∧ k + s.1 ≤ l.length ∧ s.2.1 + 1 ≤ k + s.1 ∧ s.2.2.length = l.length ∧ s.2.2.take s.2.1 = kp l (k + s.1) ∧ s.2.2.drop (k + s.1 - 1) = l.drop (k + s.1 - 1)) (fun s => l.length - s.1) (1, k, l) ?_ ?_ ?_
          · simp (config := { maxSteps := 1000000 }) (disch := first | omega | (simp only [go_sem]; omega)) only [go_sem, ↓reduceIte]
            rfl
          · exact ⟨by simp, by simp only; omega, by simp, rfl, by simp only; rw [hs, h3], rfl⟩
          · rintro ⟨j, i, xs⟩ ⟨g1, g2, g3, g4, g5, g6⟩
            simp only at g1 g2 g3 g4 g5 g6
            have hs2 := kp_succ l (k + j)
            have gat : ∀ m : Nat, k + j - 1 ≤ m → m < l.length → gt xs m = gt l m := fun m hm1 hm2 => by
              have := congrArg (fun l : List Int => l[m - (k + j - 1)]?) g6
              simp only [List.getElem?_drop] at this
              rw [show k + j - 1 + (m - (k + j - 1)) = m by omega, List.getElem?_eq_getElem (by omega), List.getElem?_eq_getElem (by omega)] at this
              rw [gt_nat (by omega), gt_nat (by omega)]
              simpa using this
            simp (config := { maxSteps := 1000000 }) (disch := first | omega | (simp only [go_sem]; omega)) only [go_sem, ↓reduceIte, c_slices_Compact_I_b13, g4]
            refine bran_dec (fun d => ?_) (fun d => ?_)
            · have e1 := gat (k + j) (by omega) (by omega)
              have e2 : gt xs ((k + ((j : Int) - 1).toNat : Nat) : Int) = gt l (((k + j : Nat) : Int) - 1) := by
                rw [show k + ((j : Int) - 1).toNat = k + j - 1 by omega, gat (k + j - 1) (by omega) (by omega)]
                congr 1
                omega
              have hd : xs.drop (k + j) = l.drop (k + j) := by
                have := congrArg (fun l : List Int => l.drop 1) g6
                simp only [List.drop_drop] at this
                rw [show k + j - 1 + 1 = k + j by omega] at this
                exact this
              simp (config := { maxSteps := 1000000 }) (disch := first | omega | (simp only [go_sem]; omega)) only [go_sem, ↓reduceIte, g4, e1, e2]
              refine bran_ndec (fun f => ?_) (fun f => ?_)
              · rw [if_pos (by unfold kept; rw [Bool.or_eq_true]; exact .inr (decide_eq_true f))] at hs2
                simp (config := { maxSteps := 1000000 }) (disch := first | omega | (simp only [go_sem]; omega)) only [go_sem, ↓reduceIte, g4, e1]
                refine ⟨(j + 1, i + 1, xs.set i (gt l ((k + j : Nat) : Int))), by simp, ⟨by simp only; omega, by simp only; omega, by simp only; omega, by simp [g4], ?_, ?_⟩, by simp only; omega⟩
                · simp only
                  rw [← Nat.add_assoc, hs2, ← g5, List.take_succ_eq_append_getElem (by simp; omega), List.take_set_of_le (Nat.le_refl _)]
                  simp
                · simp only
                  rw [show k + (j + 1) - 1 = k + j by omega, List.drop_set_of_lt (by omega), hd]
              · rw [if_neg (by unfold kept; simp only [Bool.or_eq_true, decide_eq_true_eq, not_or, ne_eq, Decidable.not_not]; exact ⟨by omega, f⟩)] at hs2
                simp (config := { maxSteps := 1000000 }) (disch := first | omega | (simp only [go_sem]; omega)) only [go_sem, ↓reduceIte, g4]
                refine ⟨(j + 1, i, xs), by simp, ⟨by simp only; omega, by simp only; omega, by simp only; omega, g4, ?_, ?_⟩, by simp only; omega⟩
                · simp only
                  rw [← Nat.add_assoc, hs2, ← g5]
                · simp only
                  rw [show k + (j + 1) - 1 = k + j by omega, hd]
            · have hi : (xs.take i).length = i := by simp; omega
              have hkj : k + j = l.length := by omega
              simp (config := { maxSteps := 1000000 }) (disch := first | omega | (simp only [go_sem]; omega)) only [go_sem, ↓reduceIte, g4, hi, Nat.sub_zero]
              rw [g5, hkj, cpt]
        · rw [if_pos (by simp [kept, e])] at hs
          simp (config := { maxSteps := 1000000 }) (disch := first | omega | (simp only [go_sem]; omega)) only [go_sem, ↓reduceIte]
          exact ⟨k + 1, by simp, ⟨by omega, by omega, by rw [hs, h3, take_gt (by omega)]⟩, by omega⟩
      · obtain rfl : k = l.length := by omega
        simp (config := { maxSteps := 1000000 }) (disch := first | omega | (simp only [go_sem]; omega)) only [go_sem, ↓reduceIte]
        rw [cpt, h3, List.take_length]
/-! What is kept of a sorted list. -/
theorem kp_sub (l : List Int) : ∀ n, n ≤ l.length → (kp l n).Sublist (l.take n)
  | 0, _ => by simp [kp]
  | n + 1, h => by
    rw [kp_succ, take_gt (by omega)]
    split
    · exact (kp_sub l n (by omega)).append (List.Sublist.refl _)
    · exact (kp_sub l n (by omega)).trans (List.sublist_append_left _ _)
theorem kp_mem (l : List Int) : ∀ n, n ≤ l.length → ∀ x ∈ l.take n, x ∈ kp l n
  | 0, _ => by simp
  | n + 1, h => by
    intro x hx
    rw [take_gt (by omega)] at hx
    rw [kp_succ]
    rcases List.mem_append.1 hx with hx | hx
    · split
      · exact List.mem_append_left _ (kp_mem l n (by omega) x hx)
      · exact kp_mem l n (by omega) x hx
    · simp only [List.mem_singleton] at hx
      subst hx
      split
      · simp
      · rename_i hk
        simp only [kept, Bool.or_eq_true, decide_eq_true_eq, not_or, ne_eq, Decidable.not_not] at hk
        refine kp_mem l n (by omega) _ ?_
        rw [hk.2, show (n : Int) - 1 = ((n - 1 : Nat) : Int) by omega, gt_nat (by omega)]
        exact List.mem_take_iff_getElem.2 ⟨n - 1, by omega, rfl⟩
theorem kp_lt {l : List Int} (hs : l.Pairwise (· ≤ ·)) : ∀ n, n ≤ l.length → (kp l n).Pairwise (· < ·)
  | 0, _ => by simp [kp]
  | n + 1, h => by
    rw [kp_succ]
    split
    · rename_i hk
      rw [List.pairwise_append]
      refine ⟨kp_lt hs n (by omega), by simp, fun x hx y hy => ?_⟩
      simp only [List.mem_singleton] at hy
      subst hy
      obtain ⟨m, hm, rfl⟩ := List.mem_take_iff_getElem.1 ((kp_sub l n (by omega)).subset hx)
      simp only [kept, Bool.or_eq_true, decide_eq_true_eq, ne_eq] at hk
      have hn : n ≠ 0 := by omega
      have hne : gt l n ≠ gt l ((n : Int) - 1) := hk.resolve_left hn
      rw [gt_nat (by omega), show (n : Int) - 1 = ((n - 1 : Nat) : Int) by omega, gt_nat (by omega)] at hne
      rw [gt_nat (by omega)]
      have h1 : l[n - 1] ≤ l[n] := List.pairwise_iff_getElem.1 hs (n - 1) n (by omega) (by omega) (by omega)
      have h2 : l[m] ≤ l[n - 1] := by
        by_cases he : m = n - 1
        · subst he; exact Int.le_refl _
        · exact List.pairwise_iff_getElem.1 hs m (n - 1) (by omega) (by omega) (by omega)
      omega
    · exact kp_lt hs n (by omega)
theorem imgs_mem {l : List Int} {x : Int} : x ∈ imgs l ↔ x ∈ l := by
  unfold imgs cpt
  constructor
  · intro h
    have := (kp_sub (srt l) _ (Nat.le_refl _)).subset h
    rw [List.take_length] at this
    exact (srt_perm l).mem_iff.1 this
  · intro h
    exact kp_mem (srt l) _ (Nat.le_refl _) x (by rw [List.take_length]; exact (srt_perm l).mem_iff.2 h)
theorem imgs_lt (l : List Int) : (imgs l).Pairwise (· < ·) := kp_lt (srt_sorted l) _ (Nat.le_refl _)
theorem imgs_nodup (l : List Int) : (imgs l).Nodup := (imgs_lt l).imp (fun h => by omega)
theorem imgs_len (l : List Int) : (imgs l).length ≤ l.length := by
  rw [← srt_len l]; exact kp_len _ _
/-- As many images as elements: none occurs twice. -/
theorem imgs_inj {l : List Int} : (imgs l).length = l.length ↔ l.Nodup := by
  have hsub : (imgs l).Sublist (srt l) := by
    have := kp_sub (srt l) _ (Nat.le_refl _)
    rwa [List.take_length] at this
  constructor
  · intro h
    have : imgs l = srt l := hsub.eq_of_length (by rw [h, srt_len])
    exact (srt_perm l).nodup_iff.1 (this ▸ imgs_nodup l)
  · intro h
    have hp : (imgs l).Perm l := (List.perm_ext_iff_of_nodup (imgs_nodup l) h).2 fun x => imgs_mem
    exact hp.length_eq
/-- As many images as numbers: all occur. -/
theorem imgs_sur {l : List Int} {n : Nat} (hb : ∀ x ∈ l, 0 ≤ x ∧ x < n) : (imgs l).length = n ↔ ∀ k : Nat, k < n → (k : Int) ∈ l := by
  have hnn : (nums 0 n).Nodup := by
    unfold nums List.Nodup
    rw [List.pairwise_map]
    exact (List.nodup_range (n := n)).imp fun h => by omega
  have hmem : ∀ x : Int, x ∈ nums 0 n ↔ 0 ≤ x ∧ x < n := fun x => by
    unfold nums
    simp only [List.mem_map, List.mem_range]
    constructor
    · rintro ⟨k, hk, rfl⟩; omega
    · rintro ⟨h1, h2⟩; exact ⟨x.toNat, by omega, by omega⟩
  have hp : (imgs l).Perm ((nums 0 n).filter fun x => decide (x ∈ l)) := (List.perm_ext_iff_of_nodup (imgs_nodup l) (hnn.filter _)).2 fun x => by
    rw [imgs_mem, List.mem_filter, hmem, decide_eq_true_eq]
    exact ⟨fun h => ⟨hb x h, h⟩, fun h => h.2⟩
  rw [hp.length_eq]
  have hn := nums_len 0 n
  constructor
  · intro h k hk
    have := (List.filter_eq_self.1 ((List.filter_sublist (l := nums 0 n) (p := fun x => decide (x ∈ l))).eq_of_length (by rw [h, hn]))) k ((hmem k).2 (by omega))
    simpa using this
  · intro h
    rw [List.filter_eq_self.2 fun x hx => ?_, hn]
    have hx := (hmem x).1 hx
    have := h x.toNat (by omega)
    rw [Int.toNat_of_nonneg hx.1] at this
    simpa using this
end
end Go.Am
namespace Go.Am
open Go
set_option linter.unusedVariables false
set_option linter.unusedSimpArgs false
section
variable {P : Program} {F : String → Nat} {α : Type}
theorem w_morphism_images (hc : K_slices_Clone_I P F) (hs : K_slices_Sort_I P F) (hp : K_slices_Compact_I P F) (l : List Int) (hl : l.length ≤ 1000000) : W P (c_morphism_images F) (Done [.t 2] [] (.int .i64 (imgs l).length) []) (init [.lst 1 (ints l)]) := by
  refine W_of ?_
  have e1 := srt_len l
  have e2 := imgs_len l
  have r1 := hc l (by omega)
  have r2 := hs l (by unfold maxL; omega)
  have r3 := hp (srt l) (by unfold maxL; omega)
  change FC P _ _ (.arr 1 (ints (imgs l))) _ at r3
  generalize imgs l = m at *
  generalize srt l = q at *
  simp (config := { maxSteps := 1000000 }) (disch := first | omega | (simp only [go_sem]; omega)) only [go_sem, ↓reduceIte]
  refine call_by r1 ?_
  simp (config := { maxSteps := 1000000 }) (disch := first | omega | (simp only [go_sem]; omega)) only [go_sem, ↓reduceIte]
  refine call_by r2 ?_
  simp (config := { maxSteps := 1000000 }) (disch := first | omega | (simp only [go_sem]; omega)) only [go_sem, ↓reduceIte, e1]
  refine call_by r3 ?_
  simp (config := { maxSteps := 1000000 }) (disch := first | omega | (simp only [go_sem]; omega)) only [go_sem, ↓reduceIte]
theorem inj_imgs (l : List Int) : decide (((imgs l).length : Int) = l.length) = distinct l := by
  rw [Bool.eq_iff_iff, distinct, decide_eq_true_eq, decide_eq_true_eq, ← imgs_inj]
  omega
theorem w_morphism_Injective (hv : K_morphism_Valid P F) (hi : K_morphism_images P F) (a b : G) (m : Mo) : W P (c_morphism_Injective F) (Done [.t 6] [] (.bool (injM a b m)) []) (init [gD a, gD b, mD m]) := by
  refine W_of ?_
  have rv := hv a b m
  have hl := @validM_len a b m
  have hd : injM a b m = (decide (validM a b m = 0) && (distinct m.n && distinct m.e)) := rfl
  rw [hd, ← inj_imgs m.n, ← inj_imgs m.e]
  generalize validM a b m = v at *
  obtain ⟨an, ae⟩ := a
  obtain ⟨bn, be⟩ := b
  obtain ⟨mn, me⟩ := m
  simp only [gD, mD] at rv ⊢
  simp (config := { maxSteps := 1000000 }) (disch := first | omega | (simp only [go_sem]; omega)) only [go_sem, ↓reduceIte]
  refine call_by rv ?_
  simp (config := { maxSteps := 1000000 }) (disch := first | omega | (simp only [go_sem]; omega)) only [go_sem, ↓reduceIte]
  refine bran_dec (fun c => ?_) (fun c => ?_)
  · subst c
    obtain ⟨l1, l2, _⟩ := hl rfl
    simp only at l1 l2
    have r1 := hi mn (by omega)
    have r2 := hi me (by omega)
    have e1 := imgs_len mn
    have e2 := imgs_len me
    generalize imgs mn = pn at *
    generalize imgs me = pe at *
    simp (config := { maxSteps := 1000000 }) (disch := first | omega | (simp only [go_sem]; omega)) only [go_sem, ↓reduceIte]
    refine call_by r1 ?_
    simp (config := { maxSteps := 1000000 }) (disch := first | omega | (simp only [go_sem]; omega)) only [go_sem, ↓reduceIte]
    refine bran_dec (fun d => ?_) (fun d => ?_)
    · simp (config := { maxSteps := 1000000 }) (disch := first | omega | (simp only [go_sem]; omega)) only [go_sem, ↓reduceIte, d]
      refine call_by r2 ?_
      simp (config := { maxSteps := 1000000 }) (disch := first | omega | (simp only [go_sem]; omega)) only [go_sem, ↓reduceIte, d]
      try simp
    · simp (config := { maxSteps := 1000000 }) (disch := first | omega | (simp only [go_sem]; omega)) only [go_sem, ↓reduceIte, d]
      try simp
  · simp (config := { maxSteps := 1000000 }) (disch := first | omega | (simp only [go_sem]; omega)) only [go_sem, ↓reduceIte, c]
    try simp
theorem nodeE_all {bn : List Int} : ∀ {ms as : List Int}, nodeE bn ms as = 0 → ms.length = as.length → ∀ i : Nat, i < ms.length → (0 ≤ gt ms i ∧ gt ms i < bn.length) ∧ gt bn (gt ms i) = gt as i
  | [], _, _, _, i, hi => by simp at hi
  | k :: ms, [], _, hl, _, _ => by simp at hl
  | k :: ms, t :: as, h, hl, i, hi => by
    rw [nodeE] at h
    split at h
    · rename_i h1
      split at h
      · rename_i h2
        cases i with
        | zero => exact ⟨h1, h2⟩
        | succ i =>
          have := nodeE_all h (by simpa using hl) i (by simpa using hi)
          have e1 : gt (k :: ms) ((i + 1 : Nat) : Int) = gt ms i := by simp [gt]
          have e2 : gt (t :: as) ((i + 1 : Nat) : Int) = gt as i := by simp [gt]
          rw [e1, e2]; exact this
      · simp at h
    · simp at h
theorem edgeE_all {be : List E} {mn : List Int} : ∀ {ms : List Int} {as : List E}, edgeE be mn ms as = 0 → ms.length = as.length → ∀ i : Nat, i < ms.length →
    (0 ≤ gt ms i ∧ gt ms i < be.length) ∧ (gt as i).t = (gt be (gt ms i)).t ∧ gt mn (gt as i).f = (gt be (gt ms i)).f ∧ gt mn (gt as i).o = (gt be (gt ms i)).o
  | [], _, _, _, i, hi => by simp at hi
  | k :: ms, [], _, hl, _, _ => by simp at hl
  | k :: ms, x :: as, h, hl, i, hi => by
    rw [edgeE] at h
    split at h
    · rename_i h1
      split at h
      · rename_i h2
        split at h
        · rename_i h3
          cases i with
          | zero => exact ⟨h1, h2, h3⟩
          | succ i =>
            have := edgeE_all h (by simpa using hl) i (by simpa using hi)
            have e1 : gt (k :: ms) ((i + 1 : Nat) : Int) = gt ms i := by simp [gt]
            have e2 : gt (x :: as) ((i + 1 : Nat) : Int) = gt as i := by simp [gt]
            rw [e1, e2]; exact this
        · simp at h
      · simp at h
    · simp at h
theorem mem_gt {α : Type} [Inhabited α] {l : List α} {x : α} (h : x ∈ l) : ∃ i : Nat, i < l.length ∧ gt l i = x := by
  obtain ⟨i, hi, rfl⟩ := List.getElem_of_mem h
  exact ⟨i, hi, gt_nat hi⟩
theorem validM_bd {a b : G} {m : Mo} (h : validM a b m = 0) : (∀ x ∈ m.n, 0 ≤ x ∧ x < b.n.length) ∧ ∀ x ∈ m.e, 0 ≤ x ∧ x < b.e.length := by
  obtain ⟨_, _, h3, h4, h5, h6⟩ := validM_spec h
  refine ⟨fun x hx => ?_, fun x hx => ?_⟩
  · obtain ⟨i, hi, rfl⟩ := mem_gt hx
    exact (nodeE_all h5 h3 i hi).1
  · obtain ⟨i, hi, rfl⟩ := mem_gt hx
    exact (edgeE_all h6 h4 i hi).1
theorem sur_imgs {l : List Int} {n : Nat} (hb : ∀ x ∈ l, 0 ≤ x ∧ x < n) : decide (((imgs l).length : Int) = n) = covers l n := by
  rw [Bool.eq_iff_iff, covers, decide_eq_true_eq, List.all_eq_true]
  simp only [List.mem_range, decide_eq_true_eq]
  rw [← imgs_sur hb]
  omega
theorem w_morphism_Surjective (hv : K_morphism_Valid P F) (hi : K_morphism_images P F) (a b : G) (m : Mo) : W P (c_morphism_Surjective F) (Done [.t 6] [] (.bool (surM a b m)) []) (init [gD a, gD b, mD m]) := by
  refine W_of ?_
  have rv := hv a b m
  have hl := @validM_len a b m
  have hbd := @validM_bd a b m
  have hd : surM a b m = (decide (validM a b m = 0) && (covers m.n b.n.length && covers m.e b.e.length)) := rfl
  rw [hd]
  generalize validM a b m = v at *
  obtain ⟨an, ae⟩ := a
  obtain ⟨bn, be⟩ := b
  obtain ⟨mn, me⟩ := m
  simp only [gD, mD] at rv ⊢
  simp (config := { maxSteps := 1000000 }) (disch := first | omega | (simp only [go_sem]; omega)) only [go_sem, ↓reduceIte]
  refine call_by rv ?_
  simp (config := { maxSteps := 1000000 }) (disch := first | omega | (simp only [go_sem]; omega)) only [go_sem, ↓reduceIte]
  refine bran_dec (fun c => ?_) (fun c => ?_)
  · subst c
    obtain ⟨l1, l2, _⟩ := hl rfl
    obtain ⟨b1, b2⟩ := hbd rfl
    simp only at l1 l2 b1 b2
    rw [← sur_imgs b1, ← sur_imgs b2]
    have r1 := hi mn (by omega)
    have r2 := hi me (by omega)
    have e1 := imgs_len mn
    have e2 := imgs_len me
    generalize imgs mn = pn at *
    generalize imgs me = pe at *
    simp (config := { maxSteps := 1000000 }) (disch := first | omega | (simp only [go_sem]; omega)) only [go_sem, ↓reduceIte]
    refine call_by r1 ?_
    simp (config := { maxSteps := 1000000 }) (disch := first | omega | (simp only [go_sem]; omega)) only [go_sem, ↓reduceIte]
    refine bran_dec (fun d => ?_) (fun d => ?_)
    · simp (config := { maxSteps := 1000000 }) (disch := first | omega | (simp only [go_sem]; omega)) only [go_sem, ↓reduceIte, d]
      refine call_by r2 ?_
      simp (config := { maxSteps := 1000000 }) (disch := first | omega | (simp only [go_sem]; omega)) only [go_sem, ↓reduceIte, d]
      try simp
    · simp (config := { maxSteps := 1000000 }) (disch := first | omega | (simp only [go_sem]; omega)) only [go_sem, ↓reduceIte, d]
      try simp
  · simp (config := { maxSteps := 1000000 }) (disch := first | omega | (simp only [go_sem]; omega)) only [go_sem, ↓reduceIte, c]
    try simp
end
end Go.Am
