/- Pullbacks: deletion of pairs; the standard pullback. -/
import Derived.Test.YtkllpeebnabdiaaSkPa
namespace Go.Am
open Go
set_option linter.unusedVariables false
set_option linter.unusedSimpArgs false
/- slices.IndexFunc.apiPair -/
def c_slices_IndexFunc_apiPair_r0 (F : String → Nat) : List LI := [⟨some 4, .mov (.k (.int .i64 (0))), none⟩]
def c_slices_IndexFunc_apiPair_r1 (F : String → Nat) : List LI := [⟨some 6, .mov (.t 0), none⟩,
  ⟨some 7, .len (.t 6), none⟩,
  ⟨some 8, .mov (.k (.int .i64 (0))), none⟩]
def c_slices_IndexFunc_apiPair_r2 (F : String → Nat) : List LI := [⟨some 9, .bin .lss (.t 8) (.t 7), none⟩]
def c_slices_IndexFunc_apiPair_r3 (F : String → Nat) : List LI := [⟨some 10, .mov (.t 8), none⟩,
  ⟨some 5, .mov (.t 10), none⟩]
def c_slices_IndexFunc_apiPair_r4 (F : String → Nat) : List LI := [⟨some 11, .mov (.t 1), none⟩,
  ⟨some 12, .mov (.t 0), none⟩,
  ⟨some 13, .mov (.t 5), none⟩,
  ⟨some 14, .iad 2 (.t 12) (.t 13), none⟩,
  ⟨some 15, .load true 2 (.t 14), none⟩,
  ⟨some 16, .callv (.t 11) [.t 15], none⟩]
def c_slices_IndexFunc_apiPair_r5 (F : String → Nat) : List LI := [⟨some 17, .mov (.t 5), none⟩,
  ⟨some 4, .mov (.t 17), none⟩]
def c_slices_IndexFunc_apiPair_r6 (F : String → Nat) : List LI := [⟨some 18, .bin .add (.t 8) (.k (.int .i64 (1))), none⟩,
  ⟨some 8, .mov (.t 18), none⟩]
def c_slices_IndexFunc_apiPair_b7 (F : String → Nat) : LC := (.seq (.reg (c_slices_IndexFunc_apiPair_r2 F) [0, 1, 7, 8, 9]) (.seq (.cond (.t 9) .skip (.exit 0)) (.seq (.block 1 (.seq (.reg (c_slices_IndexFunc_apiPair_r3 F) [0, 1, 5, 7, 8]) (.seq (.reg (c_slices_IndexFunc_apiPair_r4 F) [0, 1, 5, 7, 8, 16]) (.cond (.t 16) (.seq (.reg (c_slices_IndexFunc_apiPair_r5 F) [4]) .ret) .skip)))) (.reg (c_slices_IndexFunc_apiPair_r6 F) [0, 1, 7, 8]))))
def c_slices_IndexFunc_apiPair_r8 (F : String → Nat) : List LI := [⟨some 4, .mov (.k (.int .i64 (-1))), none⟩]
def c_slices_IndexFunc_apiPair (F : String → Nat) : LC := (.seq (.reg (c_slices_IndexFunc_apiPair_r0 F) [0, 1]) (.seq (.seq (.reg (c_slices_IndexFunc_apiPair_r1 F) [0, 1, 7, 8]) (.block 0 (.loop [0, 1, 7, 8] (c_slices_IndexFunc_apiPair_b7 F)))) (.seq (.reg (c_slices_IndexFunc_apiPair_r8 F) [4]) .ret)))
def h_slices_IndexFunc_apiPair : Hints := ⟨[], fun _ => [], tab [(0, [0, 1]), (1, [0, 1, 7, 8]), (2, [0, 1, 7, 8, 9]), (3, [0, 1, 5, 7, 8]), (4, [0, 1, 5, 7, 8, 16]), (5, [4]), (6, [0, 1, 7, 8]), (7, [4])], tab [(2, [0, 1, 7, 8])]⟩

/- slices.DeleteFunc.apiPair -/
def c_slices_DeleteFunc_apiPair_r0 (F : String → Nat) : List LI := [⟨some 4, .mov (.k (.nl 2)), none⟩]
def c_slices_DeleteFunc_apiPair_r1 (F : String → Nat) : List LI := [⟨some 8, .mov (.t 0), none⟩,
  ⟨some 9, .mov (.t 1), none⟩,
  ⟨some 10, .call (F "slices.IndexFunc.apiPair") [.t 8, .t 9] [], none⟩,
  ⟨some 5, .mov (.t 10), none⟩]
def c_slices_DeleteFunc_apiPair_r2 (F : String → Nat) : List LI := [⟨some 11, .mov (.t 5), none⟩,
  ⟨some 12, .bin .eql (.t 11) (.k (.int .i64 (-1))), none⟩]
def c_slices_DeleteFunc_apiPair_r3 (F : String → Nat) : List LI := [⟨some 13, .mov (.t 0), none⟩,
  ⟨some 4, .mov (.t 13), none⟩]
def c_slices_DeleteFunc_apiPair_r4 (F : String → Nat) : List LI := [⟨some 14, .mov (.t 5), none⟩,
  ⟨some 15, .bin .add (.t 14) (.k (.int .i64 (1))), none⟩,
  ⟨some 6, .mov (.t 15), none⟩]
def c_slices_DeleteFunc_apiPair_r5 (F : String → Nat) : List LI := [⟨some 16, .mov (.t 6), none⟩,
  ⟨some 17, .mov (.t 0), none⟩,
  ⟨some 18, .len (.t 17), none⟩,
  ⟨some 19, .bin .lss (.t 16) (.t 18), none⟩]
def c_slices_DeleteFunc_apiPair_r6 (F : String → Nat) : List LI := [⟨some 22, .mov (.t 0), none⟩,
  ⟨some 23, .mov (.t 6), none⟩,
  ⟨some 24, .iad 2 (.t 22) (.t 23), none⟩,
  ⟨some 25, .load true 2 (.t 24), none⟩,
  ⟨some 7, .alloc [.int .i64 (0), .int .i64 (0)], none⟩,
  ⟨none, .store 2 (.t 7) (.t 25), none⟩]
def c_slices_DeleteFunc_apiPair_r7 (F : String → Nat) : List LI := [⟨some 26, .mov (.t 1), none⟩,
  ⟨some 27, .load true 2 (.t 7), none⟩,
  ⟨some 28, .callv (.t 26) [.t 27], none⟩,
  ⟨some 29, .not (.t 28), none⟩]
def c_slices_DeleteFunc_apiPair_r8 (F : String → Nat) : List LI := [⟨some 30, .mov (.t 0), none⟩,
  ⟨some 31, .mov (.t 5), none⟩,
  ⟨some 32, .load true 2 (.t 7), none⟩,
  ⟨some 33, .iad 2 (.t 30) (.t 31), none⟩,
  ⟨none, .store 2 (.t 33) (.t 32), none⟩]
def c_slices_DeleteFunc_apiPair_r9 (F : String → Nat) : List LI := [⟨some 34, .mov (.t 5), none⟩,
  ⟨some 35, .bin .add (.t 34) (.k (.int .i64 (1))), none⟩,
  ⟨some 5, .mov (.t 35), none⟩]
def c_slices_DeleteFunc_apiPair_r10 (F : String → Nat) : List LI := [⟨some 20, .mov (.t 6), none⟩,
  ⟨some 21, .bin .add (.t 20) (.k (.int .i64 (1))), none⟩,
  ⟨some 6, .mov (.t 21), none⟩]
def c_slices_DeleteFunc_apiPair_b11 (F : String → Nat) : LC := (.seq (.seq (.reg (c_slices_DeleteFunc_apiPair_r5 F) [0, 1, 5, 6, 19]) (.cond (.t 19) .skip (.exit 0))) (.seq (.block 1 (.seq (.reg (c_slices_DeleteFunc_apiPair_r6 F) [0, 1, 5, 6, 7]) (.seq (.reg (c_slices_DeleteFunc_apiPair_r7 F) [0, 1, 5, 6, 7, 29]) (.cond (.t 29) (.seq (.reg (c_slices_DeleteFunc_apiPair_r8 F) [0, 1, 5, 6]) (.reg (c_slices_DeleteFunc_apiPair_r9 F) [0, 1, 5, 6])) .skip)))) (.reg (c_slices_DeleteFunc_apiPair_r10 F) [0, 1, 5, 6])))
def c_slices_DeleteFunc_apiPair_r12 (F : String → Nat) : List LI := [⟨some 36, .mov (.t 0), none⟩,
  ⟨some 37, .mov (.t 5), none⟩,
  ⟨some 38, .slc 2 (.t 36) (some (.t 37)) none, none⟩,
  ⟨none, .clr 2 (.t 38), none⟩]
def c_slices_DeleteFunc_apiPair_r13 (F : String → Nat) : List LI := [⟨some 39, .mov (.t 0), none⟩,
  ⟨some 40, .mov (.t 5), none⟩,
  ⟨some 41, .slc 2 (.t 39) none (some (.t 40)), none⟩,
  ⟨some 4, .mov (.t 41), none⟩]
def c_slices_DeleteFunc_apiPair (F : String → Nat) : LC := (.seq (.reg (c_slices_DeleteFunc_apiPair_r0 F) [0, 1]) (.seq (.reg (c_slices_DeleteFunc_apiPair_r1 F) [0, 1, 5]) (.seq (.seq (.reg (c_slices_DeleteFunc_apiPair_r2 F) [0, 1, 5, 12]) (.cond (.t 12) (.seq (.reg (c_slices_DeleteFunc_apiPair_r3 F) [4]) .ret) .skip)) (.seq (.seq (.reg (c_slices_DeleteFunc_apiPair_r4 F) [0, 1, 5, 6]) (.block 0 (.loop [0, 1, 5, 6] (c_slices_DeleteFunc_apiPair_b11 F)))) (.seq (.reg (c_slices_DeleteFunc_apiPair_r12 F) [0, 5]) (.seq (.reg (c_slices_DeleteFunc_apiPair_r13 F) [4]) .ret))))))
def h_slices_DeleteFunc_apiPair : Hints := ⟨[], fun _ => [], tab [(0, [0, 1]), (1, [0, 1, 5]), (2, [0, 1, 5, 12]), (3, [4]), (4, [0, 1, 5, 6]), (5, [0, 1, 5, 6, 19]), (6, [0, 1, 5, 6]), (7, [0, 1, 5, 6, 7]), (8, [0, 1, 5, 6, 7, 29]), (9, [0, 1, 5, 6]), (10, [0, 1, 5, 6]), (11, [0, 5]), (12, [4])], tab [(5, [0, 1, 5, 6])]⟩

/- pullback.Kernel.1 -/
def c_pullback_Kernel_1_r0 (F : String → Nat) : List LI := [⟨some 1, .bx (.t 0), none⟩,
  ⟨some 2, .mov (.k (.bool false)), none⟩]
def c_pullback_Kernel_1_r1 (F : String → Nat) : List LI := [⟨some 3, .fad 0 (.t 1), none⟩,
  ⟨some 4, .load false 1 (.t 3), none⟩,
  ⟨some 5, .fad 1 (.t 1), none⟩,
  ⟨some 6, .load false 1 (.t 5), none⟩,
  ⟨some 7, .bin .geq (.t 4) (.t 6), none⟩,
  ⟨some 2, .mov (.t 7), none⟩]
def c_pullback_Kernel_1 (F : String → Nat) : LC := (.seq (.reg (c_pullback_Kernel_1_r0 F) [1]) (.seq (.reg (c_pullback_Kernel_1_r1 F) [2]) .ret))
def h_pullback_Kernel_1 : Hints := ⟨[], fun _ => [], tab [(0, [1]), (1, [2])], tab []⟩

/- pullback.Kernel -/
def c_pullback_Kernel_r0 (F : String → Nat) : List LI := [⟨some 3, .bx (.t 0), none⟩,
  ⟨some 4, .bx (.t 1), none⟩,
  ⟨some 5, .bx (.t 2), none⟩,
  ⟨some 6, .mov (.k (.nl 2)), none⟩,
  ⟨some 7, .mov (.k (.nl 2)), none⟩,
  ⟨some 8, .mov (.k (.int .i64 (0))), none⟩]
def c_pullback_Kernel_r1 (F : String → Nat) : List LI := [⟨some 11, .load true 2 (.t 3), none⟩,
  ⟨some 12, .load true 2 (.t 4), none⟩,
  ⟨some 13, .load true 2 (.t 5), none⟩,
  ⟨some 14, .call (F "morphism.Valid") [.t 11, .t 12, .t 13] [], none⟩,
  ⟨some 9, .mov (.t 14), none⟩]
def c_pullback_Kernel_r2 (F : String → Nat) : List LI := [⟨some 15, .mov (.t 9), none⟩,
  ⟨some 16, .bin .neq (.t 15) (.k (.int .i64 (0))), none⟩]
def c_pullback_Kernel_r3 (F : String → Nat) : List LI := [⟨some 17, .mov (.t 9), none⟩,
  ⟨some 6, .mov (.k (.nl 2)), none⟩,
  ⟨some 7, .mov (.k (.nl 2)), none⟩,
  ⟨some 8, .mov (.t 17), none⟩]
def c_pullback_Kernel_r4 (F : String → Nat) : List LI := [⟨some 10, .mov (.k (.clo (F "pullback.Kernel.1") [])), none⟩]
def c_pullback_Kernel_r5 (F : String → Nat) : List LI := [⟨some 18, .fad 0 (.t 5), none⟩,
  ⟨some 19, .load false 1 (.t 18), none⟩,
  ⟨some 20, .fad 0 (.t 5), none⟩,
  ⟨some 21, .load false 1 (.t 20), none⟩,
  ⟨some 22, .call (F "pullback.pairs") [.t 19, .t 21] [], none⟩,
  ⟨some 23, .mov (.t 10), none⟩,
  ⟨some 24, .call (F "slices.DeleteFunc.apiPair") [.t 22, .t 23] [.ow, .rd], none⟩,
  ⟨some 25, .fad 1 (.t 5), none⟩,
  ⟨some 26, .load false 1 (.t 25), none⟩,
  ⟨some 27, .fad 1 (.t 5), none⟩,
  ⟨some 28, .load false 1 (.t 27), none⟩,
  ⟨some 29, .call (F "pullback.pairs") [.t 26, .t 28] [], none⟩,
  ⟨some 30, .mov (.t 10), none⟩,
  ⟨some 31, .call (F "slices.DeleteFunc.apiPair") [.t 29, .t 30] [.ow, .rd], none⟩,
  ⟨some 6, .mov (.t 24), none⟩,
  ⟨some 7, .mov (.t 31), none⟩,
  ⟨some 8, .mov (.k (.int .i64 (0))), none⟩]
def c_pullback_Kernel (F : String → Nat) : LC := (.seq (.reg (c_pullback_Kernel_r0 F) [3, 4, 5]) (.seq (.seq (.reg (c_pullback_Kernel_r1 F) [5, 9]) (.seq (.reg (c_pullback_Kernel_r2 F) [5, 9, 16]) (.cond (.t 16) (.seq (.reg (c_pullback_Kernel_r3 F) [6, 7, 8]) .ret) .skip))) (.seq (.reg (c_pullback_Kernel_r4 F) [5, 10]) (.seq (.dreg [(4, none, [], true), (6, none, [], true), (8, (some 128), [4, 6], false), (10, (some 512), [4, 6], false)] (c_pullback_Kernel_r5 F) [6, 7, 8]) .ret))))
def h_pullback_Kernel : Hints := ⟨[], fun _ => [], tab [(0, [3, 4, 5]), (1, [5, 9]), (2, [5, 9, 16]), (3, [6, 7, 8]), (4, [5, 10]), (5, [6, 7, 8])], tab []⟩

/- r11.Kernel -/
def c_r11_Kernel_r0 (F : String → Nat) : List LI := [⟨some 3, .bx (.t 0), none⟩,
  ⟨some 4, .bx (.t 1), none⟩,
  ⟨some 5, .bx (.t 2), none⟩,
  ⟨some 6, .mov (.k (.nl 2)), none⟩,
  ⟨some 7, .mov (.k (.nl 2)), none⟩,
  ⟨some 8, .mov (.k (.int .i64 (0))), none⟩]
def c_r11_Kernel_r1 (F : String → Nat) : List LI := [⟨some 10, .load true 2 (.t 3), none⟩,
  ⟨some 11, .load true 2 (.t 4), none⟩,
  ⟨some 12, .load true 2 (.t 5), none⟩,
  ⟨some 13, .call (F "r06.Valid") [.t 10, .t 11, .t 12] [], none⟩,
  ⟨some 9, .mov (.t 13), none⟩]
def c_r11_Kernel_r2 (F : String → Nat) : List LI := [⟨some 14, .mov (.t 9), none⟩,
  ⟨some 15, .bin .neq (.t 14) (.k (.int .i64 (0))), none⟩]
def c_r11_Kernel_r3 (F : String → Nat) : List LI := [⟨some 16, .mov (.t 9), none⟩,
  ⟨some 6, .mov (.k (.nl 2)), none⟩,
  ⟨some 7, .mov (.k (.nl 2)), none⟩,
  ⟨some 8, .mov (.t 16), none⟩]
def c_r11_Kernel_r4 (F : String → Nat) : List LI := [⟨some 17, .fad 0 (.t 5), none⟩,
  ⟨some 18, .load false 1 (.t 17), none⟩,
  ⟨some 19, .call (F "r11.equal") [.t 18] [], none⟩,
  ⟨some 20, .fad 1 (.t 5), none⟩,
  ⟨some 21, .load false 1 (.t 20), none⟩,
  ⟨some 22, .call (F "r11.equal") [.t 21] [], none⟩,
  ⟨some 6, .mov (.t 19), none⟩,
  ⟨some 7, .mov (.t 22), none⟩,
  ⟨some 8, .mov (.k (.int .i64 (0))), none⟩]
def c_r11_Kernel (F : String → Nat) : LC := (.seq (.reg (c_r11_Kernel_r0 F) [3, 4, 5]) (.seq (.seq (.reg (c_r11_Kernel_r1 F) [5, 9]) (.seq (.reg (c_r11_Kernel_r2 F) [5, 9, 15]) (.cond (.t 15) (.seq (.reg (c_r11_Kernel_r3 F) [6, 7, 8]) .ret) .skip))) (.seq (.dreg [(2, none, [], true), (4, (some 8), [2], false)] (c_r11_Kernel_r4 F) [6, 7, 8]) .ret)))
def h_r11_Kernel : Hints := ⟨[], fun _ => [], tab [(0, [3, 4, 5]), (1, [5, 9]), (2, [5, 9, 15]), (3, [6, 7, 8]), (4, [6, 7, 8])], tab []⟩

/- pullback.Equalizer -/
def c_pullback_Equalizer_r0 (F : String → Nat) : List LI := [⟨some 4, .bx (.t 0), none⟩,
  ⟨some 5, .bx (.t 1), none⟩,
  ⟨some 6, .bx (.t 2), none⟩,
  ⟨some 7, .bx (.t 3), none⟩,
  ⟨some 8, .alloc [.nl 1, .nl 1], none⟩,
  ⟨some 9, .mov (.k (.int .i64 (0))), none⟩]
def c_pullback_Equalizer_r1 (F : String → Nat) : List LI := [⟨some 12, .load true 2 (.t 4), none⟩,
  ⟨some 13, .load true 2 (.t 5), none⟩,
  ⟨some 14, .load true 2 (.t 6), none⟩,
  ⟨some 15, .call (F "morphism.Valid") [.t 12, .t 13, .t 14] [], none⟩,
  ⟨some 10, .mov (.t 15), none⟩]
def c_pullback_Equalizer_r2 (F : String → Nat) : List LI := [⟨some 16, .mov (.t 10), none⟩,
  ⟨some 17, .bin .neq (.t 16) (.k (.int .i64 (0))), none⟩]
def c_pullback_Equalizer_r3 (F : String → Nat) : List LI := [⟨some 18, .build [.nl 1, .nl 1] [], none⟩,
  ⟨some 19, .mov (.t 10), none⟩,
  ⟨none, .store 2 (.t 8) (.t 18), none⟩,
  ⟨some 9, .mov (.t 19), none⟩]
def c_pullback_Equalizer_r4 (F : String → Nat) : List LI := [⟨some 20, .load true 2 (.t 4), none⟩,
  ⟨some 21, .load true 2 (.t 5), none⟩,
  ⟨some 22, .load true 2 (.t 7), none⟩,
  ⟨some 23, .call (F "morphism.Valid") [.t 20, .t 21, .t 22] [], none⟩,
  ⟨some 11, .mov (.t 23), none⟩]
def c_pullback_Equalizer_r5 (F : String → Nat) : List LI := [⟨some 24, .mov (.t 11), none⟩,
  ⟨some 25, .bin .neq (.t 24) (.k (.int .i64 (0))), none⟩]
def c_pullback_Equalizer_r6 (F : String → Nat) : List LI := [⟨some 26, .build [.nl 1, .nl 1] [], none⟩,
  ⟨some 27, .mov (.t 11), none⟩,
  ⟨none, .store 2 (.t 8) (.t 26), none⟩,
  ⟨some 9, .mov (.t 27), none⟩]
def c_pullback_Equalizer_r7 (F : String → Nat) : List LI := [⟨some 28, .fad 0 (.t 6), none⟩,
  ⟨some 29, .load false 1 (.t 28), none⟩,
  ⟨some 30, .fad 0 (.t 7), none⟩,
  ⟨some 31, .load false 1 (.t 30), none⟩,
  ⟨some 32, .call (F "pullback.equal") [.t 29, .t 31] [], none⟩,
  ⟨some 33, .fad 1 (.t 6), none⟩,
  ⟨some 34, .load false 1 (.t 33), none⟩,
  ⟨some 35, .fad 1 (.t 7), none⟩,
  ⟨some 36, .load false 1 (.t 35), none⟩,
  ⟨some 37, .call (F "pullback.equal") [.t 34, .t 36] [], none⟩,
  ⟨some 38, .build [.nl 1, .nl 1] [(0, 1, .t 32), (1, 1, .t 37)], none⟩,
  ⟨none, .store 2 (.t 8) (.t 38), none⟩,
  ⟨some 9, .mov (.k (.int .i64 (0))), none⟩]
def c_pullback_Equalizer (F : String → Nat) : LC := (.seq (.reg (c_pullback_Equalizer_r0 F) [4, 5, 6, 7, 8]) (.seq (.seq (.reg (c_pullback_Equalizer_r1 F) [4, 5, 6, 7, 8, 10]) (.seq (.reg (c_pullback_Equalizer_r2 F) [4, 5, 6, 7, 8, 10, 17]) (.cond (.t 17) (.seq (.reg (c_pullback_Equalizer_r3 F) [8, 9]) .ret) .skip))) (.seq (.seq (.reg (c_pullback_Equalizer_r4 F) [6, 7, 8, 11]) (.seq (.reg (c_pullback_Equalizer_r5 F) [6, 7, 8, 11, 25]) (.cond (.t 25) (.seq (.reg (c_pullback_Equalizer_r6 F) [8, 9]) .ret) .skip))) (.seq (.dreg [(4, none, [], true), (6, (some 32), [4], false), (8, (some 128), [4], false)] (c_pullback_Equalizer_r7 F) [8, 9]) .ret))))
def h_pullback_Equalizer : Hints := ⟨[], fun _ => [], tab [(0, [4, 5, 6, 7, 8]), (1, [4, 5, 6, 7, 8, 10]), (2, [4, 5, 6, 7, 8, 10, 17]), (3, [8, 9]), (4, [6, 7, 8, 11]), (5, [6, 7, 8, 11, 25]), (6, [8, 9]), (7, [8, 9])], tab []⟩

/- r11.Equalizer -/
def c_r11_Equalizer_r0 (F : String → Nat) : List LI := [⟨some 4, .bx (.t 0), none⟩,
  ⟨some 5, .bx (.t 1), none⟩,
  ⟨some 6, .bx (.t 2), none⟩,
  ⟨some 7, .bx (.t 3), none⟩,
  ⟨some 8, .alloc [.nl 1, .nl 1], none⟩,
  ⟨some 9, .mov (.k (.int .i64 (0))), none⟩]
def c_r11_Equalizer_r1 (F : String → Nat) : List LI := [⟨some 12, .load true 2 (.t 4), none⟩,
  ⟨some 13, .load true 2 (.t 5), none⟩,
  ⟨some 14, .load true 2 (.t 6), none⟩,
  ⟨some 15, .call (F "r06.Valid") [.t 12, .t 13, .t 14] [], none⟩,
  ⟨some 10, .mov (.t 15), none⟩]
def c_r11_Equalizer_r2 (F : String → Nat) : List LI := [⟨some 16, .mov (.t 10), none⟩,
  ⟨some 17, .bin .neq (.t 16) (.k (.int .i64 (0))), none⟩]
def c_r11_Equalizer_r3 (F : String → Nat) : List LI := [⟨some 18, .build [.nl 1, .nl 1] [], none⟩,
  ⟨some 19, .mov (.t 10), none⟩,
  ⟨none, .store 2 (.t 8) (.t 18), none⟩,
  ⟨some 9, .mov (.t 19), none⟩]
def c_r11_Equalizer_r4 (F : String → Nat) : List LI := [⟨some 20, .load true 2 (.t 4), none⟩,
  ⟨some 21, .load true 2 (.t 5), none⟩,
  ⟨some 22, .load true 2 (.t 7), none⟩,
  ⟨some 23, .call (F "r06.Valid") [.t 20, .t 21, .t 22] [], none⟩,
  ⟨some 11, .mov (.t 23), none⟩]
def c_r11_Equalizer_r5 (F : String → Nat) : List LI := [⟨some 24, .mov (.t 11), none⟩,
  ⟨some 25, .bin .neq (.t 24) (.k (.int .i64 (0))), none⟩]
def c_r11_Equalizer_r6 (F : String → Nat) : List LI := [⟨some 26, .build [.nl 1, .nl 1] [], none⟩,
  ⟨some 27, .mov (.t 11), none⟩,
  ⟨none, .store 2 (.t 8) (.t 26), none⟩,
  ⟨some 9, .mov (.t 27), none⟩]
def c_r11_Equalizer_r7 (F : String → Nat) : List LI := [⟨some 28, .fad 0 (.t 6), none⟩,
  ⟨some 29, .load false 1 (.t 28), none⟩,
  ⟨some 30, .fad 0 (.t 7), none⟩,
  ⟨some 31, .load false 1 (.t 30), none⟩,
  ⟨some 32, .call (F "r11.agree") [.t 29, .t 31] [], none⟩,
  ⟨some 33, .fad 1 (.t 6), none⟩,
  ⟨some 34, .load false 1 (.t 33), none⟩,
  ⟨some 35, .fad 1 (.t 7), none⟩,
  ⟨some 36, .load false 1 (.t 35), none⟩,
  ⟨some 37, .call (F "r11.agree") [.t 34, .t 36] [], none⟩,
  ⟨some 38, .build [.nl 1, .nl 1] [(0, 1, .t 32), (1, 1, .t 37)], none⟩,
  ⟨none, .store 2 (.t 8) (.t 38), none⟩,
  ⟨some 9, .mov (.k (.int .i64 (0))), none⟩]
def c_r11_Equalizer (F : String → Nat) : LC := (.seq (.reg (c_r11_Equalizer_r0 F) [4, 5, 6, 7, 8]) (.seq (.seq (.reg (c_r11_Equalizer_r1 F) [4, 5, 6, 7, 8, 10]) (.seq (.reg (c_r11_Equalizer_r2 F) [4, 5, 6, 7, 8, 10, 17]) (.cond (.t 17) (.seq (.reg (c_r11_Equalizer_r3 F) [8, 9]) .ret) .skip))) (.seq (.seq (.reg (c_r11_Equalizer_r4 F) [6, 7, 8, 11]) (.seq (.reg (c_r11_Equalizer_r5 F) [6, 7, 8, 11, 25]) (.cond (.t 25) (.seq (.reg (c_r11_Equalizer_r6 F) [8, 9]) .ret) .skip))) (.seq (.dreg [(4, none, [], true), (6, (some 32), [4], false), (8, (some 128), [4], false)] (c_r11_Equalizer_r7 F) [8, 9]) .ret))))
def h_r11_Equalizer : Hints := ⟨[], fun _ => [], tab [(0, [4, 5, 6, 7, 8]), (1, [4, 5, 6, 7, 8, 10]), (2, [4, 5, 6, 7, 8, 10, 17]), (3, [8, 9]), (4, [6, 7, 8, 11]), (5, [6, 7, 8, 11, 25]), (6, [8, 9]), (7, [8, 9])], tab []⟩

attribute [go_sem] c_slices_IndexFunc_apiPair_r0 c_slices_IndexFunc_apiPair_r1 c_slices_IndexFunc_apiPair_r2 c_slices_IndexFunc_apiPair_r3 c_slices_IndexFunc_apiPair_r4 c_slices_IndexFunc_apiPair_r5 c_slices_IndexFunc_apiPair_r6 c_slices_IndexFunc_apiPair_r8 c_slices_IndexFunc_apiPair c_slices_DeleteFunc_apiPair_r0 c_slices_DeleteFunc_apiPair_r1 c_slices_DeleteFunc_apiPair_r2 c_slices_DeleteFunc_apiPair_r3 c_slices_DeleteFunc_apiPair_r4 c_slices_DeleteFunc_apiPair_r5 c_slices_DeleteFunc_apiPair_r6 c_slices_DeleteFunc_apiPair_r7 c_slices_DeleteFunc_apiPair_r8 c_slices_DeleteFunc_apiPair_r9 c_slices_DeleteFunc_apiPair_r10 c_slices_DeleteFunc_apiPair_r12 c_slices_DeleteFunc_apiPair_r13 c_slices_DeleteFunc_apiPair c_pullback_Kernel_1_r0 c_pullback_Kernel_1_r1 c_pullback_Kernel_1 c_pullback_Kernel_r0 c_pullback_Kernel_r1 c_pullback_Kernel_r2 c_pullback_Kernel_r3 c_pullback_Kernel_r4 c_pullback_Kernel_r5 c_pullback_Kernel c_r11_Kernel_r0 c_r11_Kernel_r1 c_r11_Kernel_r2 c_r11_Kernel_r3 c_r11_Kernel_r4 c_r11_Kernel c_pullback_Equalizer_r0 c_pullback_Equalizer_r1 c_pullback_Equalizer_r2 c_pullback_Equalizer_r3 c_pullback_Equalizer_r4 c_pullback_Equalizer_r5 c_pullback_Equalizer_r6 c_pullback_Equalizer_r7 c_pullback_Equalizer c_r11_Equalizer_r0 c_r11_Equalizer_r1 c_r11_Equalizer_r2 c_r11_Equalizer_r3 c_r11_Equalizer_r4 c_r11_Equalizer_r5 c_r11_Equalizer_r6 c_r11_Equalizer_r7 c_r11_Equalizer
def kernN (a b : G) (m : Mo) : List Pr := if validM a b m = 0 then equalL m.n else []
def kernE (a b : G) (m : Mo) : List Pr := if validM a b m = 0 then equalL m.e else []
def eqM (a b : G) (f g : Mo) : Mo × Int := if validM a b f ≠ 0 then (⟨[], []⟩, validM a b f) else if validM a b g ≠ 0 then (⟨[], []⟩, validM a b g) else (⟨agreeL f.n g.n, agreeL f.e g.e⟩, 0)
section
variable (P : Program) (F : String → Nat)
def K_slices_IndexFunc_apiPair : Prop := ∀ (l : List Pr), l.length ≤ maxL → ∀ (g : Nat) (cs : List D), cs.all okC2 = true → ∀ p : Pr → Bool, (∀ x, x ∈ l → FC P g (prD x :: cs) (.bool (p x)) []) → FC P (F "slices.IndexFunc.apiPair") [.lst 2 (prs l), .clo g cs] (.int .i64 (idx p l 0)) []
def K_slices_DeleteFunc_apiPair : Prop := ∀ (l : List Pr), l.length ≤ maxL → ∀ (g : Nat) (cs : List D), cs.all okC2 = true → ∀ p : Pr → Bool, (∀ x, x ∈ l → FC P g (prD x :: cs) (.bool (p x)) []) → FC P (F "slices.DeleteFunc.apiPair") [.arr 2 (prs l), .clo g cs] (.arr 2 (prs (l.filter fun x => !p x))) []
def K_pullback_Kernel_1 : Prop := ∀ x : Pr, FC P (F "pullback.Kernel.1") [prD x] (.bool (decide (x.b ≤ x.a))) []
def K_pullback_Kernel : Prop := ∀ (a b : G) (m : Mo), FC P (F "pullback.Kernel") [gD a, gD b, mD m] (.tup [.arr 2 (prs (kernN a b m)), .arr 2 (prs (kernE a b m)), .int .i64 (validM a b m)]) []
def K_r11_Kernel : Prop := ∀ (a b : G) (m : Mo), FC P (F "r11.Kernel") [gD a, gD b, mD m] (.tup [.arr 2 (prs (kernN a b m)), .arr 2 (prs (kernE a b m)), .int .i64 (validM a b m)]) []
def K_pullback_Equalizer : Prop := ∀ (a b : G) (f g : Mo), FC P (F "pullback.Equalizer") [gD a, gD b, mD f, mD g] (.tup [mA (eqM a b f g).1, .int .i64 (eqM a b f g).2]) []
def K_r11_Equalizer : Prop := ∀ (a b : G) (f g : Mo), FC P (F "r11.Equalizer") [gD a, gD b, mD f, mD g] (.tup [mA (eqM a b f g).1, .int .i64 (eqM a b f g).2]) []
end
section
variable {P : Program} {F : String → Nat} {α : Type}
theorem w_slices_IndexFunc_apiPair (l : List Pr) (hl : l.length ≤ maxL) (g : Nat) (cs : List D) (hcs : cs.all okC2 = true) (p : Pr → Bool) (hg : ∀ x, x ∈ l → FC P g (prD x :: cs) (.bool (p x)) []) : W P (c_slices_IndexFunc_apiPair F) (Done [.t 4] [] (.int .i64 (idx p l 0)) []) (init [.lst 2 (prs l), .clo g cs]) := by
  refine W_of ?_
  unfold maxL at hl
  have e1 := caps_lend2 hcs
  have e2 := caps_ren hcs
  simp (config := { maxSteps := 1000000 }) (disch := first | omega | (simp only [go_sem]; omega)) only [go_sem, ↓reduceIte]
  refine W_loop (fun i : Nat => ⟨[(0, .lst 2 (prs l)), (1, .clo g cs), (7, .int .i64 l.length), (8, .int .i64 i)], [], 0⟩) (fun i => i ≤ l.length ∧ idx p l 0 = idx p (l.drop i) i) (fun i => l.length - i) 0 ?_ ?_ ?_
  · simp (config := { maxSteps := 1000000 }) (disch := first | omega | (simp only [go_sem]; omega)) only [go_sem, ↓reduceIte, e2]
    rfl
  · simp
  · intro i hi
    simp (config := { maxSteps := 1000000 }) (disch := first | omega | (simp only [go_sem]; omega)) only [go_sem, ↓reduceIte, c_slices_IndexFunc_apiPair_b7]
    refine bran_dec (fun h => ?_) (fun h => ?_)
    · have hd := idx_drop p l i (by omega)
      simp (config := { maxSteps := 1000000 }) (disch := first | omega | (simp only [go_sem]; omega)) only [go_sem, ↓reduceIte, e1]
      refine call_by (hg _ (gt_mem (by omega) h)) ?_
      simp (config := { maxSteps := 1000000 }) (disch := first | omega | (simp only [go_sem]; omega)) only [go_sem, ↓reduceIte]
      refine bran_by (fun h2 => ?_) (fun h2 => ?_)
      · simp (config := { maxSteps := 1000000 }) (disch := first | omega | (simp only [go_sem]; omega)) only [go_sem, ↓reduceIte]
        rw [hi.2, hd, if_pos h2]
      · simp (config := { maxSteps := 1000000 }) (disch := first | omega | (simp only [go_sem]; omega)) only [go_sem, ↓reduceIte, e2]
        exact ⟨i + 1, by simp, ⟨by omega, by rw [hi.2, hd, if_neg (by simp [h2])]⟩, by omega⟩
    · simp (config := { maxSteps := 1000000 }) (disch := first | omega | (simp only [go_sem]; omega)) only [go_sem, ↓reduceIte]
      rw [hi.2, List.drop_of_length_le (by omega)]
      rfl
theorem idx_none (p : α → Bool) : ∀ (l : List α) (i : Int), 0 ≤ i → idx p l i = -1 → ∀ x ∈ l, p x = false
  | [], _, _, _, x, hx => by simp at hx
  | a :: l, i, h0, h, x, hx => by
    simp only [idx] at h
    split at h
    · omega
    · rename_i ha
      rcases List.mem_cons.1 hx with rfl | hx
      · simpa using ha
      · exact idx_none p l (i + 1) (by omega) h x hx
theorem idx_some [Inhabited α] (p : α → Bool) : ∀ (l : List α) (i : Int), idx p l i ≠ -1 → ∃ k : Nat, idx p l i = i + k ∧ k < l.length ∧ p (gt l k) = true ∧ ∀ x ∈ l.take k, p x = false
  | [], _, h => absurd rfl h
  | a :: l, i, h => by
    simp only [idx] at h ⊢
    split
    · rename_i ha
      exact ⟨0, by simp, by simp, by simpa [gt] using ha, by simp⟩
    · rename_i ha
      rw [if_neg ha] at h
      obtain ⟨k, h1, h2, h3, h4⟩ := idx_some p l (i + 1) h
      refine ⟨k + 1, by rw [h1]; push_cast; omega, by simpa using h2, ?_, ?_⟩
      · rw [gt_nat (by simpa using h2)]
        rw [gt_nat h2] at h3
        simpa using h3
      · rw [List.take_succ_cons]
        intro x hx
        rcases List.mem_cons.1 hx with rfl | hx
        · simpa using ha
        · exact h4 x hx
theorem w_slices_DeleteFunc_apiPair (hi : K_slices_IndexFunc_apiPair P F) (l : List Pr) (hl : l.length ≤ maxL) (g : Nat) (cs : List D) (hcs : cs.all okC2 = true) (p : Pr → Bool) (hg : ∀ x, x ∈ l → FC P g (prD x :: cs) (.bool (p x)) []) :
    W P (c_slices_DeleteFunc_apiPair F) (Done [.t 4] [] (.arr 2 (prs (l.filter fun x => !p x))) []) (init [.arr 2 (prs l), .clo g cs]) := by
  refine W_of ?_
  have ri := hi l hl g cs hcs p hg
  have e0 := caps_lend hcs
  have e1 := caps_lend2 hcs
  have e2 := caps_ren hcs
  unfold maxL at hl
  have hn := idx_none p l 0 (by omega)
  have hs := idx_some p l 0
  generalize idx p l 0 = ix at *
  simp (config := { maxSteps := 1000000 }) (disch := first | omega | (simp only [go_sem]; omega)) only [go_sem, ↓reduceIte, e0]
  refine call_by ri ?_
  simp (config := { maxSteps := 1000000 }) (disch := first | omega | (simp only [go_sem]; omega)) only [go_sem, ↓reduceIte]
  refine bran_dec (fun c => ?_) (fun c => ?_)
  · have : (l.filter fun x => !p x) = l := List.filter_eq_self.2 fun x hx => by simp [hn c x hx]
    simp (config := { maxSteps := 1000000 }) (disch := first | omega | (simp only [go_sem]; omega)) only [go_sem, ↓reduceIte]
    rw [this]
  · obtain ⟨k, hk, hk1, hk2, hk3⟩ := hs c
    rw [Int.zero_add] at hk
    subst hk
    simp (config := { maxSteps := 1000000 }) (disch := first | omega | (simp only [go_sem]; omega)) only [go_sem, ↓reduceIte]
    refine W_loop (fun s : Nat × Nat × List Pr => ⟨[(0, .sl 0 0 l.length), (1, .clo g cs), (5, .int .i64 s.2.1), (6, .int .i64 s.1)], [(0, .arr 2 (prs s.2.2))], 1⟩)
      (fun s => s.2.1 < s.1 ∧ s.1 ≤ l.length ∧ s.2.2.length = l.length ∧ s.2.2.take s.2.1 = (l.take s.1).filter (fun x => !p x) ∧ s.2.2.drop s.1 = l.drop s.1) (fun s => l.length - s.1) (k + 1, k, l) ?_ ?_ ?_
    · simp (config := { maxSteps := 1000000 }) (disch := first | omega | (simp only [go_sem]; omega)) only [go_sem, ↓reduceIte, e2]
      rfl
    · refine ⟨by simp, by simp only; omega, rfl, ?_, rfl⟩
      rw [take_gt hk1, List.filter_append]
      simp only [List.filter_cons, hk2, List.filter_nil]
      rw [List.filter_eq_self.2 fun x hx => by simp [hk3 x hx]]
      simp
    · rintro ⟨j, i, xs⟩ ⟨h1, h2, h3, h4, h5⟩
      simp only at h1 h2 h3 h4 h5
      simp (config := { maxSteps := 1000000 }) (disch := first | omega | (simp only [go_sem]; omega)) only [go_sem, ↓reduceIte, c_slices_DeleteFunc_apiPair_b11]
      refine bran_dec (fun d => ?_) (fun d => ?_)
      · have hgt : gt xs j = gt l j := by
          have := congrArg (fun l : List Pr => l[0]?) h5
          simp only [List.getElem?_drop, Nat.add_zero] at this
          rw [List.getElem?_eq_getElem (by omega), List.getElem?_eq_getElem (by omega)] at this
          rw [gt_nat (by omega), gt_nat (by omega)]
          simpa using this
        have rg := hg _ (gt_mem (l := l) (j := j) (by omega) (by omega))
        simp only [prD] at rg
        have hdr : xs.drop (j + 1) = l.drop (j + 1) := by
          have := congrArg (fun l : List Pr => l.drop 1) h5
          simpa [List.drop_drop] using this
        have hta := take_gt (l := l) (i := j) (by omega)
        simp (config := { maxSteps := 1000000 }) (disch := first | omega | (simp only [go_sem]; omega)) only [go_sem, ↓reduceIte, e1, hgt, h3]
        refine call_by rg ?_
        simp (config := { maxSteps := 1000000 }) (disch := first | omega | (simp only [go_sem]; omega)) only [go_sem, ↓reduceIte]
        refine bran_nby (fun e => ?_) (fun e => ?_)
        · simp (config := { maxSteps := 1000000 }) (disch := first | omega | (simp only [go_sem]; omega)) only [go_sem, ↓reduceIte, e2, h3, hgt]
          refine ⟨(j + 1, i + 1, xs.set i (gt l j)), by simp, ⟨by simp only; omega, by simp only; omega, by simp [h3], ?_, ?_⟩, by simp only; omega⟩
          · simp only
            rw [hta, List.filter_append, ← h4]
            simp only [List.filter_cons, e, List.filter_nil]
            rw [List.take_succ_eq_append_getElem (by simp; omega), List.take_set_of_le (Nat.le_refl _)]
            simp
          · simp only
            rw [List.drop_set_of_lt (by omega)]
            exact hdr
        · simp (config := { maxSteps := 1000000 }) (disch := first | omega | (simp only [go_sem]; omega)) only [go_sem, ↓reduceIte, e2, h3, hgt]
          refine ⟨(j + 1, i, xs), by simp, ⟨by simp only; omega, by simp only; omega, h3, ?_, hdr⟩, by simp only; omega⟩
          simp only
          rw [hta, List.filter_append, ← h4]
          simp [List.filter_cons, e]
      · obtain rfl : j = l.length := by omega
        rw [List.take_length] at h4
        have h6 : (xs.take i).length = i := by simp; omega
        simp (config := { maxSteps := 1000000 }) (disch := first | omega | (simp only [go_sem]; omega)) only [go_sem, ↓reduceIte, h3]
        rw [h4]
theorem validM_spec {a b : G} {m : Mo} (h : validM a b m = 0) : validG a = 0 ∧ validG b = 0 ∧ m.n.length = a.n.length ∧ m.e.length = a.e.length ∧ nodeE b.n m.n a.n = 0 ∧ edgeE b.e m.n m.e a.e = 0 := by
  unfold validM at h
  split at h
  · rename_i h1; exact absurd h h1
  · rename_i h1
    split at h
    · rename_i h2; exact absurd h h2
    · rename_i h2
      split at h
      · cases h
      · rename_i h3
        split at h
        · rename_i h4; exact absurd h h4
        · rename_i h4
          exact ⟨by simpa using h1, by simpa using h2, by omega, by omega, by simpa using h4, h⟩
theorem validM_len {a b : G} {m : Mo} (h : validM a b m = 0) : m.n.length ≤ 40 ∧ m.e.length ≤ 80 ∧ a.n.length ≤ 40 ∧ a.e.length ≤ 80 ∧ b.n.length ≤ 40 ∧ b.e.length ≤ 80 := by
  obtain ⟨h1, h2, h3, h4, _⟩ := validM_spec h
  obtain ⟨a1, a2, _⟩ := valid_spec h1
  obtain ⟨b1, b2, _⟩ := valid_spec h2
  omega
theorem w_pullback_Kernel_1 (x : Pr) : W P (c_pullback_Kernel_1 F) (Done [.t 2] [] (.bool (decide (x.b ≤ x.a))) []) (init [prD x]) := by
  refine W_of ?_
  simp (config := { maxSteps := 1000000 }) (disch := first | omega | (simp only [go_sem]; omega)) only [go_sem, ↓reduceIte, prD]
theorem equal_del (f : List Int) : (pairsL f f).filter (fun x => !decide (x.b ≤ x.a)) = equalL f := by
  rw [← equal_pairs]
  apply List.filter_congr
  intro x _
  rw [Bool.eq_iff_iff]; simp
theorem w_pullback_Kernel (hv : K_morphism_Valid P F) (hp : K_pullback_pairs P F) (hd : K_slices_DeleteFunc_apiPair P F) (hk : K_pullback_Kernel_1 P F) (a b : G) (m : Mo) :
    W P (c_pullback_Kernel F) (Done [.t 6, .t 7, .t 8] [] (.tup [.arr 2 (prs (kernN a b m)), .arr 2 (prs (kernE a b m)), .int .i64 (validM a b m)]) []) (init [gD a, gD b, mD m]) := by
  refine W_of ?_
  have rv := hv a b m
  have hl := @validM_len a b m
  unfold kernN kernE
  generalize validM a b m = v at *
  obtain ⟨an, ae⟩ := a
  obtain ⟨bn, be⟩ := b
  obtain ⟨mn, me⟩ := m
  simp only [gD, mD] at rv ⊢
  simp (config := { maxSteps := 1000000 }) (disch := first | omega | (simp only [go_sem]; omega)) only [go_sem, ↓reduceIte]
  refine call_by rv ?_
  simp (config := { maxSteps := 1000000 }) (disch := first | omega | (simp only [go_sem]; omega)) only [go_sem, ↓reduceIte]
  refine bran_ndec (fun c => ?_) (fun c => ?_)
  · simp (config := { maxSteps := 1000000 }) (disch := first | omega | (simp only [go_sem]; omega)) only [go_sem, ↓reduceIte]
    simp [c, prs]
  · subst c
    obtain ⟨l1, l2, _⟩ := hl rfl
    simp only at l1 l2
    have lp : ∀ f : List Int, f.length ≤ 100 → (pairsL f f).length ≤ 10000 := fun f hf => Nat.le_trans (pairsI_len f f f.length) (Nat.le_trans (Nat.mul_le_mul hf hf) (by omega))
    have r1 := hp mn mn (by omega) (by omega)
    have r2 := hp me me (by omega) (by omega)
    have q1 := lp mn (by omega)
    have q2 := lp me (by omega)
    have d1 := hd (pairsL mn mn) (by unfold maxL; omega) _ [] rfl _ (fun x _ => hk x)
    have d2 := hd (pairsL me me) (by unfold maxL; omega) _ [] rfl _ (fun x _ => hk x)
    rw [equal_del] at d1 d2
    rw [if_pos rfl, if_pos rfl]
    generalize pairsL mn mn = pn at *
    generalize pairsL me me = pe at *
    simp (config := { maxSteps := 1000000 }) (disch := first | omega | (simp only [go_sem]; omega)) only [go_sem, ↓reduceIte]
    refine call_by r1 ?_
    simp (config := { maxSteps := 1000000 }) (disch := first | omega | (simp only [go_sem]; omega)) only [go_sem, ↓reduceIte]
    refine call_by d1 ?_
    simp (config := { maxSteps := 1000000 }) (disch := first | omega | (simp only [go_sem]; omega)) only [go_sem, ↓reduceIte]
    refine call_by r2 ?_
    simp (config := { maxSteps := 1000000 }) (disch := first | omega | (simp only [go_sem]; omega)) only [go_sem, ↓reduceIte]
    refine call_by d2 ?_
    simp (config := { maxSteps := 1000000 }) (disch := first | omega | (simp only [go_sem]; omega)) only [go_sem, ↓reduceIte]
theorem w_r11_Kernel (hv : K_r06_Valid P F) (hp : K_r11_equal P F) (a b : G) (m : Mo) :
    W P (c_r11_Kernel F) (Done [.t 6, .t 7, .t 8] [] (.tup [.arr 2 (prs (kernN a b m)), .arr 2 (prs (kernE a b m)), .int .i64 (validM a b m)]) []) (init [gD a, gD b, mD m]) := by
  refine W_of ?_
  have rv := hv a b m
  have hl := @validM_len a b m
  unfold kernN kernE
  generalize validM a b m = v at *
  obtain ⟨an, ae⟩ := a
  obtain ⟨bn, be⟩ := b
  obtain ⟨mn, me⟩ := m
  simp only [gD, mD] at rv ⊢
  simp (config := { maxSteps := 1000000 }) (disch := first | omega | (simp only [go_sem]; omega)) only [go_sem, ↓reduceIte]
  refine call_by rv ?_
  simp (config := { maxSteps := 1000000 }) (disch := first | omega | (simp only [go_sem]; omega)) only [go_sem, ↓reduceIte]
  refine bran_ndec (fun c => ?_) (fun c => ?_)
  · simp (config := { maxSteps := 1000000 }) (disch := first | omega | (simp only [go_sem]; omega)) only [go_sem, ↓reduceIte]
    simp [c, prs]
  · subst c
    obtain ⟨l1, l2, _⟩ := hl rfl
    simp only at l1 l2
    have r1 := hp mn (by omega)
    have r2 := hp me (by omega)
    rw [if_pos rfl, if_pos rfl]
    simp (config := { maxSteps := 1000000 }) (disch := first | omega | (simp only [go_sem]; omega)) only [go_sem, ↓reduceIte]
    refine call_by r1 ?_
    simp (config := { maxSteps := 1000000 }) (disch := first | omega | (simp only [go_sem]; omega)) only [go_sem, ↓reduceIte]
    refine call_by r2 ?_
    simp (config := { maxSteps := 1000000 }) (disch := first | omega | (simp only [go_sem]; omega)) only [go_sem, ↓reduceIte]
theorem w_pullback_Equalizer (hv : K_morphism_Valid P F) (hp : K_pullback_equal P F) (a b : G) (f g : Mo) :
    W P (c_pullback_Equalizer F) (Done [.c 8 true 2, .t 9] [] (.tup [mA (eqM a b f g).1, .int .i64 (eqM a b f g).2]) []) (init [gD a, gD b, mD f, mD g]) := by
  refine W_of ?_
  have rf := hv a b f
  have rg := hv a b g
  have hlf := @validM_len a b f
  have hlg := @validM_len a b g
  have hsf := @validM_spec a b f
  have hsg := @validM_spec a b g
  unfold eqM
  generalize validM a b f = v at *
  generalize validM a b g = u at *
  obtain ⟨an, ae⟩ := a
  obtain ⟨bn, be⟩ := b
  obtain ⟨fn, fe⟩ := f
  obtain ⟨gn, ge⟩ := g
  simp only [gD, mD] at rf rg ⊢
  simp (config := { maxSteps := 1000000 }) (disch := first | omega | (simp only [go_sem]; omega)) only [go_sem, ↓reduceIte]
  refine call_by rf ?_
  simp (config := { maxSteps := 1000000 }) (disch := first | omega | (simp only [go_sem]; omega)) only [go_sem, ↓reduceIte]
  refine bran_ndec (fun c => ?_) (fun c => ?_)
  · simp (config := { maxSteps := 1000000 }) (disch := first | omega | (simp only [go_sem]; omega)) only [go_sem, ↓reduceIte]
    simp [c, mA, ints]
  · subst c
    simp (config := { maxSteps := 1000000 }) (disch := first | omega | (simp only [go_sem]; omega)) only [go_sem, ↓reduceIte]
    refine call_by rg ?_
    simp (config := { maxSteps := 1000000 }) (disch := first | omega | (simp only [go_sem]; omega)) only [go_sem, ↓reduceIte]
    refine bran_ndec (fun c => ?_) (fun c => ?_)
    · simp (config := { maxSteps := 1000000 }) (disch := first | omega | (simp only [go_sem]; omega)) only [go_sem, ↓reduceIte]
      simp [c, mA, ints]
    · subst c
      obtain ⟨l1, l2, _⟩ := hlf rfl
      obtain ⟨_, _, l3, l4, _⟩ := hsf rfl
      obtain ⟨_, _, l5, l6, _⟩ := hsg rfl
      simp only at l1 l2 l3 l4 l5 l6
      have r1 := hp fn gn (by omega) (by omega)
      have r2 := hp fe ge (by omega) (by omega)
      simp (config := { maxSteps := 1000000 }) (disch := first | omega | (simp only [go_sem]; omega)) only [go_sem, ↓reduceIte]
      refine call_by r1 ?_
      simp (config := { maxSteps := 1000000 }) (disch := first | omega | (simp only [go_sem]; omega)) only [go_sem, ↓reduceIte]
      refine call_by r2 ?_
      simp (config := { maxSteps := 1000000 }) (disch := first | omega | (simp only [go_sem]; omega)) only [go_sem, ↓reduceIte, mA]
      try simp
theorem w_r11_Equalizer (hv : K_r06_Valid P F) (hp : K_r11_agree P F) (a b : G) (f g : Mo) :
    W P (c_r11_Equalizer F) (Done [.c 8 true 2, .t 9] [] (.tup [mA (eqM a b f g).1, .int .i64 (eqM a b f g).2]) []) (init [gD a, gD b, mD f, mD g]) := by
  refine W_of ?_
  have rf := hv a b f
  have rg := hv a b g
  have hlf := @validM_len a b f
  have hlg := @validM_len a b g
  have hsf := @validM_spec a b f
  have hsg := @validM_spec a b g
  unfold eqM
  generalize validM a b f = v at *
  generalize validM a b g = u at *
  obtain ⟨an, ae⟩ := a
  obtain ⟨bn, be⟩ := b
  obtain ⟨fn, fe⟩ := f
  obtain ⟨gn, ge⟩ := g
  simp only [gD, mD] at rf rg ⊢
  simp (config := { maxSteps := 1000000 }) (disch := first | omega | (simp only [go_sem]; omega)) only [go_sem, ↓reduceIte]
  refine call_by rf ?_
  simp (config := { maxSteps := 1000000 }) (disch := first | omega | (simp only [go_sem]; omega)) only [go_sem, ↓reduceIte]
  refine bran_ndec (fun c => ?_) (fun c => ?_)
  · simp (config := { maxSteps := 1000000 }) (disch := first | omega | (simp only [go_sem]; omega)) only [go_sem, ↓reduceIte]
    simp [c, mA, ints]
  · subst c
    simp (config := { maxSteps := 1000000 }) (disch := first | omega | (simp only [go_sem]; omega)) only [go_sem, ↓reduceIte]
    refine call_by rg ?_
    simp (config := { maxSteps := 1000000 }) (disch := first | omega | (simp only [go_sem]; omega)) only [go_sem, ↓reduceIte]
    refine bran_ndec (fun c => ?_) (fun c => ?_)
    · simp (config := { maxSteps := 1000000 }) (disch := first | omega | (simp only [go_sem]; omega)) only [go_sem, ↓reduceIte]
      simp [c, mA, ints]
    · subst c
      obtain ⟨l1, l2, _⟩ := hlf rfl
      obtain ⟨_, _, l3, l4, _⟩ := hsf rfl
      obtain ⟨_, _, l5, l6, _⟩ := hsg rfl
      simp only at l1 l2 l3 l4 l5 l6
      have r1 := hp fn gn (by omega) (by omega)
      have r2 := hp fe ge (by omega) (by omega)
      simp (config := { maxSteps := 1000000 }) (disch := first | omega | (simp only [go_sem]; omega)) only [go_sem, ↓reduceIte]
      refine call_by r1 ?_
      simp (config := { maxSteps := 1000000 }) (disch := first | omega | (simp only [go_sem]; omega)) only [go_sem, ↓reduceIte]
      refine call_by r2 ?_
      simp (config := { maxSteps := 1000000 }) (disch := first | omega | (simp only [go_sem]; omega)) only [go_sem, ↓reduceIte, mA]
      try simp
end
end Go.Am
