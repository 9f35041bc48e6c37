/- Graphs over a graph: over, Over. -/
import Derived.Test.YtkllpeebnabdiaaSkY
namespace Go.Am
open Go
set_option linter.unusedVariables false
set_option linter.unusedSimpArgs false
attribute [local irreducible] W
/- r11.over -/
def c_r11_over_r0 (F : String → Nat) : List LI := [⟨some 4, .mov (.k (.nl 1)), none⟩]
def c_r11_over_r1 (F : String → Nat) : List LI := [⟨some 5, .mov (.k (.nl 1)), none⟩]
def c_r11_over_r2 (F : String → Nat) : List LI := [⟨some 6, .mov (.k (.int .i64 (0))), none⟩]
def c_r11_over_r3 (F : String → Nat) : List LI := [⟨some 7, .mov (.t 6), none⟩,
  ⟨some 8, .mov (.t 0), none⟩,
  ⟨some 9, .len (.t 8), none⟩,
  ⟨some 10, .bin .lss (.t 7) (.t 9), none⟩]
def c_r11_over_r4 (F : String → Nat) : List LI := [⟨some 13, .mov (.t 0), none⟩,
  ⟨some 14, .mov (.t 6), none⟩,
  ⟨some 15, .iad 1 (.t 13) (.t 14), none⟩,
  ⟨some 16, .load false 1 (.t 15), none⟩,
  ⟨some 17, .mov (.t 1), none⟩,
  ⟨some 18, .bin .eql (.t 16) (.t 17), none⟩]
def c_r11_over_r5 (F : String → Nat) : List LI := [⟨some 19, .mov (.t 5), none⟩,
  ⟨some 20, .mov (.t 6), none⟩,
  ⟨some 21, .buildSl 1 8 (.int .i64 (0)) 1 [(0, .t 20)], none⟩,
  ⟨some 22, .app 1 8 (.t 19) (.t 21), none⟩,
  ⟨some 5, .mov (.t 22), none⟩]
def c_r11_over_r6 (F : String → Nat) : List LI := [⟨some 11, .mov (.t 6), none⟩,
  ⟨some 12, .bin .add (.t 11) (.k (.int .i64 (1))), none⟩,
  ⟨some 6, .mov (.t 12), none⟩]
def c_r11_over_b7 (F : String → Nat) : LC := (.seq (.seq (.reg (c_r11_over_r3 F) [0, 1, 5, 6, 10]) (.cond (.t 10) .skip (.exit 0))) (.seq (.block 1 (.seq (.reg (c_r11_over_r4 F) [0, 1, 5, 6, 18]) (.cond (.t 18) (.reg (c_r11_over_r5 F) [0, 1, 5, 6]) .skip))) (.reg (c_r11_over_r6 F) [0, 1, 5, 6])))
def c_r11_over_r8 (F : String → Nat) : List LI := [⟨some 23, .mov (.t 5), none⟩,
  ⟨some 4, .mov (.t 23), none⟩]
def c_r11_over (F : String → Nat) : LC := (.seq (.reg (c_r11_over_r0 F) [0, 1]) (.seq (.reg (c_r11_over_r1 F) [0, 1, 5]) (.seq (.seq (.reg (c_r11_over_r2 F) [0, 1, 5, 6]) (.block 0 (.loop [0, 1, 5, 6] (c_r11_over_b7 F)))) (.seq (.reg (c_r11_over_r8 F) [4]) .ret))))
def h_r11_over : Hints := ⟨[], fun _ => [], tab [(0, [0, 1]), (1, [0, 1, 5]), (2, [0, 1, 5, 6]), (3, [0, 1, 5, 6, 10]), (4, [0, 1, 5, 6]), (5, [0, 1, 5, 6, 18]), (6, [0, 1, 5, 6]), (7, [4])], tab [(3, [0, 1, 5, 6])]⟩

/- r11.Over -/
def c_r11_Over_r0 (F : String → Nat) : List LI := [⟨some 2, .bx (.t 0), none⟩,
  ⟨some 3, .bx (.t 1), none⟩,
  ⟨some 4, .alloc [.nl 1, .nl 3], none⟩,
  ⟨some 5, .alloc [.nl 1, .nl 1], none⟩]
def c_r11_Over_r1 (F : String → Nat) : List LI := [⟨some 6, .alloc [.nl 1, .nl 3], none⟩]
def c_r11_Over_r2 (F : String → Nat) : List LI := [⟨some 7, .alloc [.nl 1, .nl 1], none⟩]
def c_r11_Over_r3 (F : String → Nat) : List LI := [⟨some 8, .mov (.k (.int .i64 (0))), none⟩]
def c_r11_Over_r4 (F : String → Nat) : List LI := [⟨some 14, .mov (.t 8), none⟩,
  ⟨some 15, .fad 0 (.t 3), none⟩,
  ⟨some 16, .load false 1 (.t 15), none⟩,
  ⟨some 17, .len (.t 16), none⟩,
  ⟨some 18, .bin .lss (.t 14) (.t 17), none⟩,
  ⟨some 19, .mov (.t 18), none⟩,
  ⟨some 20, .mov (.t 8), some (19, true)⟩,
  ⟨some 21, .bin .lss (.t 20) (.k (.int .i64 (8))), some (19, true)⟩,
  ⟨some 22, .pick (.t 19) (.t 21) (.k (.bool false)), none⟩,
  ⟨some 23, .mov (.t 22), none⟩,
  ⟨some 24, .fad 0 (.t 2), some (23, true)⟩,
  ⟨some 25, .load false 1 (.t 24), some (23, true)⟩,
  ⟨some 26, .len (.t 25), some (23, true)⟩,
  ⟨some 27, .bin .gtr (.t 26) (.k (.int .i64 (0))), some (23, true)⟩,
  ⟨some 28, .pick (.t 23) (.t 27) (.k (.bool false)), none⟩]
def c_r11_Over_r5 (F : String → Nat) : List LI := [⟨some 31, .fad 0 (.t 3), none⟩,
  ⟨some 32, .load false 1 (.t 31), none⟩,
  ⟨some 33, .mov (.t 8), none⟩,
  ⟨some 34, .iad 1 (.t 32) (.t 33), none⟩,
  ⟨some 35, .load false 1 (.t 34), none⟩,
  ⟨some 36, .conv .i64 (.t 35), none⟩,
  ⟨some 37, .fad 0 (.t 2), none⟩,
  ⟨some 38, .load false 1 (.t 37), none⟩,
  ⟨some 39, .len (.t 38), none⟩,
  ⟨some 40, .bin .rem (.t 36) (.t 39), none⟩,
  ⟨some 9, .mov (.t 40), none⟩]
def c_r11_Over_r6 (F : String → Nat) : List LI := [⟨some 41, .fad 0 (.t 6), none⟩,
  ⟨some 42, .load false 1 (.t 41), none⟩,
  ⟨some 43, .fad 0 (.t 2), none⟩,
  ⟨some 44, .load false 1 (.t 43), none⟩,
  ⟨some 45, .mov (.t 9), none⟩,
  ⟨some 46, .iad 1 (.t 44) (.t 45), none⟩,
  ⟨some 47, .load false 1 (.t 46), none⟩,
  ⟨some 48, .buildSl 1 8 (.int .i64 (0)) 1 [(0, .t 47)], none⟩,
  ⟨some 49, .app 1 8 (.t 42) (.t 48), none⟩,
  ⟨some 50, .fad 0 (.t 7), none⟩,
  ⟨some 51, .load false 1 (.t 50), none⟩,
  ⟨some 52, .mov (.t 9), none⟩,
  ⟨some 53, .buildSl 1 8 (.int .i64 (0)) 1 [(0, .t 52)], none⟩,
  ⟨some 54, .app 1 8 (.t 51) (.t 53), none⟩,
  ⟨some 55, .fad 0 (.t 6), none⟩,
  ⟨none, .store 1 (.t 55) (.t 49), none⟩,
  ⟨some 56, .fad 0 (.t 7), none⟩,
  ⟨none, .store 1 (.t 56) (.t 54), none⟩]
def c_r11_Over_r7 (F : String → Nat) : List LI := [⟨some 29, .mov (.t 8), none⟩,
  ⟨some 30, .bin .add (.t 29) (.k (.int .i64 (1))), none⟩,
  ⟨some 8, .mov (.t 30), none⟩]
def c_r11_Over_b8 (F : String → Nat) : LC := (.seq (.seq (.reg (c_r11_Over_r4 F) [2, 3, 4, 5, 6, 7, 8, 28]) (.cond (.t 28) .skip (.exit 0))) (.seq (.block 1 (.seq (.dreg [] (c_r11_Over_r5 F) [2, 3, 4, 5, 6, 7, 8, 9]) (.dreg [(1, none, [], true), (3, none, [], true), (5, none, [], true), (6, none, [], true), (7, none, [1], true), (8, none, [], true), (10, (some 512), [7, 8], true), (12, (some 2048), [1, 3, 5, 6, 7, 8, 10], false)] (c_r11_Over_r6 F) [2, 3, 4, 5, 6, 7, 8]))) (.reg (c_r11_Over_r7 F) [2, 3, 4, 5, 6, 7, 8])))
def c_r11_Over_r9 (F : String → Nat) : List LI := [⟨some 10, .mov (.k (.int .i64 (0))), none⟩]
def c_r11_Over_r10 (F : String → Nat) : List LI := [⟨some 57, .mov (.t 10), none⟩,
  ⟨some 58, .fad 1 (.t 3), none⟩,
  ⟨some 59, .load false 1 (.t 58), none⟩,
  ⟨some 60, .len (.t 59), none⟩,
  ⟨some 61, .bin .lss (.t 57) (.t 60), none⟩,
  ⟨some 62, .mov (.t 61), none⟩,
  ⟨some 63, .mov (.t 10), some (62, true)⟩,
  ⟨some 64, .bin .lss (.t 63) (.k (.int .i64 (10))), some (62, true)⟩,
  ⟨some 65, .pick (.t 62) (.t 64) (.k (.bool false)), none⟩,
  ⟨some 66, .mov (.t 65), none⟩,
  ⟨some 67, .fad 1 (.t 2), some (66, true)⟩,
  ⟨some 68, .load false 1 (.t 67), some (66, true)⟩,
  ⟨some 69, .len (.t 68), some (66, true)⟩,
  ⟨some 70, .bin .gtr (.t 69) (.k (.int .i64 (0))), some (66, true)⟩,
  ⟨some 71, .pick (.t 66) (.t 70) (.k (.bool false)), none⟩]
def c_r11_Over_r11 (F : String → Nat) : List LI := [⟨some 74, .fad 1 (.t 3), none⟩,
  ⟨some 75, .load false 1 (.t 74), none⟩,
  ⟨some 76, .mov (.t 10), none⟩,
  ⟨some 77, .iad 3 (.t 75) (.t 76), none⟩,
  ⟨some 78, .iaa 3 1 (.t 77) (.k (.int .i64 (0))), none⟩,
  ⟨some 79, .load false 1 (.t 78), none⟩,
  ⟨some 80, .conv .i64 (.t 79), none⟩,
  ⟨some 81, .fad 1 (.t 2), none⟩,
  ⟨some 82, .load false 1 (.t 81), none⟩,
  ⟨some 83, .len (.t 82), none⟩,
  ⟨some 84, .bin .rem (.t 80) (.t 83), none⟩,
  ⟨some 11, .mov (.t 84), none⟩]
def c_r11_Over_r12 (F : String → Nat) : List LI := [⟨some 85, .fad 0 (.t 7), none⟩,
  ⟨some 86, .load false 1 (.t 85), none⟩,
  ⟨some 87, .fad 1 (.t 2), none⟩,
  ⟨some 88, .load false 1 (.t 87), none⟩,
  ⟨some 89, .mov (.t 11), none⟩,
  ⟨some 90, .iad 3 (.t 88) (.t 89), none⟩,
  ⟨some 91, .fad 1 (.t 90), none⟩,
  ⟨some 92, .load false 1 (.t 91), none⟩,
  ⟨some 93, .call (F "r11.over") [.t 86, .t 92] [], none⟩,
  ⟨some 94, .fad 0 (.t 7), none⟩,
  ⟨some 95, .load false 1 (.t 94), none⟩,
  ⟨some 96, .fad 1 (.t 2), none⟩,
  ⟨some 97, .load false 1 (.t 96), none⟩,
  ⟨some 98, .mov (.t 11), none⟩,
  ⟨some 99, .iad 3 (.t 97) (.t 98), none⟩,
  ⟨some 100, .fad 2 (.t 99), none⟩,
  ⟨some 101, .load false 1 (.t 100), none⟩,
  ⟨some 102, .call (F "r11.over") [.t 95, .t 101] [], none⟩,
  ⟨some 12, .mov (.t 93), none⟩,
  ⟨some 13, .mov (.t 102), none⟩]
def c_r11_Over_r13 (F : String → Nat) : List LI := [⟨some 103, .mov (.t 12), none⟩,
  ⟨some 104, .len (.t 103), none⟩,
  ⟨some 105, .bin .eql (.t 104) (.k (.int .i64 (0))), none⟩,
  ⟨some 106, .mov (.t 105), none⟩,
  ⟨some 107, .mov (.t 13), some (106, false)⟩,
  ⟨some 108, .len (.t 107), some (106, false)⟩,
  ⟨some 109, .bin .eql (.t 108) (.k (.int .i64 (0))), some (106, false)⟩,
  ⟨some 110, .pick (.t 106) (.k (.bool true)) (.t 109), none⟩]
def c_r11_Over_r14 (F : String → Nat) : List LI := [⟨some 111, .fad 1 (.t 6), none⟩,
  ⟨some 112, .load false 1 (.t 111), none⟩,
  ⟨some 113, .fad 1 (.t 2), none⟩,
  ⟨some 114, .load false 1 (.t 113), none⟩,
  ⟨some 115, .mov (.t 11), none⟩,
  ⟨some 116, .iad 3 (.t 114) (.t 115), none⟩,
  ⟨some 117, .fad 0 (.t 116), none⟩,
  ⟨some 118, .load false 1 (.t 117), none⟩,
  ⟨some 119, .mov (.t 12), none⟩,
  ⟨some 120, .fad 1 (.t 3), none⟩,
  ⟨some 121, .load false 1 (.t 120), none⟩,
  ⟨some 122, .mov (.t 10), none⟩,
  ⟨some 123, .iad 3 (.t 121) (.t 122), none⟩,
  ⟨some 124, .iaa 3 1 (.t 123) (.k (.int .i64 (1))), none⟩,
  ⟨some 125, .load false 1 (.t 124), none⟩,
  ⟨some 126, .conv .i64 (.t 125), none⟩,
  ⟨some 127, .mov (.t 12), none⟩,
  ⟨some 128, .len (.t 127), none⟩,
  ⟨some 129, .bin .rem (.t 126) (.t 128), none⟩,
  ⟨some 130, .iad 1 (.t 119) (.t 129), none⟩,
  ⟨some 131, .load false 1 (.t 130), none⟩,
  ⟨some 132, .mov (.t 13), none⟩,
  ⟨some 133, .fad 1 (.t 3), none⟩,
  ⟨some 134, .load false 1 (.t 133), none⟩,
  ⟨some 135, .mov (.t 10), none⟩,
  ⟨some 136, .iad 3 (.t 134) (.t 135), none⟩,
  ⟨some 137, .iaa 3 1 (.t 136) (.k (.int .i64 (2))), none⟩,
  ⟨some 138, .load false 1 (.t 137), none⟩,
  ⟨some 139, .conv .i64 (.t 138), none⟩,
  ⟨some 140, .mov (.t 13), none⟩,
  ⟨some 141, .len (.t 140), none⟩,
  ⟨some 142, .bin .rem (.t 139) (.t 141), none⟩,
  ⟨some 143, .iad 1 (.t 132) (.t 142), none⟩,
  ⟨some 144, .load false 1 (.t 143), none⟩,
  ⟨some 145, .build [.int .i64 (0), .int .i64 (0), .int .i64 (0)] [(0, 1, .t 118), (1, 1, .t 131), (2, 1, .t 144)], none⟩,
  ⟨some 146, .buildSl 3 24 (.agg [.int .i64 (0), .int .i64 (0), .int .i64 (0)]) 1 [(0, .t 145)], none⟩,
  ⟨some 147, .app 3 24 (.t 112) (.t 146), none⟩,
  ⟨some 148, .fad 1 (.t 6), none⟩,
  ⟨none, .store 1 (.t 148) (.t 147), none⟩]
def c_r11_Over_r15 (F : String → Nat) : List LI := [⟨some 149, .fad 1 (.t 7), none⟩,
  ⟨some 150, .load false 1 (.t 149), none⟩,
  ⟨some 151, .mov (.t 11), none⟩,
  ⟨some 152, .buildSl 1 8 (.int .i64 (0)) 1 [(0, .t 151)], none⟩,
  ⟨some 153, .app 1 8 (.t 150) (.t 152), none⟩,
  ⟨some 154, .fad 1 (.t 7), none⟩,
  ⟨none, .store 1 (.t 154) (.t 153), none⟩]
def c_r11_Over_r16 (F : String → Nat) : List LI := [⟨some 72, .mov (.t 10), none⟩,
  ⟨some 73, .bin .add (.t 72) (.k (.int .i64 (1))), none⟩,
  ⟨some 10, .mov (.t 73), none⟩]
def c_r11_Over_b17 (F : String → Nat) : LC := (.seq (.seq (.reg (c_r11_Over_r10 F) [2, 3, 4, 5, 6, 7, 10, 71]) (.cond (.t 71) .skip (.exit 2))) (.seq (.block 3 (.seq (.dreg [] (c_r11_Over_r11 F) [2, 3, 4, 5, 6, 7, 10, 11]) (.seq (.dreg [(8, none, [], true), (10, (some 512), [8], false), (12, (some 2048), [8], false), (14, (some 14336), [8], false), (16, (some 63488), [8], false)] (c_r11_Over_r12 F) [2, 3, 4, 5, 6, 7, 10, 11, 12, 13]) (.seq (.seq (.reg (c_r11_Over_r13 F) [2, 3, 4, 5, 6, 7, 10, 11, 12, 13, 110]) (.cond (.t 110) (.exit 3) .skip)) (.seq (.dreg [(1, none, [], true), (35, none, [1], false)] (c_r11_Over_r14 F) [2, 3, 4, 5, 6, 7, 10, 11]) (.reg (c_r11_Over_r15 F) [2, 3, 4, 5, 6, 7, 10])))))) (.reg (c_r11_Over_r16 F) [2, 3, 4, 5, 6, 7, 10])))
def c_r11_Over_r18 (F : String → Nat) : List LI := [⟨some 155, .load true 2 (.t 6), none⟩,
  ⟨some 156, .load true 2 (.t 7), none⟩,
  ⟨none, .store 2 (.t 4) (.t 155), none⟩,
  ⟨none, .store 2 (.t 5) (.t 156), none⟩]
def c_r11_Over (F : String → Nat) : LC := (.seq (.reg (c_r11_Over_r0 F) [2, 3, 4, 5]) (.seq (.reg (c_r11_Over_r1 F) [2, 3, 4, 5, 6]) (.seq (.reg (c_r11_Over_r2 F) [2, 3, 4, 5, 6, 7]) (.seq (.seq (.reg (c_r11_Over_r3 F) [2, 3, 4, 5, 6, 7, 8]) (.block 0 (.loop [2, 3, 4, 5, 6, 7, 8] (c_r11_Over_b8 F)))) (.seq (.seq (.reg (c_r11_Over_r9 F) [2, 3, 4, 5, 6, 7, 10]) (.block 2 (.loop [2, 3, 4, 5, 6, 7, 10] (c_r11_Over_b17 F)))) (.seq (.dreg [(1, none, [], true), (2, none, [1], false)] (c_r11_Over_r18 F) [4, 5]) .ret))))))
def h_r11_Over : Hints := ⟨[], fun _ => [], tab [(0, [2, 3, 4, 5]), (1, [2, 3, 4, 5, 6]), (2, [2, 3, 4, 5, 6, 7]), (3, [2, 3, 4, 5, 6, 7, 8]), (4, [2, 3, 4, 5, 6, 7, 8, 28]), (5, [2, 3, 4, 5, 6, 7, 8]), (6, [2, 3, 4, 5, 6, 7, 8, 9]), (7, [2, 3, 4, 5, 6, 7, 8]), (8, [2, 3, 4, 5, 6, 7, 10]), (9, [2, 3, 4, 5, 6, 7, 10, 71]), (10, [2, 3, 4, 5, 6, 7, 10]), (11, [2, 3, 4, 5, 6, 7, 10, 11]), (12, [2, 3, 4, 5, 6, 7, 10, 11, 12, 13]), (13, [2, 3, 4, 5, 6, 7, 10, 11, 12, 13, 110]), (14, [2, 3, 4, 5, 6, 7, 10, 11]), (15, [2, 3, 4, 5, 6, 7, 10]), (16, [4, 5])], tab [(4, [2, 3, 4, 5, 6, 7, 8]), (9, [2, 3, 4, 5, 6, 7, 10])]⟩

attribute [go_sem] c_r11_over_r0 c_r11_over_r1 c_r11_over_r2 c_r11_over_r3 c_r11_over_r4 c_r11_over_r5 c_r11_over_r6 c_r11_over_r8 c_r11_over c_r11_Over_r0 c_r11_Over_r1 c_r11_Over_r2 c_r11_Over_r3 c_r11_Over_r4 c_r11_Over_r5 c_r11_Over_r6 c_r11_Over_r7 c_r11_Over_r9 c_r11_Over_r10 c_r11_Over_r11 c_r11_Over_r12 c_r11_Over_r13 c_r11_Over_r14 c_r11_Over_r15 c_r11_Over_r16 c_r11_Over_r18 c_r11_Over
def ovL (l : List Int) (n : Int) : List Int := sel (fun i : Nat => decide (gt l i = n)) l.length
def ovN (d : G) (x : Dr) : List Int := if d.n.length = 0 then [] else (x.n.take 8).map fun v => v.tmod d.n.length
def ovS (d : G) (ns : List Int) (s : List E × List Int) (t : E) : List E × List Int :=
  if (ovL ns (gt d.e (t.t.tmod d.e.length)).f).length = 0 ∨ (ovL ns (gt d.e (t.t.tmod d.e.length)).o).length = 0 then s else
  (s.1 ++ [⟨(gt d.e (t.t.tmod d.e.length)).t, gt (ovL ns (gt d.e (t.t.tmod d.e.length)).f) (t.f.tmod (ovL ns (gt d.e (t.t.tmod d.e.length)).f).length), gt (ovL ns (gt d.e (t.t.tmod d.e.length)).o) (t.o.tmod (ovL ns (gt d.e (t.t.tmod d.e.length)).o).length)⟩], s.2 ++ [t.t.tmod d.e.length])
def ovE (d : G) (ns : List Int) (l : List E) : List E × List Int := l.foldl (ovS d ns) ([], [])
def overE (d : G) (x : Dr) : List E × List Int := if d.e.length = 0 then ([], []) else ovE d (ovN d x) (x.e.take 10)
def overG (d : G) (x : Dr) : G := ⟨(ovN d x).map (gt d.n), (overE d x).1⟩
def overM (d : G) (x : Dr) : Mo := ⟨ovN d x, (overE d x).2⟩
section
variable (P : Program) (F : String → Nat)
def K_r11_over : Prop := ∀ (l : List Int) (n : Int), l.length ≤ 10000 → FC P (F "r11.over") [.lst 1 (ints l), .int .i64 n] (.arr 1 (ints (ovL l n))) []
def K_r11_Over : Prop := ∀ (d : G) (x : Dr), validG d = 0 → x.ok → x.n.length ≤ maxL → x.e.length ≤ maxL → FC P (F "r11.Over") [gD d, drD x] (.tup [gA (overG d x), mA (overM d x)]) []
end
section
variable {P : Program} {F : String → Nat} {α : Type}
theorem w_r11_over (l : List Int) (n : Int) (hl : l.length ≤ 10000) : W P (c_r11_over F) (Done [.t 4] [] (.arr 1 (ints (ovL l n))) []) (init [.lst 1 (ints l), .int .i64 n]) := by
  refine W_of ?_
  simp (config := { maxSteps := 1000000 }) (disch := first | omega | (simp only [go_sem]; omega)) only [go_sem, ↓reduceIte]
  refine W_loop (fun i : Nat => ⟨[(0, .lst 1 (ints l)), (1, .int .i64 n), (5, .sl 0 0 (sel (fun i : Nat => decide (gt l i = n)) i).length), (6, .int .i64 i)], [(0, .arr 1 (ints (sel (fun i : Nat => decide (gt l i = n)) i)))], 1⟩) (fun i => i ≤ l.length) (fun i => l.length - i) 0 ?_ ?_ ?_
  · simp (config := { maxSteps := 1000000 }) (disch := first | omega | (simp only [go_sem]; omega)) only [go_sem, ↓reduceIte, sel_zero]
    rfl
  · simp
  · intro i hi
    have e1 := sel_len (fun i : Nat => decide (gt l i = n)) i
    have hs := sel_succ (fun i : Nat => decide (gt l i = n)) i
    simp only [decide_eq_true_eq] at hs
    simp (config := { maxSteps := 1000000 }) (disch := first | omega | (simp only [go_sem]; omega)) only [go_sem, ↓reduceIte, c_r11_over_b7]
    refine bran_dec (fun c => ?_) (fun c => ?_)
    · simp (config := { maxSteps := 1000000 }) (disch := first | omega | (simp only [go_sem]; omega)) only [go_sem, ↓reduceIte]
      refine bran_dec (fun d => ?_) (fun d => ?_)
      · rw [if_pos d] at hs
        simp (config := { maxSteps := 1000000 }) (disch := first | omega | (simp only [go_sem]; omega)) only [go_sem, ↓reduceIte]
        exact ⟨i + 1, by simp [hs], by omega, by omega⟩
      · rw [if_neg d] at hs
        simp (config := { maxSteps := 1000000 }) (disch := first | omega | (simp only [go_sem]; omega)) only [go_sem, ↓reduceIte]
        exact ⟨i + 1, by simp [hs], by omega, by omega⟩
    · obtain rfl : i = l.length := by omega
      simp (config := { maxSteps := 1000000 }) (disch := first | omega | (simp only [go_sem]; omega)) only [go_sem, ↓reduceIte]
      rfl
set_option maxRecDepth 100000 in
set_option maxHeartbeats 4000000 in
theorem w_r11_Over (ho : K_r11_over P F) (d : G) (x : Dr) (vd : validG d = 0) (hx : x.ok) (h1 : x.n.length ≤ maxL) (h2 : x.e.length ≤ maxL) : W P (c_r11_Over F) (Done [.c 4 true 2, .c 5 true 2] [] (.tup [gA (overG d x), mA (overM d x)]) []) (init [gD d, drD x]) := by
  refine W_of ?_
  obtain ⟨xn, xe⟩ := x
  obtain ⟨o1, o2⟩ := hx
  obtain ⟨d1, d2, _, d4⟩ := valid_spec vd
  obtain ⟨dn, de⟩ := d
  simp only at h1 h2 o1 o2 d1 d2 d4
  unfold maxL at h1 h2
  simp only [gD, drD]
  simp (config := { maxSteps := 1000000 }) (disch := first | omega | (simp only [go_sem]; omega)) only [go_sem, ↓reduceIte]
  have mlA : ∀ i, ((xn.take i).map fun v => v.tmod (dn.length : Int)).length = min i xn.length := fun i => by simp
  have mlB : ∀ i, ((xn.take i).map fun v => gt dn (v.tmod (dn.length : Int))).length = min i xn.length := fun i => by simp
  refine W_loop (fun i : Nat => ⟨[(2, D.pt 0 0), (3, D.pt 1 0), (4, D.pt 4 0), (5, D.pt 7 0), (6, D.pt 10 0), (7, D.pt 13 0), (8, D.int IntKind.i64 i)],
      [(0, Ent.box [D.lst 1 (ints dn), D.lst 3 (eds de)]), (1, Ent.box [D.lst 1 (u8s xn), D.lst 3 (trs xe)]), (2, Ent.arr 1 []), (3, Ent.arr 3 []), (4, Ent.box [D.sl 2 0 0, D.sl 3 0 0]), (5, Ent.arr 1 []), (6, Ent.arr 1 []), (7, Ent.box [D.sl 5 0 0, D.sl 6 0 0]),
        (8, Ent.arr 1 (ints ((xn.take i).map fun v => gt dn (v.tmod (dn.length : Int))))), (9, Ent.arr 3 []), (10, Ent.box [D.sl 8 0 i, D.sl 9 0 0]), (11, Ent.arr 1 (ints ((xn.take i).map fun v => v.tmod (dn.length : Int)))), (12, Ent.arr 1 []), (13, Ent.box [D.sl 11 0 i, D.sl 12 0 0])], 14⟩)
      (fun i => i ≤ xn.length ∧ i ≤ 8 ∧ (dn.length = 0 → i = 0)) (fun i => 8 - i) 0 ?_ ?_ ?_
  · simp (config := { maxSteps := 1000000 }) (disch := first | omega | (simp only [go_sem]; omega)) only [go_sem, ↓reduceIte]
    rfl
  · simp
  · rintro i ⟨hi, hi8, hi0⟩
    have hmA : ((xn.take i).map fun v => v.tmod (dn.length : Int)).length = i := by rw [mlA]; omega
    have hmB : ((xn.take i).map fun v => gt dn (v.tmod (dn.length : Int))).length = i := by rw [mlB]; omega
    by_cases c : i < xn.length ∧ i < 8 ∧ 0 < dn.length
    · obtain ⟨c1, c2, c3⟩ := c
      have hb := o1 _ (gt_mem (l := xn) (j := i) (by omega) (by omega))
      have ht := tmod_bd (x := gt xn i) (m := (dn.length : Int)) hb.1 (by omega)
      have z : ¬ ((dn.length : Int) = 0) := by omega
      have w1 : IntKind.i64.wrap (gt xn i) = gt xn i := wrap_i64 (by have := hb.1; omega) (by have := hb.2; omega)
      have e1 : decide ((i : Int) < xn.length) = true := decide_eq_true (by omega)
      have e2 : decide ((i : Int) < 8) = true := decide_eq_true (by omega)
      have e3 : decide ((0 : Int) < dn.length) = true := decide_eq_true (by omega)
      simp (config := { maxSteps := 1000000 }) (disch := first | omega | (simp only [go_sem]; omega)) only [go_sem, ↓reduceIte, c_r11_Over_b8, e1, e2, e3, hmA, hmB, w1, z]
      exact ⟨i + 1, by rw [take_gt (by omega)]; simp, by omega, by omega⟩
    · have hN : (xn.take i).map (fun v => v.tmod (dn.length : Int)) = ovN ⟨dn, de⟩ ⟨xn, xe⟩ := by
        unfold ovN
        simp only
        by_cases h0 : dn.length = 0
        · rw [if_pos h0, hi0 h0]; rfl
        · rw [if_neg h0, show xn.take 8 = xn.take i from List.take_eq_take_iff.2 (by omega)]
      have hG : (xn.take i).map (fun v => gt dn (v.tmod (dn.length : Int))) = (ovN ⟨dn, de⟩ ⟨xn, xe⟩).map (gt dn) := by rw [← hN, List.map_map]; rfl
      rw [hN] at hmA
      rw [hG] at hmB
      have hns : ∀ y ∈ ovN ⟨dn, de⟩ ⟨xn, xe⟩, True := fun _ _ => trivial
      have hOG : overG ⟨dn, de⟩ ⟨xn, xe⟩ = ⟨(ovN ⟨dn, de⟩ ⟨xn, xe⟩).map (gt dn), if de.length = 0 then [] else (ovE ⟨dn, de⟩ (ovN ⟨dn, de⟩ ⟨xn, xe⟩) (xe.take 10)).1⟩ := by
        unfold overG overE; split <;> rfl
      have hOM : overM ⟨dn, de⟩ ⟨xn, xe⟩ = ⟨ovN ⟨dn, de⟩ ⟨xn, xe⟩, if de.length = 0 then [] else (ovE ⟨dn, de⟩ (ovN ⟨dn, de⟩ ⟨xn, xe⟩) (xe.take 10)).2⟩ := by
        unfold overM overE; split <;> rfl
      generalize overG ⟨dn, de⟩ ⟨xn, xe⟩ = og at *
      generalize overM ⟨dn, de⟩ ⟨xn, xe⟩ = om at *
      generalize ovN ⟨dn, de⟩ ⟨xn, xe⟩ = ns at *
      generalize hgn : ns.map (gt dn) = gn at *
      rcases (show ¬ i < xn.length ∨ (i < xn.length ∧ ¬ i < 8) ∨ (i < xn.length ∧ i < 8 ∧ ¬ 0 < dn.length) by omega) with c | ⟨c, c'⟩ | ⟨c, c', c''⟩
      case' inl =>
        have e1 : decide ((i : Int) < xn.length) = false := decide_eq_false (by omega)
        simp (config := { maxSteps := 1000000 }) (disch := first | omega | (simp only [go_sem]; omega)) only [go_sem, ↓reduceIte, c_r11_Over_b8, e1, hN, hG]
      case' inr.inl =>
        have e1 : decide ((i : Int) < xn.length) = true := decide_eq_true (by omega)
        have e2 : decide ((i : Int) < 8) = false := decide_eq_false (by omega)
        simp (config := { maxSteps := 1000000 }) (disch := first | omega | (simp only [go_sem]; omega)) only [go_sem, ↓reduceIte, c_r11_Over_b8, e1, e2, hN, hG]
      case' inr.inr =>
        have e1 : decide ((i : Int) < xn.length) = true := decide_eq_true (by omega)
        have e2 : decide ((i : Int) < 8) = true := decide_eq_true (by omega)
        have e3 : decide ((0 : Int) < dn.length) = false := decide_eq_false (by omega)
        simp (config := { maxSteps := 1000000 }) (disch := first | omega | (simp only [go_sem]; omega)) only [go_sem, ↓reduceIte, c_r11_Over_b8, e1, e2, e3, hN, hG]
      all_goals
        refine W_loop (fun s : Nat × List E × List Int => ⟨[(2, D.pt 0 0), (3, D.pt 1 0), (4, D.pt 4 0), (5, D.pt 7 0), (6, D.pt 10 0), (7, D.pt 13 0), (10, D.int IntKind.i64 s.1)],
            [(0, Ent.box [D.lst 1 (ints dn), D.lst 3 (eds de)]), (1, Ent.box [D.lst 1 (u8s xn), D.lst 3 (trs xe)]), (2, Ent.arr 1 []), (3, Ent.arr 3 []), (4, Ent.box [D.sl 2 0 0, D.sl 3 0 0]), (5, Ent.arr 1 []), (6, Ent.arr 1 []), (7, Ent.box [D.sl 5 0 0, D.sl 6 0 0]),
              (8, Ent.arr 1 (ints gn)), (9, Ent.arr 3 (eds s.2.1)), (10, Ent.box [D.sl 8 0 i, D.sl 9 0 s.2.1.length]), (11, Ent.arr 1 (ints ns)), (12, Ent.arr 1 (ints s.2.2)), (13, Ent.box [D.sl 11 0 i, D.sl 12 0 s.2.2.length])], 14⟩)
            (fun s => s.1 ≤ xe.length ∧ s.1 ≤ 10 ∧ (s.1 = 0 ∨ 1 ≤ de.length) ∧ s.2 = ovE ⟨dn, de⟩ ns (xe.take s.1) ∧ s.2.1.length ≤ s.1 ∧ s.2.2.length = s.2.1.length) (fun s => 10 - s.1) (0, [], []) ?_ ?_ ?_
        · simp (config := { maxSteps := 1000000 }) (disch := first | omega | (simp only [go_sem]; omega)) only [go_sem, ↓reduceIte]
          rfl
        · simp [ovE]
        · rintro ⟨j, es, ms⟩ ⟨hj, hj10, hj0, hs, hl1, hl2⟩
          simp only at hj hj10 hj0 hs hl1 hl2
          by_cases f : j < xe.length ∧ j < 10 ∧ 0 < de.length
          · obtain ⟨f1, f2, f3⟩ := f
            obtain ⟨ot, of, oo⟩ := o2 _ (gt_mem (l := xe) (j := j) (by omega) (by omega))
            have hk := tmod_bd (x := (gt xe j).t) (m := (de.length : Int)) ot.1 (by omega)
            have z : ¬ ((de.length : Int) = 0) := by omega
            have w0 : IntKind.i64.wrap (gt xe j).t = (gt xe j).t := wrap_i64 (by have := ot.1; omega) (by have := ot.2; omega)
            have w1 : IntKind.i64.wrap (gt xe j).f = (gt xe j).f := wrap_i64 (by have := of.1; omega) (by have := of.2; omega)
            have w2 : IntKind.i64.wrap (gt xe j).o = (gt xe j).o := wrap_i64 (by have := oo.1; omega) (by have := oo.2; omega)
            have g1 : decide ((j : Int) < xe.length) = true := decide_eq_true (by omega)
            have g2 : decide ((j : Int) < 10) = true := decide_eq_true (by omega)
            have g3 : decide ((0 : Int) < de.length) = true := decide_eq_true (by omega)
            have hstep : ovE ⟨dn, de⟩ ns (xe.take (j + 1)) = ovS ⟨dn, de⟩ ns (es, ms) (gt xe j) := by
              rw [take_gt (by omega), hs, ovE, List.foldl_append]; rfl
            unfold ovS at hstep
            simp only at hstep
            generalize hkd : (gt xe j).t.tmod (de.length : Int) = k at *
            have r1 := ho ns (gt de k).f (by omega)
            have r2 := ho ns (gt de k).o (by omega)
            have q1 : (ovL ns (gt de k).f).length ≤ ns.length := sel_len _ _
            have q2 : (ovL ns (gt de k).o).length ≤ ns.length := sel_len _ _
            generalize ovL ns (gt de k).f = fr at *
            generalize ovL ns (gt de k).o = to at *
            simp (config := { maxSteps := 1000000 }) (disch := first | omega | (simp only [go_sem]; omega)) only [go_sem, ↓reduceIte, c_r11_Over_b17, g1, g2, g3, w0, z, hkd]
            refine call_by r1 ?_
            simp (config := { maxSteps := 1000000 }) (disch := first | omega | (simp only [go_sem]; omega)) only [go_sem, ↓reduceIte]
            refine call_by r2 ?_
            simp (config := { maxSteps := 1000000 }) (disch := first | omega | (simp only [go_sem]; omega)) only [go_sem, ↓reduceIte]
            by_cases p1 : fr.length = 0
            · rw [if_pos (.inl p1)] at hstep
              have y1 : decide ((fr.length : Int) = 0) = true := decide_eq_true (by omega)
              simp (config := { maxSteps := 1000000 }) (disch := first | omega | (simp only [go_sem]; omega)) only [go_sem, ↓reduceIte, y1]
              exact ⟨(j + 1, es, ms), by simp, ⟨by omega, by omega, by omega, hstep.symm, by show es.length ≤ j + 1; omega, hl2⟩, by omega⟩
            · have y1 : decide ((fr.length : Int) = 0) = false := decide_eq_false (by omega)
              by_cases p2 : to.length = 0
              · rw [if_pos (.inr p2)] at hstep
                have y2 : decide ((to.length : Int) = 0) = true := decide_eq_true (by omega)
                simp (config := { maxSteps := 1000000 }) (disch := first | omega | (simp only [go_sem]; omega)) only [go_sem, ↓reduceIte, y1, y2]
                exact ⟨(j + 1, es, ms), by simp, ⟨by omega, by omega, by omega, hstep.symm, by show es.length ≤ j + 1; omega, hl2⟩, by omega⟩
              · rw [if_neg (by omega)] at hstep
                have y2 : decide ((to.length : Int) = 0) = false := decide_eq_false (by omega)
                have hf := tmod_bd (x := (gt xe j).f) (m := (fr.length : Int)) of.1 (by omega)
                have ht := tmod_bd (x := (gt xe j).o) (m := (to.length : Int)) oo.1 (by omega)
                generalize hfd : (gt xe j).f.tmod (fr.length : Int) = kf at *
                generalize htd : (gt xe j).o.tmod (to.length : Int) = kt at *
                have z1 : ¬ ((fr.length : Int) = 0) := by omega
                have z2 : ¬ ((to.length : Int) = 0) := by omega
                simp (config := { maxSteps := 1000000 }) (disch := first | omega | (simp only [go_sem]; omega)) only [go_sem, ↓reduceIte, y1, y2, g1, w1, w2, hkd, hfd, htd, z1, z2, hl1, hl2, Int.reduceToNat]
                exact ⟨(j + 1, es ++ [⟨(gt de k).t, gt fr kf, gt to kt⟩], ms ++ [k]), by simp [hl2], ⟨by omega, by omega, by omega, hstep.symm, by simp; omega, by simp [hl2]⟩, by omega⟩
          · have hE : (if de.length = 0 then [] else (ovE ⟨dn, de⟩ ns (xe.take 10)).1) = es := by
              by_cases h0 : de.length = 0
              · rw [if_pos h0]
                have : j = 0 := by omega
                subst this
                simp [ovE] at hs
                exact hs.1.symm
              · rw [if_neg h0, show xe.take 10 = xe.take j from List.take_eq_take_iff.2 (by omega), ← hs]
            have hM : (if de.length = 0 then [] else (ovE ⟨dn, de⟩ ns (xe.take 10)).2) = ms := by
              by_cases h0 : de.length = 0
              · rw [if_pos h0]
                have : j = 0 := by omega
                subst this
                simp [ovE] at hs
                exact hs.2.symm
              · rw [if_neg h0, show xe.take 10 = xe.take j from List.take_eq_take_iff.2 (by omega), ← hs]
            rw [hE] at hOG
            rw [hM] at hOM
            subst hOG hOM
            simp only [gA, mA]
            rcases (show ¬ j < xe.length ∨ (j < xe.length ∧ ¬ j < 10) ∨ (j < xe.length ∧ j < 10 ∧ ¬ 0 < de.length) by omega) with f | ⟨f, f'⟩ | ⟨f, f', f''⟩
            · have e1 : decide ((j : Int) < xe.length) = false := decide_eq_false (by omega)
              simp (config := { maxSteps := 1000000 }) (disch := first | omega | (simp only [go_sem]; omega)) only [go_sem, ↓reduceIte, c_r11_Over_b17, e1, hmA, hmB, hl2]
              rfl
            · have e1 : decide ((j : Int) < xe.length) = true := decide_eq_true (by omega)
              have e2 : decide ((j : Int) < 10) = false := decide_eq_false (by omega)
              simp (config := { maxSteps := 1000000 }) (disch := first | omega | (simp only [go_sem]; omega)) only [go_sem, ↓reduceIte, c_r11_Over_b17, e1, e2, hmA, hmB, hl2]
              rfl
            · have e1 : decide ((j : Int) < xe.length) = true := decide_eq_true (by omega)
              have e2 : decide ((j : Int) < 10) = true := decide_eq_true (by omega)
              have e3 : decide ((0 : Int) < de.length) = false := decide_eq_false (by omega)
              simp (config := { maxSteps := 1000000 }) (disch := first | omega | (simp only [go_sem]; omega)) only [go_sem, ↓reduceIte, c_r11_Over_b17, e1, e2, e3, hmA, hmB, hl2]
              rfl
end
end Go.Am
