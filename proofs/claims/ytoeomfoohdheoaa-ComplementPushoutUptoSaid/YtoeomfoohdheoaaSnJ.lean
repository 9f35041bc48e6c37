/- Images of graphs by numbers: Image. -/
import Derived.Test.YtoeomfoohdheoaaSnPa
import Derived.Test.YtoeomfoohdheoaaSmF
namespace Go.Am
open Go
set_option linter.unusedVariables false
set_option linter.unusedSimpArgs false
attribute [local irreducible] W
/- r06.Image -/
def c_r06_Image_r0 (F : String → Nat) : List LI := [⟨some 2, .bx (.t 0), none⟩,
  ⟨some 4, .alloc [.nl 1, .nl 3], none⟩,
  ⟨some 5, .alloc [.nl 1, .nl 1], none⟩]
def c_r06_Image_r1 (F : String → Nat) : List LI := [⟨some 20, .mov (.t 1), none⟩,
  ⟨some 21, .call (F "r06.numbers") [.t 20] [], none⟩,
  ⟨some 6, .mov (.t 21), none⟩]
def c_r06_Image_r2 (F : String → Nat) : List LI := [⟨some 22, .fad 0 (.t 2), none⟩,
  ⟨some 23, .load false 1 (.t 22), none⟩,
  ⟨some 24, .len (.t 23), none⟩,
  ⟨some 25, .call (F "r02.Finest") [.t 24] [], none⟩,
  ⟨some 7, .mov (.t 25), none⟩]
def c_r06_Image_r3 (F : String → Nat) : List LI := [⟨some 8, .mov (.k (.int .i64 (1))), none⟩]
def c_r06_Image_r4 (F : String → Nat) : List LI := [⟨some 26, .mov (.t 8), none⟩,
  ⟨some 27, .fad 0 (.t 2), none⟩,
  ⟨some 28, .load false 1 (.t 27), none⟩,
  ⟨some 29, .len (.t 28), none⟩,
  ⟨some 30, .bin .lss (.t 26) (.t 29), none⟩]
def c_r06_Image_r5 (F : String → Nat) : List LI := [⟨some 33, .mov (.t 6), none⟩,
  ⟨some 34, .mov (.t 8), none⟩,
  ⟨some 35, .mov (.t 6), none⟩,
  ⟨some 36, .len (.t 35), none⟩,
  ⟨some 37, .bin .rem (.t 34) (.t 36), none⟩,
  ⟨some 38, .iad 1 (.t 33) (.t 37), none⟩,
  ⟨some 39, .load false 1 (.t 38), none⟩,
  ⟨some 40, .mov (.t 8), none⟩,
  ⟨some 41, .bin .add (.t 40) (.k (.int .i64 (1))), none⟩,
  ⟨some 42, .bin .rem (.t 39) (.t 41), none⟩,
  ⟨some 9, .mov (.t 42), none⟩]
def c_r06_Image_r6 (F : String → Nat) : List LI := [⟨some 43, .mov (.t 9), none⟩,
  ⟨some 44, .mov (.t 8), none⟩,
  ⟨some 45, .bin .lss (.t 43) (.t 44), none⟩,
  ⟨some 46, .mov (.t 45), none⟩,
  ⟨some 47, .fad 0 (.t 2), some (46, true)⟩,
  ⟨some 48, .load false 1 (.t 47), some (46, true)⟩,
  ⟨some 49, .mov (.t 9), some (46, true)⟩,
  ⟨some 50, .iad 1 (.t 48) (.t 49), some (46, true)⟩,
  ⟨some 51, .load false 1 (.t 50), some (46, true)⟩,
  ⟨some 52, .fad 0 (.t 2), some (46, true)⟩,
  ⟨some 53, .load false 1 (.t 52), some (46, true)⟩,
  ⟨some 54, .mov (.t 8), some (46, true)⟩,
  ⟨some 55, .iad 1 (.t 53) (.t 54), some (46, true)⟩,
  ⟨some 56, .load false 1 (.t 55), some (46, true)⟩,
  ⟨some 57, .bin .eql (.t 51) (.t 56), some (46, true)⟩,
  ⟨some 58, .pick (.t 46) (.t 57) (.k (.bool false)), none⟩]
def c_r06_Image_r7 (F : String → Nat) : List LI := [⟨some 59, .mov (.t 7), none⟩,
  ⟨some 60, .mov (.t 9), none⟩,
  ⟨some 61, .mov (.t 8), none⟩,
  ⟨some 62, .call (F "r02.Merge") [.t 59, .t 60, .t 61] [], none⟩,
  ⟨some 7, .mov (.t 62), none⟩]
def c_r06_Image_r8 (F : String → Nat) : List LI := [⟨some 31, .mov (.t 8), none⟩,
  ⟨some 32, .bin .add (.t 31) (.k (.int .i64 (1))), none⟩,
  ⟨some 8, .mov (.t 32), none⟩]
def c_r06_Image_b9 (F : String → Nat) : LC := (.seq (.seq (.reg (c_r06_Image_r4 F) [2, 4, 5, 6, 7, 8, 30]) (.cond (.t 30) .skip (.exit 0))) (.seq (.block 1 (.seq (.reg (c_r06_Image_r5 F) [2, 4, 5, 6, 7, 8, 9]) (.seq (.dreg [] (c_r06_Image_r6 F) [2, 4, 5, 6, 7, 8, 9, 58]) (.cond (.t 58) (.reg (c_r06_Image_r7 F) [2, 4, 5, 6, 7, 8]) .skip)))) (.reg (c_r06_Image_r8 F) [2, 4, 5, 6, 7, 8])))
def c_r06_Image_r10 (F : String → Nat) : List LI := [⟨some 64, .mov (.t 7), none⟩,
  ⟨some 65, .call (F "r02.Quotient") [.t 64] [], none⟩,
  ⟨some 63, .mov (.t 65), none⟩,
  ⟨some 66, .ext (.t 63) 0, none⟩,
  ⟨some 67, .ext (.t 63) 1, none⟩,
  ⟨some 68, .ext (.t 63) 2, none⟩,
  ⟨some 10, .mov (.t 66), none⟩,
  ⟨some 11, .mov (.t 67), none⟩,
  ⟨some 12, .mov (.t 68), none⟩]
def c_r06_Image_r11 (F : String → Nat) : List LI := [⟨some 69, .mov (.t 11), none⟩,
  ⟨some 70, .makeSl 1 8 (.int .i64 (0)) (.t 69), none⟩,
  ⟨some 71, .build [.nl 1, .nl 3] [(0, 1, .t 70)], none⟩,
  ⟨some 13, .alloc [.nl 1, .nl 3], none⟩,
  ⟨none, .store 2 (.t 13) (.t 71), none⟩]
def c_r06_Image_r12 (F : String → Nat) : List LI := [⟨some 72, .mov (.t 10), none⟩,
  ⟨some 73, .build [.nl 1, .nl 1] [(0, 1, .t 72)], none⟩,
  ⟨some 14, .alloc [.nl 1, .nl 1], none⟩,
  ⟨none, .store 2 (.t 14) (.t 73), none⟩]
def c_r06_Image_r13 (F : String → Nat) : List LI := [⟨some 15, .mov (.k (.int .i64 (0))), none⟩]
def c_r06_Image_r14 (F : String → Nat) : List LI := [⟨some 74, .mov (.t 15), none⟩,
  ⟨some 75, .fad 0 (.t 2), none⟩,
  ⟨some 76, .load false 1 (.t 75), none⟩,
  ⟨some 77, .len (.t 76), none⟩,
  ⟨some 78, .bin .lss (.t 74) (.t 77), none⟩]
def c_r06_Image_r15 (F : String → Nat) : List LI := [⟨some 81, .fad 0 (.t 13), none⟩,
  ⟨some 82, .load false 1 (.t 81), none⟩,
  ⟨some 83, .mov (.t 10), none⟩,
  ⟨some 84, .mov (.t 15), none⟩,
  ⟨some 85, .iad 1 (.t 83) (.t 84), none⟩,
  ⟨some 86, .load false 1 (.t 85), none⟩,
  ⟨some 87, .fad 0 (.t 2), none⟩,
  ⟨some 88, .load false 1 (.t 87), none⟩,
  ⟨some 89, .mov (.t 15), none⟩,
  ⟨some 90, .iad 1 (.t 88) (.t 89), none⟩,
  ⟨some 91, .load false 1 (.t 90), none⟩,
  ⟨some 92, .iad 1 (.t 82) (.t 86), none⟩,
  ⟨none, .store 1 (.t 92) (.t 91), none⟩]
def c_r06_Image_r16 (F : String → Nat) : List LI := [⟨some 79, .mov (.t 15), none⟩,
  ⟨some 80, .bin .add (.t 79) (.k (.int .i64 (1))), none⟩,
  ⟨some 15, .mov (.t 80), none⟩]
def c_r06_Image_b17 (F : String → Nat) : LC := (.seq (.seq (.reg (c_r06_Image_r14 F) [2, 4, 5, 6, 10, 13, 14, 15, 78]) (.cond (.t 78) .skip (.exit 2))) (.seq (.block 3 (.dreg [] (c_r06_Image_r15 F) [2, 4, 5, 6, 10, 13, 14, 15])) (.reg (c_r06_Image_r16 F) [2, 4, 5, 6, 10, 13, 14, 15])))
def c_r06_Image_r18 (F : String → Nat) : List LI := [⟨some 16, .mov (.k (.int .i64 (0))), none⟩]
def c_r06_Image_r19 (F : String → Nat) : List LI := [⟨some 93, .mov (.t 16), none⟩,
  ⟨some 94, .fad 1 (.t 2), none⟩,
  ⟨some 95, .load false 1 (.t 94), none⟩,
  ⟨some 96, .len (.t 95), none⟩,
  ⟨some 97, .bin .lss (.t 93) (.t 96), none⟩]
def c_r06_Image_r20 (F : String → Nat) : List LI := [⟨some 100, .fad 1 (.t 2), none⟩,
  ⟨some 101, .load false 1 (.t 100), none⟩,
  ⟨some 102, .mov (.t 16), none⟩,
  ⟨some 103, .iad 3 (.t 101) (.t 102), none⟩,
  ⟨some 104, .fad 0 (.t 103), none⟩,
  ⟨some 105, .load false 1 (.t 104), none⟩,
  ⟨some 106, .mov (.t 10), none⟩,
  ⟨some 107, .fad 1 (.t 2), none⟩,
  ⟨some 108, .load false 1 (.t 107), none⟩,
  ⟨some 109, .mov (.t 16), none⟩,
  ⟨some 110, .iad 3 (.t 108) (.t 109), none⟩,
  ⟨some 111, .fad 1 (.t 110), none⟩,
  ⟨some 112, .load false 1 (.t 111), none⟩,
  ⟨some 113, .iad 1 (.t 106) (.t 112), none⟩,
  ⟨some 114, .load false 1 (.t 113), none⟩,
  ⟨some 115, .mov (.t 10), none⟩,
  ⟨some 116, .fad 1 (.t 2), none⟩,
  ⟨some 117, .load false 1 (.t 116), none⟩,
  ⟨some 118, .mov (.t 16), none⟩,
  ⟨some 119, .iad 3 (.t 117) (.t 118), none⟩,
  ⟨some 120, .fad 2 (.t 119), none⟩,
  ⟨some 121, .load false 1 (.t 120), none⟩,
  ⟨some 122, .iad 1 (.t 115) (.t 121), none⟩,
  ⟨some 123, .load false 1 (.t 122), none⟩,
  ⟨some 124, .build [.int .i64 (0), .int .i64 (0), .int .i64 (0)] [(0, 1, .t 105), (1, 1, .t 114), (2, 1, .t 123)], none⟩,
  ⟨some 17, .alloc [.int .i64 (0), .int .i64 (0), .int .i64 (0)], none⟩,
  ⟨none, .store 3 (.t 17) (.t 124), none⟩]
def c_r06_Image_r21 (F : String → Nat) : List LI := [⟨some 18, .mov (.k (.int .i64 (-1))), none⟩]
def c_r06_Image_r22 (F : String → Nat) : List LI := [⟨some 19, .mov (.k (.int .i64 (0))), none⟩]
def c_r06_Image_r23 (F : String → Nat) : List LI := [⟨some 125, .mov (.t 19), none⟩,
  ⟨some 126, .fad 1 (.t 13), none⟩,
  ⟨some 127, .load false 1 (.t 126), none⟩,
  ⟨some 128, .len (.t 127), none⟩,
  ⟨some 129, .bin .lss (.t 125) (.t 128), none⟩]
def c_r06_Image_r24 (F : String → Nat) : List LI := [⟨some 132, .fad 1 (.t 13), none⟩,
  ⟨some 133, .load false 1 (.t 132), none⟩,
  ⟨some 134, .mov (.t 19), none⟩,
  ⟨some 135, .iad 3 (.t 133) (.t 134), none⟩,
  ⟨some 136, .load true 3 (.t 135), none⟩,
  ⟨some 137, .load true 3 (.t 17), none⟩,
  ⟨some 138, .eqA 3 false (.t 136) (.t 137), none⟩,
  ⟨some 139, .mov (.t 138), none⟩,
  ⟨some 140, .mov (.t 6), some (139, true)⟩,
  ⟨some 141, .mov (.t 16), some (139, true)⟩,
  ⟨some 142, .mov (.t 19), some (139, true)⟩,
  ⟨some 143, .bin .add (.t 141) (.t 142), some (139, true)⟩,
  ⟨some 144, .mov (.t 6), some (139, true)⟩,
  ⟨some 145, .len (.t 144), some (139, true)⟩,
  ⟨some 146, .bin .rem (.t 143) (.t 145), some (139, true)⟩,
  ⟨some 147, .iad 1 (.t 140) (.t 146), some (139, true)⟩,
  ⟨some 148, .load false 1 (.t 147), some (139, true)⟩,
  ⟨some 149, .bin .rem (.t 148) (.k (.int .i64 (2))), some (139, true)⟩,
  ⟨some 150, .bin .eql (.t 149) (.k (.int .i64 (0))), some (139, true)⟩,
  ⟨some 151, .pick (.t 139) (.t 150) (.k (.bool false)), none⟩]
def c_r06_Image_r25 (F : String → Nat) : List LI := [⟨some 152, .mov (.t 19), none⟩,
  ⟨some 18, .mov (.t 152), none⟩]
def c_r06_Image_r26 (F : String → Nat) : List LI := [⟨some 130, .mov (.t 19), none⟩,
  ⟨some 131, .bin .add (.t 130) (.k (.int .i64 (1))), none⟩,
  ⟨some 19, .mov (.t 131), none⟩]
def c_r06_Image_b27 (F : String → Nat) : LC := (.seq (.seq (.reg (c_r06_Image_r23 F) [2, 4, 5, 6, 10, 13, 14, 16, 17, 18, 19, 129]) (.cond (.t 129) .skip (.exit 6))) (.seq (.block 7 (.seq (.dreg [] (c_r06_Image_r24 F) [2, 4, 5, 6, 10, 13, 14, 16, 17, 18, 19, 151]) (.cond (.t 151) (.reg (c_r06_Image_r25 F) [2, 4, 5, 6, 10, 13, 14, 16, 17, 18, 19]) .skip))) (.reg (c_r06_Image_r26 F) [2, 4, 5, 6, 10, 13, 14, 16, 17, 18, 19])))
def c_r06_Image_r28 (F : String → Nat) : List LI := [⟨some 153, .mov (.t 18), none⟩,
  ⟨some 154, .bin .lss (.t 153) (.k (.int .i64 (0))), none⟩]
def c_r06_Image_r29 (F : String → Nat) : List LI := [⟨some 155, .fad 1 (.t 13), none⟩,
  ⟨some 156, .load false 1 (.t 155), none⟩,
  ⟨some 157, .len (.t 156), none⟩,
  ⟨some 18, .mov (.t 157), none⟩]
def c_r06_Image_r30 (F : String → Nat) : List LI := [⟨some 158, .fad 1 (.t 13), none⟩,
  ⟨some 159, .load false 1 (.t 158), none⟩,
  ⟨some 160, .load true 3 (.t 17), none⟩,
  ⟨some 161, .buildSl 3 24 (.agg [.int .i64 (0), .int .i64 (0), .int .i64 (0)]) 1 [(0, .t 160)], none⟩,
  ⟨some 162, .app 3 24 (.t 159) (.t 161), none⟩,
  ⟨some 163, .fad 1 (.t 13), none⟩,
  ⟨none, .store 1 (.t 163) (.t 162), none⟩]
def c_r06_Image_r31 (F : String → Nat) : List LI := [⟨some 164, .fad 1 (.t 14), none⟩,
  ⟨some 165, .load false 1 (.t 164), none⟩,
  ⟨some 166, .mov (.t 18), none⟩,
  ⟨some 167, .buildSl 1 8 (.int .i64 (0)) 1 [(0, .t 166)], none⟩,
  ⟨some 168, .app 1 8 (.t 165) (.t 167), none⟩,
  ⟨some 169, .fad 1 (.t 14), none⟩,
  ⟨none, .store 1 (.t 169) (.t 168), none⟩]
def c_r06_Image_r32 (F : String → Nat) : List LI := [⟨some 98, .mov (.t 16), none⟩,
  ⟨some 99, .bin .add (.t 98) (.k (.int .i64 (1))), none⟩,
  ⟨some 16, .mov (.t 99), none⟩]
def c_r06_Image_b33 (F : String → Nat) : LC := (.seq (.seq (.reg (c_r06_Image_r19 F) [2, 4, 5, 6, 10, 13, 14, 16, 97]) (.cond (.t 97) .skip (.exit 4))) (.seq (.block 5 (.seq (.dreg [] (c_r06_Image_r20 F) [2, 4, 5, 6, 10, 13, 14, 16, 17]) (.seq (.reg (c_r06_Image_r21 F) [2, 4, 5, 6, 10, 13, 14, 16, 17, 18]) (.seq (.seq (.reg (c_r06_Image_r22 F) [2, 4, 5, 6, 10, 13, 14, 16, 17, 18, 19]) (.block 6 (.loop [2, 4, 5, 6, 10, 13, 14, 16, 17, 18, 19] (c_r06_Image_b27 F)))) (.seq (.seq (.reg (c_r06_Image_r28 F) [2, 4, 5, 6, 10, 13, 14, 16, 17, 18, 154]) (.cond (.t 154) (.seq (.reg (c_r06_Image_r29 F) [2, 4, 5, 6, 10, 13, 14, 16, 17, 18]) (.reg (c_r06_Image_r30 F) [2, 4, 5, 6, 10, 13, 14, 16, 18])) .skip)) (.reg (c_r06_Image_r31 F) [2, 4, 5, 6, 10, 13, 14, 16])))))) (.reg (c_r06_Image_r32 F) [2, 4, 5, 6, 10, 13, 14, 16])))
def c_r06_Image_r34 (F : String → Nat) : List LI := [⟨some 170, .load true 2 (.t 13), none⟩,
  ⟨some 171, .load true 2 (.t 14), none⟩,
  ⟨none, .store 2 (.t 4) (.t 170), none⟩,
  ⟨none, .store 2 (.t 5) (.t 171), none⟩]
def c_r06_Image (F : String → Nat) : LC := (.seq (.reg (c_r06_Image_r0 F) [1, 2, 4, 5]) (.seq (.reg (c_r06_Image_r1 F) [2, 4, 5, 6]) (.seq (.reg (c_r06_Image_r2 F) [2, 4, 5, 6, 7]) (.seq (.seq (.reg (c_r06_Image_r3 F) [2, 4, 5, 6, 7, 8]) (.block 0 (.loop [2, 4, 5, 6, 7, 8] (c_r06_Image_b9 F)))) (.seq (.reg (c_r06_Image_r10 F) [2, 4, 5, 6, 10, 11]) (.seq (.reg (c_r06_Image_r11 F) [2, 4, 5, 6, 10, 13]) (.seq (.reg (c_r06_Image_r12 F) [2, 4, 5, 6, 10, 13, 14]) (.seq (.seq (.reg (c_r06_Image_r13 F) [2, 4, 5, 6, 10, 13, 14, 15]) (.block 2 (.loop [2, 4, 5, 6, 10, 13, 14, 15] (c_r06_Image_b17 F)))) (.seq (.seq (.reg (c_r06_Image_r18 F) [2, 4, 5, 6, 10, 13, 14, 16]) (.block 4 (.loop [2, 4, 5, 6, 10, 13, 14, 16] (c_r06_Image_b33 F)))) (.seq (.dreg [(1, none, [], true), (2, none, [1], false)] (c_r06_Image_r34 F) [4, 5]) .ret))))))))))
def h_r06_Image : Hints := ⟨[], fun _ => [], tab [(0, [1, 2, 4, 5]), (1, [2, 4, 5, 6]), (2, [2, 4, 5, 6, 7]), (3, [2, 4, 5, 6, 7, 8]), (4, [2, 4, 5, 6, 7, 8, 30]), (5, [2, 4, 5, 6, 7, 8]), (6, [2, 4, 5, 6, 7, 8, 9]), (7, [2, 4, 5, 6, 7, 8, 9, 58]), (8, [2, 4, 5, 6, 7, 8]), (9, [2, 4, 5, 6, 10, 11]), (10, [2, 4, 5, 6, 10, 13]), (11, [2, 4, 5, 6, 10, 13, 14]), (12, [2, 4, 5, 6, 10, 13, 14, 15]), (13, [2, 4, 5, 6, 10, 13, 14, 15, 78]), (14, [2, 4, 5, 6, 10, 13, 14, 15]), (15, [2, 4, 5, 6, 10, 13, 14, 15]), (16, [2, 4, 5, 6, 10, 13, 14, 16]), (17, [2, 4, 5, 6, 10, 13, 14, 16, 97]), (18, [2, 4, 5, 6, 10, 13, 14, 16]), (19, [2, 4, 5, 6, 10, 13, 14, 16, 17]), (20, [2, 4, 5, 6, 10, 13, 14, 16, 17, 18]), (21, [2, 4, 5, 6, 10, 13, 14, 16, 17, 18, 19]), (22, [2, 4, 5, 6, 10, 13, 14, 16, 17, 18, 19, 129]), (23, [2, 4, 5, 6, 10, 13, 14, 16, 17, 18, 19]), (24, [2, 4, 5, 6, 10, 13, 14, 16, 17, 18, 19, 151]), (25, [2, 4, 5, 6, 10, 13, 14, 16, 17, 18, 19]), (26, [2, 4, 5, 6, 10, 13, 14, 16, 17, 18, 154]), (27, [2, 4, 5, 6, 10, 13, 14, 16, 17, 18]), (28, [2, 4, 5, 6, 10, 13, 14, 16, 18]), (29, [2, 4, 5, 6, 10, 13, 14, 16]), (30, [4, 5])], tab [(4, [2, 4, 5, 6, 7, 8]), (13, [2, 4, 5, 6, 10, 13, 14, 15]), (17, [2, 4, 5, 6, 10, 13, 14, 16]), (22, [2, 4, 5, 6, 10, 13, 14, 16, 17, 18, 19])]⟩

attribute [go_sem] c_r06_Image_r0 c_r06_Image_r1 c_r06_Image_r2 c_r06_Image_r3 c_r06_Image_r4 c_r06_Image_r5 c_r06_Image_r6 c_r06_Image_r7 c_r06_Image_r8 c_r06_Image_r10 c_r06_Image_r11 c_r06_Image_r12 c_r06_Image_r13 c_r06_Image_r14 c_r06_Image_r15 c_r06_Image_r16 c_r06_Image_r18 c_r06_Image_r19 c_r06_Image_r20 c_r06_Image_r21 c_r06_Image_r22 c_r06_Image_r23 c_r06_Image_r24 c_r06_Image_r25 c_r06_Image_r26 c_r06_Image_r28 c_r06_Image_r29 c_r06_Image_r30 c_r06_Image_r31 c_r06_Image_r32 c_r06_Image_r34 c_r06_Image
section
variable (P : Program) (F : String → Nat)
def K_r06_Image : Prop := ∀ (g : G) (l : List Int), validG g = 0 → l.length ≤ 2000000 → (∀ v ∈ l, Byte v) → FC P (F "r06.Image") [gD g, .lst 1 (u8s l)] (.tup [gA (imG g l), mA (imMo g l)]) []
end
section
variable {P : Program} {F : String → Nat} {α : Type}
theorem codeL_le {l : List Int} (h : l.length ≤ 2000000) : (codeL l).length ≤ 2000000 := by
  unfold codeL
  split
  · simp
  · exact h
set_option maxRecDepth 100000 in
set_option maxHeartbeats 4000000 in
theorem w_r06_Image (hn : K_r06_numbers P F) (hfi : K_r02_Finest P F) (hm : K_r02_Merge P F) (hq : K_r02_Quotient P F) (g : G) (l : List Int) (hv : validG g = 0) (hl : l.length ≤ 2000000) (hb : ∀ v ∈ l, Byte v) :
    W P (c_r06_Image F) (Done [.c 4 true 2, .c 5 true 2] [] (.tup [gA (imG g l), mA (imMo g l)]) []) (init [gD g, .lst 1 (u8s l)]) := by
  refine W_of ?_
  have r1 := hn l hl hb
  have vs := valid_spec hv
  have r2 := hfi g.n.length (by omega)
  have hG : imG g l = ⟨outN g (imgQ g l) (imgC g l) g.n.length, (imgE g (imgQ g l) (codeL l) g.e.length).1⟩ := rfl
  have hM : imMo g l = ⟨imgQ g l, (imgE g (imgQ g l) (codeL l) g.e.length).2⟩ := rfl
  have hP : imgP g l = part g (codeL l) (g.n.length - 1) := rfl
  have hQV : QV g g.n.length (imgQ g l, imgC g l) := quo_QV (part_PV (codeL_len l) (codeL_ok hb) _ (Nat.le_refl _)) _ (Nat.le_refl _)
  have hQ : (quo (part g (codeL l) (g.n.length - 1)) g.n.length) = (imgQ g l, imgC g l) := rfl
  have hpv : ∀ k : Nat, k ≤ g.n.length - 1 → PV g (part g (codeL l) k) := part_PV (codeL_len l) (codeL_ok hb)
  have hkb := key_bd (codeL_len l) (codeL_ok hb)
  have hcl := codeL_len l
  have hcm := codeL_le hl
  have hcb := codeL_ok hb
  have hEV : ∀ n : Nat, n ≤ g.e.length → EV g (imgQ g l) (imgC g l) n (imgE g (imgQ g l) (codeL l) n) := imgE_EV hv hQV.b
  generalize imG g l = ig at *
  generalize imMo g l = im at *
  generalize imgP g l = ip at *
  generalize imgQ g l = q at *
  generalize imgC g l = qc at *
  generalize codeL l = c at *
  have en : g.n = g.n := rfl
  obtain ⟨gn, ge⟩ := g
  simp only [gD, gA, mA] at *
  simp (config := { maxSteps := 1000000 }) (disch := first | omega | (simp only [go_sem]; omega)) only [go_sem, ↓reduceIte]
  refine call_by r1 ?_
  simp (config := { maxSteps := 1000000 }) (disch := first | omega | (simp only [go_sem]; omega)) only [go_sem, ↓reduceIte]
  refine call_by r2 ?_
  simp (config := { maxSteps := 1000000 }) (disch := first | omega | (simp only [go_sem]; omega)) only [go_sem, ↓reduceIte]
  refine W_loop (fun k : Nat => ⟨[(2, .pt 0 0), (4, .pt 3 0), (5, .pt 6 0), (6, .sl 7 0 c.length), (7, .sl 8 0 gn.length), (8, .int .i64 ((k : Int) + 1))],
    [(0, .box [.lst 1 (ints gn), .lst 3 (eds ge)]), (1, .arr 1 []), (2, .arr 3 []), (3, .box [.sl 1 0 0, .sl 2 0 0]), (4, .arr 1 []), (5, .arr 1 []), (6, .box [.sl 4 0 0, .sl 5 0 0]), (7, .arr 1 (ints c)), (8, .arr 1 (ints (part ⟨gn, ge⟩ c k)))], 9⟩)
    (fun k => k ≤ gn.length - 1) (fun k => gn.length - k) 0 ?_ ?_ ?_
  · simp (config := { maxSteps := 1000000 }) (disch := first | omega | (simp only [go_sem]; omega)) only [go_sem, ↓reduceIte, part]
    simp only [nums_len]
    rfl
  · omega
  · intro k hk
    have pv := hpv k hk
    have hpl := pv.l
    simp only at hpl
    by_cases f : k + 1 < gn.length
    · have g1 : decide ((k : Int) + 1 < gn.length) = true := decide_eq_true (by omega)
      have b1 := tmod_bd (x := (k : Int) + 1) (m := (c.length : Int)) (by omega) (by omega)
      have b2 := hkb (k + 1)
      have z1 : ¬ ((c.length : Int) = 0) := by omega
      have z2 : ¬ ((k : Int) + 1 + 1 = 0) := by omega
      have hky : (gt c (((k : Int) + 1).tmod c.length)).tmod ((k : Int) + 1 + 1) = keyI c (k + 1) := rfl
      have hs : part ⟨gn, ge⟩ c (k + 1) = if keyI c (k + 1) < ((k : Int) + 1) ∧ gt gn (keyI c (k + 1)) = gt gn ((k : Int) + 1) then mergeL (part ⟨gn, ge⟩ c k) (keyI c (k + 1)) ((k : Int) + 1) else part ⟨gn, ge⟩ c k := rfl
      generalize keyI c (k + 1) = ky at *
      generalize hkd : ((k : Int) + 1).tmod c.length = kd at *
      generalize part ⟨gn, ge⟩ c k = p at *
      generalize hp' : part ⟨gn, ge⟩ c (k + 1) = p' at *
      by_cases c1 : ky < (k : Int) + 1
      · have g2 : decide (ky < (k : Int) + 1) = true := decide_eq_true c1
        by_cases c2 : gt gn ky = gt gn ((k : Int) + 1)
        · have g3 : decide (gt gn ky = gt gn ((k : Int) + 1)) = true := decide_eq_true c2
          rw [if_pos ⟨c1, c2⟩] at hs
          obtain ⟨m, rfl⟩ : ∃ m : Nat, ky = m := ⟨ky.toNat, by omega⟩
          have r := hm p m (k + 1) (by omega) (by omega) (by omega)
          rw [show ((k + 1 : Nat) : Int) = (k : Int) + 1 from rfl] at r
          have ml := merge_len p m ((k : Int) + 1)
          rw [← hs] at r ml
          clear hs
          simp (config := { maxSteps := 1000000 }) (disch := first | omega | (simp only [go_sem]; omega)) only [go_sem, ↓reduceIte, c_r06_Image_b9, g1, g2, g3, z1, z2, hkd, hky]
          refine call_by r ?_
          simp (config := { maxSteps := 1000000 }) (disch := first | omega | (simp only [go_sem]; omega)) only [go_sem, ↓reduceIte, ml, hpl]
          exact ⟨k + 1, by simp [hp'], by omega, by omega⟩
        · have g3 : decide (gt gn ky = gt gn ((k : Int) + 1)) = false := decide_eq_false c2
          rw [if_neg (fun h => c2 h.2)] at hs
          subst hs
          simp (config := { maxSteps := 1000000 }) (disch := first | omega | (simp only [go_sem]; omega)) only [go_sem, ↓reduceIte, c_r06_Image_b9, g1, g2, g3, z1, z2, hkd, hky]
          exact ⟨k + 1, by simp [hp'], by omega, by omega⟩
      · have g2 : decide (ky < (k : Int) + 1) = false := decide_eq_false c1
        rw [if_neg (fun h => c1 h.1)] at hs
        subst hs
        simp (config := { maxSteps := 1000000 }) (disch := first | omega | (simp only [go_sem]; omega)) only [go_sem, ↓reduceIte, c_r06_Image_b9, g1, g2, z1, z2, hkd, hky]
        exact ⟨k + 1, by simp [hp'], by omega, by omega⟩
    · have g1 : decide ((k : Int) + 1 < gn.length) = false := decide_eq_false (by omega)
      obtain rfl : k = gn.length - 1 := by omega
      have r3 := hq (part ⟨gn, ge⟩ c (gn.length - 1)) ⟨by omega, fun i hi => ⟨(pv.h i (by simp only; omega)).1, (pv.h i (by simp only; omega)).2.1⟩⟩
      rw [hpl] at r3
      rw [hQ] at r3
      simp only at r3
      have hql := hQV.l
      have hqb := hQV.b
      have hqc := hQV.c
      simp only at hql hqb hqc
      clear hQ hkb hpv
      generalize part ⟨gn, ge⟩ c (gn.length - 1) = p at *
      simp (config := { maxSteps := 1000000 }) (disch := first | omega | (simp only [go_sem]; omega)) only [go_sem, ↓reduceIte, c_r06_Image_b9, g1, hpl]
      refine call_by r3 ?_
      simp (config := { maxSteps := 1000000 }) (disch := first | omega | (simp only [go_sem]; omega)) only [go_sem, ↓reduceIte, hql]
      have ol := outN_len ⟨gn, ge⟩ q qc
      refine W_loop (fun i : Nat => ⟨[(2, .pt 0 0), (4, .pt 3 0), (5, .pt 6 0), (6, .sl 7 0 c.length), (10, .sl 8 0 gn.length), (13, .pt 11 0), (14, .pt 13 0), (15, .int .i64 i)],
        [(0, .box [.lst 1 (ints gn), .lst 3 (eds ge)]), (1, .arr 1 []), (2, .arr 3 []), (3, .box [.sl 1 0 0, .sl 2 0 0]), (4, .arr 1 []), (5, .arr 1 []), (6, .box [.sl 4 0 0, .sl 5 0 0]), (7, .arr 1 (ints c)), (8, .arr 1 (ints q)),
         (9, .arr 1 (ints (outN ⟨gn, ge⟩ q qc i))), (10, .arr 3 []), (11, .box [.sl 9 0 qc, .sl 10 0 0]), (12, .arr 1 []), (13, .box [.sl 8 0 gn.length, .sl 12 0 0])], 14⟩)
        (fun i => i ≤ gn.length) (fun i => gn.length - i) 0 ?_ ?_ ?_
      · simp (config := { maxSteps := 1000000 }) (disch := first | omega | (simp only [go_sem]; omega)) only [go_sem, ↓reduceIte, outN, hql]
        rfl
      · omega
      · intro i hi
        have oli := ol i
        by_cases f : i < gn.length
        · have g1 : decide ((i : Int) < gn.length) = true := decide_eq_true (by omega)
          have hs : outN ⟨gn, ge⟩ q qc (i + 1) = (outN ⟨gn, ge⟩ q qc i).set (gt q i).toNat (gt gn i) := rfl
          have b1 := hqb i f
          simp (config := { maxSteps := 1000000 }) (disch := first | omega | (simp only [go_sem]; omega)) only [go_sem, ↓reduceIte, c_r06_Image_b17, g1, hql, oli]
          exact ⟨i + 1, by simp [hs], by omega, by omega⟩
        · have g1 : decide ((i : Int) < gn.length) = false := decide_eq_false (by omega)
          obtain rfl : i = gn.length := by omega
          simp (config := { maxSteps := 1000000 }) (disch := first | omega | (simp only [go_sem]; omega)) only [go_sem, ↓reduceIte, c_r06_Image_b17, g1, hql, oli]
          generalize outN ⟨gn, ge⟩ q qc gn.length = ou at *
          have hel : ge.length ≤ 80 := vs.2.1
          refine W_loop (fun i : Nat => ⟨[(2, .pt 0 0), (4, .pt 3 0), (5, .pt 6 0), (6, .sl 7 0 c.length), (10, .sl 8 0 gn.length), (13, .pt 11 0), (14, .pt 13 0), (16, .int .i64 i)],
            [(0, .box [.lst 1 (ints gn), .lst 3 (eds ge)]), (1, .arr 1 []), (2, .arr 3 []), (3, .box [.sl 1 0 0, .sl 2 0 0]), (4, .arr 1 []), (5, .arr 1 []), (6, .box [.sl 4 0 0, .sl 5 0 0]), (7, .arr 1 (ints c)), (8, .arr 1 (ints q)),
             (9, .arr 1 (ints ou)), (10, .arr 3 (eds (imgE ⟨gn, ge⟩ q c i).1)), (11, .box [.sl 9 0 qc, .sl 10 0 (imgE ⟨gn, ge⟩ q c i).1.length]), (12, .arr 1 (ints (imgE ⟨gn, ge⟩ q c i).2)), (13, .box [.sl 8 0 gn.length, .sl 12 0 i])], 14⟩)
            (fun i => i ≤ ge.length) (fun i => ge.length - i) 0 ?_ ?_ ?_
          · simp (config := { maxSteps := 1000000 }) (disch := first | omega | (simp only [go_sem]; omega)) only [go_sem, ↓reduceIte, imgE, hql, oli]
            rfl
          · omega
          · intro i hi
            have ev := hEV i hi
            have evl := ev.l
            have evm := ev.m
            by_cases f : i < ge.length
            · have g1 : decide ((i : Int) < ge.length) = true := decide_eq_true (by omega)
              have hs : imgE ⟨gn, ge⟩ q c (i + 1) = if findE (imgE ⟨gn, ge⟩ q c i).1 (imgX ⟨gn, ge⟩ q i) c i (imgE ⟨gn, ge⟩ q c i).1.length < 0 then ((imgE ⟨gn, ge⟩ q c i).1 ++ [imgX ⟨gn, ge⟩ q i], (imgE ⟨gn, ge⟩ q c i).2 ++ [((imgE ⟨gn, ge⟩ q c i).1.length : Int)])
                else ((imgE ⟨gn, ge⟩ q c i).1, (imgE ⟨gn, ge⟩ q c i).2 ++ [findE (imgE ⟨gn, ge⟩ q c i).1 (imgX ⟨gn, ge⟩ q i) c i (imgE ⟨gn, ge⟩ q c i).1.length]) := rfl
              generalize hE1 : imgE ⟨gn, ge⟩ q c (i + 1) = s' at *
              generalize hE0 : imgE ⟨gn, ge⟩ q c i = s at *
              obtain ⟨oe, me⟩ := s
              simp only at hs evl evm
              obtain ⟨_, e1, e2⟩ := edge_fits hv (i := i) (by simp only; omega)
              simp only at e1 e2
              have hx : imgX ⟨gn, ge⟩ q i = ⟨(gt ge i).t, gt q (gt ge i).f, gt q (gt ge i).o⟩ := rfl
              have hfo := fun k => @find_ok oe (imgX ⟨gn, ge⟩ q i) c i k
              rw [hx] at hs hfo
              clear hx
              simp (config := { maxSteps := 1000000 }) (disch := first | omega | (simp only [go_sem]; omega)) only [go_sem, ↓reduceIte, c_r06_Image_b33, g1, hql, evl]
              generalize (gt ge i).t = xt at *
              generalize gt q (gt ge i).f = xf at *
              generalize gt q (gt ge i).o = xo at *
              refine W_loop (fun k : Nat => ⟨[(2, .pt 0 0), (4, .pt 3 0), (5, .pt 6 0), (6, .sl 7 0 c.length), (10, .sl 8 0 gn.length), (13, .pt 11 0), (14, .pt 13 0), (16, .int .i64 i), (17, .pt 14 0), (18, .int .i64 (findE oe ⟨xt, xf, xo⟩ c i k)), (19, .int .i64 k)],
                [(0, .box [.lst 1 (ints gn), .lst 3 (eds ge)]), (1, .arr 1 []), (2, .arr 3 []), (3, .box [.sl 1 0 0, .sl 2 0 0]), (4, .arr 1 []), (5, .arr 1 []), (6, .box [.sl 4 0 0, .sl 5 0 0]), (7, .arr 1 (ints c)), (8, .arr 1 (ints q)),
                 (9, .arr 1 (ints ou)), (10, .arr 3 (eds oe)), (11, .box [.sl 9 0 qc, .sl 10 0 oe.length]), (12, .arr 1 (ints me)), (13, .box [.sl 8 0 gn.length, .sl 12 0 i]), (14, .box [.int .i64 xt, .int .i64 xf, .int .i64 xo])], 15⟩)
                (fun k => k ≤ oe.length) (fun k => oe.length - k) 0 ?_ ?_ ?_
              · simp (config := { maxSteps := 1000000 }) (disch := first | omega | (simp only [go_sem]; omega)) only [go_sem, ↓reduceIte, findE, evl, hql]
                rfl
              · omega
              · intro k hk
                by_cases fk : k < oe.length
                · have g2 : decide ((k : Int) < oe.length) = true := decide_eq_true (by omega)
                  have b1 := tmod_bd (x := (i : Int) + k) (m := (c.length : Int)) (by omega) (by omega)
                  have z1 : ¬ ((c.length : Int) = 0) := by omega
                  have hfs : findE oe ⟨xt, xf, xo⟩ c i (k + 1) = if gt oe k = ⟨xt, xf, xo⟩ ∧ (gt c (((i : Int) + k).tmod c.length)).tmod 2 = 0 then (k : Int) else findE oe ⟨xt, xf, xo⟩ c i k := rfl
                  generalize hkd : ((i : Int) + k).tmod c.length = kd at *
                  have g4 : (decide ((gt oe k).t = xt) && (decide ((gt oe k).f = xf) && decide ((gt oe k).o = xo))) = decide (gt oe k = ⟨xt, xf, xo⟩) := by
                    generalize gt oe (k : Int) = e
                    obtain ⟨a, b, d⟩ := e
                    rw [Bool.eq_iff_iff]
                    simp
                  have z2 : ¬ ((2 : Int) = 0) := by omega
                  by_cases c1 : gt oe k = ⟨xt, xf, xo⟩
                  · have g5 := g4.trans (decide_eq_true c1)
                    by_cases c2 : (gt c kd).tmod 2 = 0
                    · have g6 : decide ((gt c kd).tmod 2 = 0) = true := decide_eq_true c2
                      rw [if_pos ⟨c1, c2⟩] at hfs
                      simp (config := { maxSteps := 1000000 }) (disch := first | omega | (simp only [go_sem]; omega)) only [go_sem, ↓reduceIte, c_r06_Image_b27, g2, z1, z2, hkd, g5, g6]
                      exact ⟨k + 1, by simp [hfs], by omega, by omega⟩
                    · have g6 : decide ((gt c kd).tmod 2 = 0) = false := decide_eq_false c2
                      rw [if_neg (fun h => c2 h.2)] at hfs
                      simp (config := { maxSteps := 1000000 }) (disch := first | omega | (simp only [go_sem]; omega)) only [go_sem, ↓reduceIte, c_r06_Image_b27, g2, z1, z2, hkd, g5, g6]
                      exact ⟨k + 1, by simp [hfs], by omega, by omega⟩
                  · have g5 := g4.trans (decide_eq_false c1)
                    rw [if_neg (fun h => c1 h.1)] at hfs
                    simp (config := { maxSteps := 1000000 }) (disch := first | omega | (simp only [go_sem]; omega)) only [go_sem, ↓reduceIte, c_r06_Image_b27, g2, z1, z2, hkd, g5]
                    exact ⟨k + 1, by simp [hfs], by omega, by omega⟩
                · have g2 : decide ((k : Int) < oe.length) = false := decide_eq_false (by omega)
                  obtain rfl : k = oe.length := by omega
                  have hfo := hfo oe.length (Nat.le_refl _)
                  generalize findE oe ⟨xt, xf, xo⟩ c i oe.length = at_ at *
                  by_cases c1 : at_ < 0
                  · have g3 : decide (at_ < 0) = true := decide_eq_true c1
                    rw [if_pos c1] at hs
                    simp (config := { maxSteps := 1000000 }) (disch := first | omega | (simp only [go_sem]; omega)) only [go_sem, ↓reduceIte, c_r06_Image_b27, g2, g3, evl]
                    exact ⟨i + 1, by simp [hE1, hs], by omega, by omega⟩
                  · have g3 : decide (at_ < 0) = false := decide_eq_false c1
                    rw [if_neg c1] at hs
                    simp (config := { maxSteps := 1000000 }) (disch := first | omega | (simp only [go_sem]; omega)) only [go_sem, ↓reduceIte, c_r06_Image_b27, g2, g3, evl]
                    exact ⟨i + 1, by simp [hE1, hs], by omega, by omega⟩
            · have g1 : decide ((i : Int) < ge.length) = false := decide_eq_false (by omega)
              obtain rfl : i = ge.length := by omega
              generalize imgE ⟨gn, ge⟩ q c ge.length = s at *
              obtain ⟨oe, me⟩ := s
              simp only at evl evm
              subst hG hM
              simp (config := { maxSteps := 1000000 }) (disch := first | omega | (simp only [go_sem]; omega)) only [go_sem, ↓reduceIte, c_r06_Image_b33, g1, hql, oli, evl]
              rfl
end
end Go.Am
