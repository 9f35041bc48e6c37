/- The law PushoutUnique. -/
import Derived.Test.YtpdjpdfkacpnnaaSoL
import Derived.Test.YtpdjpdfkacpnnaaSmK
namespace Go.Am
open Go
set_option linter.unusedVariables false
set_option linter.unusedSimpArgs false
attribute [local irreducible] W
/- l10.PushoutUnique -/
def c_l10_PushoutUnique_r0 (F : String → Nat) : List LI := [⟨some 2, .bx (.t 0), none⟩,
  ⟨some 3, .bx (.t 1), none⟩,
  ⟨some 4, .mov (.k (.bool false)), none⟩]
def c_l10_PushoutUnique_r1 (F : String → Nat) : List LI := [⟨some 19, .call (F "l10.awake") [] [], none⟩,
  ⟨some 20, .not (.t 19), none⟩,
  ⟨some 21, .mov (.t 20), none⟩,
  ⟨some 22, .iaa 3 1 (.t 3) (.k (.int .i64 (0))), some (21, false)⟩,
  ⟨some 23, .load false 1 (.t 22), some (21, false)⟩,
  ⟨some 24, .len (.t 23), some (21, false)⟩,
  ⟨some 25, .bin .gtr (.t 24) (.k (.int .i64 (10))), some (21, false)⟩,
  ⟨some 26, .pick (.t 21) (.k (.bool true)) (.t 25), none⟩,
  ⟨some 27, .mov (.t 26), none⟩,
  ⟨some 28, .iaa 3 1 (.t 3) (.k (.int .i64 (1))), some (27, false)⟩,
  ⟨some 29, .load false 1 (.t 28), some (27, false)⟩,
  ⟨some 30, .len (.t 29), some (27, false)⟩,
  ⟨some 31, .bin .gtr (.t 30) (.k (.int .i64 (10))), some (27, false)⟩,
  ⟨some 32, .pick (.t 27) (.k (.bool true)) (.t 31), none⟩,
  ⟨some 33, .mov (.t 32), none⟩,
  ⟨some 34, .iaa 3 1 (.t 3) (.k (.int .i64 (2))), some (33, false)⟩,
  ⟨some 35, .load false 1 (.t 34), some (33, false)⟩,
  ⟨some 36, .len (.t 35), some (33, false)⟩,
  ⟨some 37, .bin .gtr (.t 36) (.k (.int .i64 (10))), some (33, false)⟩,
  ⟨some 38, .pick (.t 33) (.k (.bool true)) (.t 37), none⟩]
def c_l10_PushoutUnique_r2 (F : String → Nat) : List LI := [⟨some 39, .call (F "l10.awake") [] [], none⟩,
  ⟨some 4, .mov (.t 39), none⟩]
def c_l10_PushoutUnique_r3 (F : String → Nat) : List LI := [⟨some 40, .fad 0 (.t 2), none⟩,
  ⟨some 41, .load false 1 (.t 40), none⟩,
  ⟨some 42, .fad 0 (.t 2), none⟩,
  ⟨some 43, .load false 1 (.t 42), none⟩,
  ⟨some 44, .len (.t 43), none⟩,
  ⟨some 45, .mn [.t 44, .k (.int .i64 (2))], none⟩,
  ⟨some 46, .slc 1 (.t 41) none (some (.t 45)), none⟩,
  ⟨some 47, .fad 1 (.t 2), none⟩,
  ⟨some 48, .load false 1 (.t 47), none⟩,
  ⟨some 49, .fad 1 (.t 2), none⟩,
  ⟨some 50, .load false 1 (.t 49), none⟩,
  ⟨some 51, .len (.t 50), none⟩,
  ⟨some 52, .mn [.t 51, .k (.int .i64 (2))], none⟩,
  ⟨some 53, .slc 3 (.t 48) none (some (.t 52)), none⟩,
  ⟨some 54, .fad 0 (.t 2), none⟩,
  ⟨none, .store 1 (.t 54) (.t 46), none⟩,
  ⟨some 55, .fad 1 (.t 2), none⟩,
  ⟨none, .store 1 (.t 55) (.t 53), none⟩]
def c_l10_PushoutUnique_r4 (F : String → Nat) : List LI := [⟨some 56, .load true 2 (.t 2), none⟩,
  ⟨some 57, .iaa 3 1 (.t 3) (.k (.int .i64 (0))), none⟩,
  ⟨some 58, .load false 1 (.t 57), none⟩,
  ⟨some 59, .iaa 3 1 (.t 3) (.k (.int .i64 (0))), none⟩,
  ⟨some 60, .load false 1 (.t 59), none⟩,
  ⟨some 61, .len (.t 60), none⟩,
  ⟨some 62, .mn [.t 61, .k (.int .i64 (5))], none⟩,
  ⟨some 63, .slc 1 (.t 58) none (some (.t 62)), none⟩,
  ⟨some 64, .iaa 3 1 (.t 3) (.k (.int .i64 (1))), none⟩,
  ⟨some 65, .load false 1 (.t 64), none⟩,
  ⟨some 66, .iaa 3 1 (.t 3) (.k (.int .i64 (1))), none⟩,
  ⟨some 67, .load false 1 (.t 66), none⟩,
  ⟨some 68, .len (.t 67), none⟩,
  ⟨some 69, .mn [.t 68, .k (.int .i64 (5))], none⟩,
  ⟨some 70, .slc 1 (.t 65) none (some (.t 69)), none⟩,
  ⟨some 71, .call (F "r10.Made") [.t 56, .t 63, .t 70] [], none⟩,
  ⟨some 5, .alloc [.nl 1, .nl 3, .nl 1, .nl 3, .nl 1, .nl 3, .nl 1, .nl 1, .nl 1, .nl 1], none⟩,
  ⟨none, .store 10 (.t 5) (.t 71), none⟩]
def c_l10_PushoutUnique_r5 (F : String → Nat) : List LI := [⟨some 73, .load true 10 (.t 5), none⟩,
  ⟨some 74, .call (F "pushout.Of") [.t 73] [], none⟩,
  ⟨some 72, .mov (.t 74), none⟩,
  ⟨some 75, .ext (.t 72) 0, none⟩,
  ⟨some 76, .ext (.t 72) 1, none⟩,
  ⟨some 77, .ext (.t 72) 2, none⟩,
  ⟨some 78, .ext (.t 72) 3, none⟩,
  ⟨some 6, .alloc [.nl 1, .nl 3], none⟩,
  ⟨some 7, .alloc [.nl 1, .nl 1], none⟩,
  ⟨some 8, .alloc [.nl 1, .nl 1], none⟩,
  ⟨none, .store 2 (.t 6) (.t 75), none⟩,
  ⟨none, .store 2 (.t 7) (.t 76), none⟩,
  ⟨none, .store 2 (.t 8) (.t 77), none⟩,
  ⟨some 9, .mov (.t 78), none⟩]
def c_l10_PushoutUnique_r6 (F : String → Nat) : List LI := [⟨some 79, .mov (.t 9), none⟩,
  ⟨some 80, .bin .neq (.t 79) (.k (.int .i64 (0))), none⟩,
  ⟨some 81, .mov (.t 80), none⟩,
  ⟨some 82, .fad 2 (.t 5), some (81, false)⟩,
  ⟨some 83, .load true 2 (.t 82), some (81, false)⟩,
  ⟨some 84, .load true 2 (.t 6), some (81, false)⟩,
  ⟨some 85, .load true 2 (.t 7), some (81, false)⟩,
  ⟨some 86, .call (F "morphism.Valid") [.t 83, .t 84, .t 85] [], some (81, false)⟩,
  ⟨some 87, .bin .neq (.t 86) (.k (.int .i64 (0))), some (81, false)⟩,
  ⟨some 88, .pick (.t 81) (.k (.bool true)) (.t 87), none⟩,
  ⟨some 89, .mov (.t 88), none⟩,
  ⟨some 90, .fad 4 (.t 5), some (89, false)⟩,
  ⟨some 91, .load true 2 (.t 90), some (89, false)⟩,
  ⟨some 92, .load true 2 (.t 6), some (89, false)⟩,
  ⟨some 93, .load true 2 (.t 8), some (89, false)⟩,
  ⟨some 94, .call (F "morphism.Valid") [.t 91, .t 92, .t 93] [], some (89, false)⟩,
  ⟨some 95, .bin .neq (.t 94) (.k (.int .i64 (0))), some (89, false)⟩,
  ⟨some 96, .pick (.t 89) (.k (.bool true)) (.t 95), none⟩]
def c_l10_PushoutUnique_r7 (F : String → Nat) : List LI := [⟨some 4, .mov (.k (.bool false)), none⟩]
def c_l10_PushoutUnique_r8 (F : String → Nat) : List LI := [⟨some 98, .load true 2 (.t 6), none⟩,
  ⟨some 99, .iaa 3 1 (.t 3) (.k (.int .i64 (2))), none⟩,
  ⟨some 100, .load false 1 (.t 99), none⟩,
  ⟨some 101, .call (F "r10.Grown") [.t 98, .t 100] [], none⟩,
  ⟨some 97, .mov (.t 101), none⟩,
  ⟨some 102, .ext (.t 97) 0, none⟩,
  ⟨some 103, .ext (.t 97) 1, none⟩,
  ⟨some 10, .alloc [.nl 1, .nl 3], none⟩,
  ⟨some 11, .alloc [.nl 1, .nl 1], none⟩,
  ⟨none, .store 2 (.t 10) (.t 102), none⟩,
  ⟨none, .store 2 (.t 11) (.t 103), none⟩]
def c_l10_PushoutUnique_r9 (F : String → Nat) : List LI := [⟨some 105, .load true 10 (.t 5), none⟩,
  ⟨some 106, .load true 2 (.t 10), none⟩,
  ⟨some 107, .load true 2 (.t 7), none⟩,
  ⟨some 108, .load true 2 (.t 11), none⟩,
  ⟨some 109, .call (F "r06.Then") [.t 107, .t 108] [], none⟩,
  ⟨some 110, .load true 2 (.t 8), none⟩,
  ⟨some 111, .load true 2 (.t 11), none⟩,
  ⟨some 112, .call (F "r06.Then") [.t 110, .t 111] [], none⟩,
  ⟨some 113, .call (F "pushout.Mediate") [.t 105, .t 106, .t 109, .t 112] [], none⟩,
  ⟨some 104, .mov (.t 113), none⟩,
  ⟨some 114, .ext (.t 104) 0, none⟩,
  ⟨some 115, .ext (.t 104) 1, none⟩,
  ⟨some 12, .alloc [.nl 1, .nl 1], none⟩,
  ⟨none, .store 2 (.t 12) (.t 114), none⟩,
  ⟨some 13, .mov (.t 115), none⟩]
def c_l10_PushoutUnique_r10 (F : String → Nat) : List LI := [⟨some 116, .mov (.t 13), none⟩,
  ⟨some 117, .bin .neq (.t 116) (.k (.int .i64 (0))), none⟩,
  ⟨some 118, .mov (.t 117), none⟩,
  ⟨some 119, .load true 2 (.t 12), some (118, false)⟩,
  ⟨some 120, .load true 2 (.t 11), some (118, false)⟩,
  ⟨some 121, .call (F "r06.Same") [.t 119, .t 120] [], some (118, false)⟩,
  ⟨some 122, .not (.t 121), some (118, false)⟩,
  ⟨some 123, .pick (.t 118) (.k (.bool true)) (.t 122), none⟩,
  ⟨some 124, .mov (.t 123), none⟩,
  ⟨some 125, .fad 0 (.t 6), some (124, false)⟩,
  ⟨some 126, .load false 1 (.t 125), some (124, false)⟩,
  ⟨some 127, .len (.t 126), some (124, false)⟩,
  ⟨some 128, .bin .gtr (.t 127) (.k (.int .i64 (5))), some (124, false)⟩,
  ⟨some 129, .pick (.t 124) (.k (.bool true)) (.t 128), none⟩,
  ⟨some 130, .mov (.t 129), none⟩,
  ⟨some 131, .fad 1 (.t 6), some (130, false)⟩,
  ⟨some 132, .load false 1 (.t 131), some (130, false)⟩,
  ⟨some 133, .len (.t 132), some (130, false)⟩,
  ⟨some 134, .bin .gtr (.t 133) (.k (.int .i64 (6))), some (130, false)⟩,
  ⟨some 135, .pick (.t 130) (.k (.bool true)) (.t 134), none⟩]
def c_l10_PushoutUnique_r11 (F : String → Nat) : List LI := [⟨some 136, .mov (.t 13), none⟩,
  ⟨some 137, .bin .eql (.t 136) (.k (.int .i64 (0))), none⟩,
  ⟨some 138, .mov (.t 137), none⟩,
  ⟨some 139, .load true 2 (.t 12), some (138, true)⟩,
  ⟨some 140, .load true 2 (.t 11), some (138, true)⟩,
  ⟨some 141, .call (F "r06.Same") [.t 139, .t 140] [], some (138, true)⟩,
  ⟨some 142, .pick (.t 138) (.t 141) (.k (.bool false)), none⟩,
  ⟨some 4, .mov (.t 142), none⟩]
def c_l10_PushoutUnique_r12 (F : String → Nat) : List LI := [⟨some 144, .load true 2 (.t 6), none⟩,
  ⟨some 145, .load true 2 (.t 10), none⟩,
  ⟨some 146, .call (F "morphism.All") [.t 144, .t 145] [], none⟩,
  ⟨some 143, .mov (.t 146), none⟩,
  ⟨some 147, .ext (.t 143) 0, none⟩,
  ⟨some 148, .ext (.t 143) 1, none⟩,
  ⟨some 14, .mov (.t 147), none⟩,
  ⟨some 15, .mov (.t 148), none⟩]
def c_l10_PushoutUnique_r13 (F : String → Nat) : List LI := [⟨some 149, .mov (.t 15), none⟩,
  ⟨some 150, .bin .neq (.t 149) (.k (.int .i64 (0))), none⟩]
def c_l10_PushoutUnique_r14 (F : String → Nat) : List LI := [⟨some 151, .mov (.t 15), none⟩,
  ⟨some 152, .bin .eql (.t 151) (.k (.int .i64 (3))), none⟩,
  ⟨some 4, .mov (.t 152), none⟩]
def c_l10_PushoutUnique_r15 (F : String → Nat) : List LI := [⟨some 16, .mov (.k (.int .i64 (0))), none⟩]
def c_l10_PushoutUnique_r16 (F : String → Nat) : List LI := [⟨some 153, .mov (.t 14), none⟩,
  ⟨some 154, .len (.t 153), none⟩,
  ⟨some 155, .mov (.k (.int .i64 (0))), none⟩]
def c_l10_PushoutUnique_r17 (F : String → Nat) : List LI := [⟨some 156, .bin .lss (.t 155) (.t 154), none⟩]
def c_l10_PushoutUnique_r18 (F : String → Nat) : List LI := [⟨some 157, .iad 2 (.t 153) (.t 155), none⟩,
  ⟨some 158, .load true 2 (.t 157), none⟩,
  ⟨some 18, .alloc [.nl 1, .nl 1], none⟩,
  ⟨none, .store 2 (.t 18) (.t 158), none⟩]
def c_l10_PushoutUnique_r19 (F : String → Nat) : List LI := [⟨some 159, .load true 2 (.t 7), none⟩,
  ⟨some 160, .load true 2 (.t 18), none⟩,
  ⟨some 161, .call (F "r06.Then") [.t 159, .t 160] [], none⟩,
  ⟨some 162, .load true 2 (.t 7), none⟩,
  ⟨some 163, .load true 2 (.t 11), none⟩,
  ⟨some 164, .call (F "r06.Then") [.t 162, .t 163] [], none⟩,
  ⟨some 165, .call (F "r06.Same") [.t 161, .t 164] [], none⟩,
  ⟨some 166, .mov (.t 165), none⟩,
  ⟨some 167, .load true 2 (.t 8), some (166, true)⟩,
  ⟨some 168, .load true 2 (.t 18), some (166, true)⟩,
  ⟨some 169, .call (F "r06.Then") [.t 167, .t 168] [], some (166, true)⟩,
  ⟨some 170, .load true 2 (.t 8), some (166, true)⟩,
  ⟨some 171, .load true 2 (.t 11), some (166, true)⟩,
  ⟨some 172, .call (F "r06.Then") [.t 170, .t 171] [], some (166, true)⟩,
  ⟨some 173, .call (F "r06.Same") [.t 169, .t 172] [], some (166, true)⟩,
  ⟨some 174, .pick (.t 166) (.t 173) (.k (.bool false)), none⟩]
def c_l10_PushoutUnique_r20 (F : String → Nat) : List LI := [⟨some 175, .mov (.t 16), none⟩,
  ⟨some 176, .bin .add (.t 175) (.k (.int .i64 (1))), none⟩,
  ⟨some 16, .mov (.t 176), none⟩]
def c_l10_PushoutUnique_r21 (F : String → Nat) : List LI := [⟨some 177, .bin .add (.t 155) (.k (.int .i64 (1))), none⟩,
  ⟨some 155, .mov (.t 177), none⟩]
def c_l10_PushoutUnique_b22 (F : String → Nat) : LC := (.seq (.reg (c_l10_PushoutUnique_r17 F) [7, 8, 11, 16, 153, 154, 155, 156]) (.seq (.cond (.t 156) .skip (.exit 0)) (.seq (.block 1 (.seq (.reg (c_l10_PushoutUnique_r18 F) [7, 8, 11, 16, 18, 153, 154, 155]) (.seq (.dreg [(2, none, [], true), (3, (some 0), [2], false), (4, (some 0), [2], false), (10, none, [], true), (11, (some 255), [10], false), (12, (some 255), [10], false)] (c_l10_PushoutUnique_r19 F) [7, 8, 11, 16, 153, 154, 155, 174]) (.cond (.t 174) (.reg (c_l10_PushoutUnique_r20 F) [7, 8, 11, 16, 153, 154, 155]) .skip)))) (.reg (c_l10_PushoutUnique_r21 F) [7, 8, 11, 16, 153, 154, 155]))))
def c_l10_PushoutUnique_r23 (F : String → Nat) : List LI := [⟨some 178, .mov (.t 16), none⟩,
  ⟨some 179, .bin .eql (.t 178) (.k (.int .i64 (1))), none⟩,
  ⟨some 4, .mov (.t 179), none⟩]
def c_l10_PushoutUnique (F : String → Nat) : LC := (.seq (.reg (c_l10_PushoutUnique_r0 F) [2, 3]) (.seq (.seq (.reg (c_l10_PushoutUnique_r1 F) [2, 3, 38]) (.cond (.t 38) (.seq (.reg (c_l10_PushoutUnique_r2 F) [4]) .ret) .skip)) (.seq (.dreg [(13, none, [], true), (15, none, [13], false)] (c_l10_PushoutUnique_r3 F) [2, 3]) (.seq (.dreg [] (c_l10_PushoutUnique_r4 F) [3, 5]) (.seq (.reg (c_l10_PushoutUnique_r5 F) [3, 5, 6, 7, 8, 9]) (.seq (.seq (.reg (c_l10_PushoutUnique_r6 F) [3, 5, 6, 7, 8, 96]) (.cond (.t 96) (.seq (.reg (c_l10_PushoutUnique_r7 F) [4]) .ret) .skip)) (.seq (.reg (c_l10_PushoutUnique_r8 F) [5, 6, 7, 8, 10, 11]) (.seq (.dreg [(0, none, [], true), (1, none, [], true), (4, none, [0, 1], true), (5, (some 0), [4], false), (6, (some 0), [4], false), (7, none, [0, 1], false)] (c_l10_PushoutUnique_r9 F) [6, 7, 8, 10, 11, 12, 13]) (.seq (.seq (.reg (c_l10_PushoutUnique_r10 F) [6, 7, 8, 10, 11, 12, 13, 135]) (.cond (.t 135) (.seq (.reg (c_l10_PushoutUnique_r11 F) [4]) .ret) .skip)) (.seq (.reg (c_l10_PushoutUnique_r12 F) [7, 8, 11, 14, 15]) (.seq (.seq (.reg (c_l10_PushoutUnique_r13 F) [7, 8, 11, 14, 15, 150]) (.cond (.t 150) (.seq (.reg (c_l10_PushoutUnique_r14 F) [4]) .ret) .skip)) (.seq (.reg (c_l10_PushoutUnique_r15 F) [7, 8, 11, 14, 16]) (.seq (.seq (.reg (c_l10_PushoutUnique_r16 F) [7, 8, 11, 16, 153, 154, 155]) (.block 0 (.loop [7, 8, 11, 16, 153, 154, 155] (c_l10_PushoutUnique_b22 F)))) (.seq (.reg (c_l10_PushoutUnique_r23 F) [4]) .ret))))))))))))))
def h_l10_PushoutUnique : Hints := ⟨[], fun _ => [], tab [(0, [2, 3]), (1, [2, 3, 38]), (2, [4]), (3, [2, 3]), (4, [3, 5]), (5, [3, 5, 6, 7, 8, 9]), (6, [3, 5, 6, 7, 8, 96]), (7, [4]), (8, [5, 6, 7, 8, 10, 11]), (9, [6, 7, 8, 10, 11, 12, 13]), (10, [6, 7, 8, 10, 11, 12, 13, 135]), (11, [4]), (12, [7, 8, 11, 14, 15]), (13, [7, 8, 11, 14, 15, 150]), (14, [4]), (15, [7, 8, 11, 14, 16]), (16, [7, 8, 11, 16, 153, 154, 155]), (17, [7, 8, 11, 16, 153, 154, 155, 156]), (18, [7, 8, 11, 16, 18, 153, 154, 155]), (19, [7, 8, 11, 16, 153, 154, 155, 174]), (20, [7, 8, 11, 16, 153, 154, 155]), (21, [7, 8, 11, 16, 153, 154, 155]), (22, [4])], tab [(17, [7, 8, 11, 16, 153, 154, 155])]⟩

attribute [go_sem] c_l10_PushoutUnique_r0 c_l10_PushoutUnique_r1 c_l10_PushoutUnique_r2 c_l10_PushoutUnique_r3 c_l10_PushoutUnique_r4 c_l10_PushoutUnique_r5 c_l10_PushoutUnique_r6 c_l10_PushoutUnique_r7 c_l10_PushoutUnique_r8 c_l10_PushoutUnique_r9 c_l10_PushoutUnique_r10 c_l10_PushoutUnique_r11 c_l10_PushoutUnique_r12 c_l10_PushoutUnique_r13 c_l10_PushoutUnique_r14 c_l10_PushoutUnique_r15 c_l10_PushoutUnique_r16 c_l10_PushoutUnique_r17 c_l10_PushoutUnique_r18 c_l10_PushoutUnique_r19 c_l10_PushoutUnique_r20 c_l10_PushoutUnique_r21 c_l10_PushoutUnique_r23 c_l10_PushoutUnique
theorem u8s_take {l : List Int} {n : Nat} : (u8s l).take n = u8s (l.take n) := by simp [u8s, List.map_take]
theorem trs_take {l : List E} {n : Nat} : (trs l).take n = trs (l.take n) := by simp [trs, List.map_take]
theorem pts_atU {l : List Mo} {i : Nat} (h : i < l.length) : (pts l)[i]? = some (.agg [.lst 1 (ints (gt l i).n), .lst 1 (ints (gt l i).e)]) := by
  rw [gt_nat h]; simp [pts, h, mD]
attribute [go_sem] u8s_take trs_take
section
variable (P : Program) (F : String → Nat)
def K_l10_PushoutUnique : Prop := ∀ (d : Dr) (b c m : List Int), d.ok → d.n.length ≤ maxL → d.e.length ≤ maxL → Bts b → Bts c → Bts m → FC P (F "l10.PushoutUnique") [drD d, .agg [.lst 1 (u8s b), .lst 1 (u8s c), .lst 1 (u8s m)]] (.bool true) []
end
section
variable {P : Program} {F : String → Nat} {α : Type}
theorem cnt_takeU {p : Mo → Bool} {l : List Mo} {i : Nat} (h : i < l.length) : ((l.take (i + 1)).filter p).length = ((l.take i).filter p).length + if p (gt l i) = true then 1 else 0 := by
  rw [take_gt h, List.filter_append, List.length_append]
  cases hp : p (gt l i) <;> simp [List.filter, hp]
def cutD (d : Dr) : Dr := ⟨d.n.take (min d.n.length 2), d.e.take (min d.e.length 2)⟩
theorem cut_ok {d : Dr} (h : d.ok) : (cutD d).ok := ⟨fun v hv => h.1 v (List.mem_of_mem_take hv), fun v hv => h.2 v (List.mem_of_mem_take hv)⟩
theorem minI_eq (n : Nat) (k : Nat) : (if (k : Int) < (n : Int) then (k : Int) else (n : Int)) = ((min n k : Nat) : Int) := by split <;> omega
set_option maxHeartbeats 4000000 in
set_option maxRecDepth 100000 in
theorem w_l10_PushoutUnique (hw : K_l10_awake P F) (hm : K_r10_Made P F) (ho : K_pushout_Of P F) (hv : K_morphism_Valid P F) (hg : K_r10_Grown P F) (ht : K_r06_Then P F) (hme : K_pushout_Mediate P F) (hsa : K_r06_Same P F) (hal : K_morphism_All P F) (d : Dr) (b c m : List Int) (hd : d.ok) (d1 : d.n.length ≤ maxL) (d2 : d.e.length ≤ maxL) (hb : Bts b) (hc : Bts c) (hm' : Bts m) :
    W P (c_l10_PushoutUnique F) (Done [.t 4] [] (.bool true) []) (init [drD d, .agg [.lst 1 (u8s b), .lst 1 (u8s c), .lst 1 (u8s m)]]) := by
  refine W_of ?_
  obtain ⟨hb1, hb2⟩ := hb
  obtain ⟨hc1, hc2⟩ := hc
  obtain ⟨hm1, hm2⟩ := hm'
  unfold maxL at hb2 hc2 hm2
  by_cases a1 : b.length ≤ 10
  · have e1 : decide ((10 : Int) < b.length) = false := decide_eq_false (by omega)
    by_cases a2 : c.length ≤ 10
    · have e2 : decide ((10 : Int) < c.length) = false := decide_eq_false (by omega)
      by_cases a3 : m.length ≤ 10
      · have e3 : decide ((10 : Int) < m.length) = false := decide_eq_false (by omega)
        have hbt : ∀ v ∈ b.take (min b.length 5), Byte v := fun v hv => hb1 v (List.mem_of_mem_take hv)
        have hct : ∀ v ∈ c.take (min c.length 5), Byte v := fun v hv => hc1 v (List.mem_of_mem_take hv)
        have r1 := hm (cutD d) _ _ (cut_ok hd) (by simp [cutD, maxL]; omega) (by simp [cutD, maxL]; omega) (by simp; omega) hbt (by simp; omega) hct
        obtain ⟨hs, z1, z2, z3, z4⟩ := made_ok (cut_ok hd) hbt hct
        have hdt : drD (cutD d) = .agg [.lst 1 (u8s (d.n.take (min d.n.length 2))), .lst 3 (trs (d.e.take (min d.e.length 2)))] := rfl
        rw [hdt] at r1
        clear hdt
        generalize madeSp (cutD d) (b.take (min b.length 5)) (c.take (min c.length 5)) = s at *
        obtain ⟨p1, p2⟩ := po_len hs
        have r2 := ho s
        rw [poR_ok hs] at r2
        have r3 := hv s.b (poG s) (poP s)
        rw [mok.2 hs.p] at r3
        have r4 := hv s.c (poG s) (poK s)
        rw [mok.2 hs.k] at r4
        have r5 := hg (poG s) m hs.p.vb (by omega) hm1
        obtain ⟨hx, x1, x2⟩ := gr_ok hs.p.vb hm1 (by omega) (by omega)
        generalize grM (poG s) m = u at *
        generalize grG (poG s) m = x at *
        have bp := validM_bd (mok.2 hs.p)
        have bk := validM_bd (mok.2 hs.k)
        have y1 := hs.p.ln
        have y2 := hs.p.le
        have y3 := hs.k.ln
        have y4 := hs.k.le
        have hT : ∀ v, MOk (poG s) x v → FC P (F "r06.Then") [mD (poP s), mD v] (mA (thenM (poP s) v)) [] ∧ FC P (F "r06.Then") [mD (poK s), mD v] (mA (thenM (poK s) v)) [] := fun v hv =>
          ⟨ht (poP s) v (by omega) (by omega) (by rw [hv.ln]; exact bp.1) (by rw [hv.le]; exact bp.2), ht (poK s) v (by omega) (by omega) (by rw [hv.ln]; exact bk.1) (by rw [hv.le]; exact bk.2)⟩
        have tl : ∀ v, (thenM (poP s) v).n.length ≤ maxL ∧ (thenM (poP s) v).e.length ≤ maxL ∧ (thenM (poK s) v).n.length ≤ maxL ∧ (thenM (poK s) v).e.length ≤ maxL := fun v => by
          simp only [thenM, thr_len]; unfold maxL; omega
        obtain ⟨r6, r7⟩ := hT u hx
        have r8 := hme s x (thenM (poP s) u) (thenM (poK s) u)
        have e : cocE s x (thenM (poP s) u) (thenM (poK s) u) = 0 := cocE_ok.2 ⟨hs, then_okP hs.p hx, then_okP hs.k hx, by rw [← then_assoc hs.f hs.p, ← then_assoc hs.g hs.k, hs.comm]⟩
        rw [coc_ok e, hs.medU hx] at r8
        have y5 := hx.ln
        have y6 := hx.le
        have r9 := hsa u u (by unfold maxL; omega) (by unfold maxL; omega)
        rw [decide_eq_true rfl] at r9
        have ra := hal (poG s) x
        have hsm := allErr_small (a := poG s) (b := x) hs.p.vb hx.vb
        have hlen := allM_len (poG s) x
        have hcn : allErr (poG s) x = 0 → ((allM (poG s) x).filter fun v => decide (thenM (poP s) v = thenM (poP s) u) && decide (thenM (poK s) v = thenM (poK s) u)).length = 1 := fun h =>
          one_of (allM_nodup _ _) (allM_has hx h) fun v hv => by
            have hv := mok.1 (allM_ok hv)
            simp only [Bool.and_eq_true, decide_eq_true_eq]
            exact ⟨fun h => hs.one hv hx h.1 h.2, fun h => by rw [h]; exact ⟨rfl, rfl⟩⟩
        have hall : ∀ i : Nat, i < (allM (poG s) x).length → MOk (poG s) x (gt (allM (poG s) x) i) := fun i hi => mok.1 (allM_ok (gt_mem (by omega) (by omega)))
        generalize allM (poG s) x = l at *
        generalize allErr (poG s) x = er at *
        have hct' : ∀ i : Nat, i < l.length → ((l.take (i + 1)).filter fun v => decide (thenM (poP s) v = thenM (poP s) u) && decide (thenM (poK s) v = thenM (poK s) u)).length = ((l.take i).filter fun v => decide (thenM (poP s) v = thenM (poP s) u) && decide (thenM (poK s) v = thenM (poK s) u)).length + if (decide (thenM (poP s) (gt l i) = thenM (poP s) u) && decide (thenM (poK s) (gt l i) = thenM (poK s) u)) = true then 1 else 0 := fun i hi => cnt_takeU (p := fun v => decide (thenM (poP s) v = thenM (poP s) u) && decide (thenM (poK s) v = thenM (poK s) u)) hi
        have hcl : ∀ i : Nat, ((l.take i).filter fun v => decide (thenM (poP s) v = thenM (poP s) u) && decide (thenM (poK s) v = thenM (poK s) u)).length ≤ 2001 := fun i => Nat.le_trans (List.length_filter_le _ _) (by simp; omega)
        have hc0 : ((l.take 0).filter fun v => decide (thenM (poP s) v = thenM (poP s) u) && decide (thenM (poK s) v = thenM (poK s) u)).length = 0 := by simp
        have hcn : er = 0 → ((l.take l.length).filter fun v => decide (thenM (poP s) v = thenM (poP s) u) && decide (thenM (poK s) v = thenM (poK s) u)).length = 1 := fun h => by rw [List.take_length]; exact hcn h
        have tl1 : ∀ i : Nat, i < l.length → ∃ a b : Mo, FC P (F "r06.Then") [mD (poP s), mD (gt l i)] (mA a) [] ∧ FC P (F "r06.Then") [mD (poK s), mD (gt l i)] (mA b) [] ∧ FC P (F "r06.Same") [mD a, mD (thenM (poP s) u)] (.bool (decide (a = thenM (poP s) u))) [] ∧ FC P (F "r06.Same") [mD b, mD (thenM (poK s) u)] (.bool (decide (b = thenM (poK s) u))) [] ∧
            ((l.take (i + 1)).filter fun v => decide (thenM (poP s) v = thenM (poP s) u) && decide (thenM (poK s) v = thenM (poK s) u)).length = ((l.take i).filter fun v => decide (thenM (poP s) v = thenM (poP s) u) && decide (thenM (poK s) v = thenM (poK s) u)).length + if (decide (a = thenM (poP s) u) && decide (b = thenM (poK s) u)) = true then 1 else 0 := fun i hi =>
          ⟨_, _, (hT _ (hall i hi)).1, (hT _ (hall i hi)).2, hsa _ _ (tl _).1 (tl _).2.1, hsa _ _ (tl _).2.2.1 (tl _).2.2.2, hct' i hi⟩
        generalize hcc : (fun i : Nat => ((l.take i).filter fun v => decide (thenM (poP s) v = thenM (poP s) u) && decide (thenM (poK s) v = thenM (poK s) u)).length) = cc at *
        have hcc' : ∀ i, ((l.take i).filter fun v => decide (thenM (poP s) v = thenM (poP s) u) && decide (thenM (poK s) v = thenM (poK s) u)).length = cc i := fun i => by rw [← hcc]
        simp only [hcc'] at hcl hc0 hcn tl1
        have hpl := pts_length l
        clear hcc' hcc hct' hall hT tl e bp bk hs hx hm ho hv hg ht hme hsa hal x1 x2 y5 y6
        generalize thenM (poP s) u = t1 at *
        generalize thenM (poK s) u = t2 at *
        generalize poG s = p at *
        generalize poP s = h at *
        generalize poK s = k at *
        obtain ⟨pn, pe⟩ := p
        obtain ⟨hn, he⟩ := h
        obtain ⟨kn, ke⟩ := k
        obtain ⟨xn, xe⟩ := x
        obtain ⟨un, ue⟩ := u
        obtain ⟨t1n, t1e⟩ := t1
        obtain ⟨t2n, t2e⟩ := t2
        have m1 := minI_eq d.n.length 2
        have m2 := minI_eq d.e.length 2
        have m3 := minI_eq b.length 5
        have m4 := minI_eq c.length 5
        simp only [gD, gA, mD, mA, spD, spA, poD, drD, Int.cast_ofNat_Int] at *
        simp (config := { maxSteps := 1000000 }) (disch := first | omega | (simp only [go_sem]; omega)) only [go_sem, ↓reduceIte]
        refine call_by hw ?_
        simp (config := { maxSteps := 1000000 }) (disch := first | omega | (simp only [go_sem]; omega)) only [go_sem, ↓reduceIte, e1, e2, e3, m1, m2, m3, m4]
        refine call_by r1 ?_
        simp (config := { maxSteps := 1000000 }) (disch := first | omega | (simp only [go_sem]; omega)) only [go_sem, ↓reduceIte]
        refine call_by r2 ?_
        simp (config := { maxSteps := 1000000 }) (disch := first | omega | (simp only [go_sem]; omega)) only [go_sem, ↓reduceIte]
        refine call_by r3 ?_
        simp (config := { maxSteps := 1000000 }) (disch := first | omega | (simp only [go_sem]; omega)) only [go_sem, ↓reduceIte]
        refine call_by r4 ?_
        simp (config := { maxSteps := 1000000 }) (disch := first | omega | (simp only [go_sem]; omega)) only [go_sem, ↓reduceIte]
        refine call_by r5 ?_
        simp (config := { maxSteps := 1000000 }) (disch := first | omega | (simp only [go_sem]; omega)) only [go_sem, ↓reduceIte]
        refine call_by r6 ?_
        simp (config := { maxSteps := 1000000 }) (disch := first | omega | (simp only [go_sem]; omega)) only [go_sem, ↓reduceIte]
        refine call_by r7 ?_
        simp (config := { maxSteps := 1000000 }) (disch := first | omega | (simp only [go_sem]; omega)) only [go_sem, ↓reduceIte]
        refine call_by r8 ?_
        simp (config := { maxSteps := 1000000 }) (disch := first | omega | (simp only [go_sem]; omega)) only [go_sem, ↓reduceIte]
        by_cases f1 : pn.length ≤ 5
        · have f1' : decide ((5 : Int) < pn.length) = false := decide_eq_false (by omega)
          by_cases f2 : pe.length ≤ 6
          · have f2' : decide ((6 : Int) < pe.length) = false := decide_eq_false (by omega)
            refine call_by r9 ?_
            simp (config := { maxSteps := 1000000 }) (disch := first | omega | (simp only [go_sem]; omega)) only [go_sem, ↓reduceIte, f1', f2']
            refine call_by ra ?_
            rcases hsm with rfl | rfl
            · have hcn := hcn rfl
              cases hfl : (pts l).all D.flatE
              all_goals
                simp (config := { maxSteps := 1000000 }) (disch := first | omega | (simp only [go_sem]; omega)) only [go_sem, ↓reduceIte, hfl]
                refine W_loop (fun i : Nat => ⟨[(7, .pt 2 0), (8, .pt 5 0), (11, .pt 8 0), (16, .int .i64 (cc i)), (153, .sl 9 0 l.length), (154, .int .i64 l.length), (155, .int .i64 i)],
                  [(0, .arr 1 (ints hn)), (1, .arr 1 (ints he)), (2, .box [.sl 0 0 hn.length, .sl 1 0 he.length]), (3, .arr 1 (ints kn)), (4, .arr 1 (ints ke)), (5, .box [.sl 3 0 kn.length, .sl 4 0 ke.length]),
                   (6, .arr 1 (ints un)), (7, .arr 1 (ints ue)), (8, .box [.sl 6 0 un.length, .sl 7 0 ue.length]), (9, .arr 2 (pts l))], 10⟩) (fun i => i ≤ l.length) (fun i => l.length - i) 0 ?_ ?_ ?_
                · simp (config := { maxSteps := 1000000 }) (disch := first | omega | (simp only [go_sem]; omega)) only [go_sem, ↓reduceIte, hpl, hc0]
                  rfl
                · omega
                · intro i hi
                  have hci := hcl i
                  simp (config := { maxSteps := 1000000 }) (disch := first | omega | (simp only [go_sem]; omega)) only [go_sem, ↓reduceIte, c_l10_PushoutUnique_b22]
                  refine bran_dec (fun f => ?_) (fun f => ?_)
                  · have q := pts_atU (l := l) (i := i) (by omega)
                    obtain ⟨⟨an, ae⟩, ⟨bn', be'⟩, q1, q2, q3, q4, q5⟩ := tl1 i (by omega)
                    generalize decide ((⟨an, ae⟩ : Mo) = ⟨t1n, t1e⟩) = b1 at *
                    generalize decide ((⟨bn', be'⟩ : Mo) = ⟨t2n, t2e⟩) = b2 at *
                    simp only at q1 q2 q3 q4
                    simp (config := { maxSteps := 1000000 }) (disch := first | omega | (simp only [go_sem]; omega)) only [go_sem, ↓reduceIte, q]
                    refine call_by q1 ?_
                    simp (config := { maxSteps := 1000000 }) (disch := first | omega | (simp only [go_sem]; omega)) only [go_sem, ↓reduceIte]
                    refine call_by r6 ?_
                    simp (config := { maxSteps := 1000000 }) (disch := first | omega | (simp only [go_sem]; omega)) only [go_sem, ↓reduceIte]
                    refine call_by q3 ?_
                    cases b1
                    · simp (config := { maxSteps := 1000000 }) (disch := first | omega | (simp only [go_sem]; omega)) only [go_sem, ↓reduceIte]
                      exact ⟨i + 1, by simp [q5], by omega, by omega⟩
                    · simp (config := { maxSteps := 1000000 }) (disch := first | omega | (simp only [go_sem]; omega)) only [go_sem, ↓reduceIte]
                      refine call_by q2 ?_
                      simp (config := { maxSteps := 1000000 }) (disch := first | omega | (simp only [go_sem]; omega)) only [go_sem, ↓reduceIte]
                      refine call_by r7 ?_
                      simp (config := { maxSteps := 1000000 }) (disch := first | omega | (simp only [go_sem]; omega)) only [go_sem, ↓reduceIte]
                      refine call_by q4 ?_
                      cases b2
                      · simp (config := { maxSteps := 1000000 }) (disch := first | omega | (simp only [go_sem]; omega)) only [go_sem, ↓reduceIte]
                        exact ⟨i + 1, by simp [q5], by omega, by omega⟩
                      · simp (config := { maxSteps := 1000000 }) (disch := first | omega | (simp only [go_sem]; omega)) only [go_sem, ↓reduceIte]
                        exact ⟨i + 1, by simp [q5], by omega, by omega⟩
                  · obtain rfl : i = l.length := by omega
                    simp (config := { maxSteps := 1000000 }) (disch := first | omega | (simp only [go_sem]; omega)) only [go_sem, ↓reduceIte, hcn]
                    all_goals (try simp)
                    all_goals omega
            · cases hfl : (pts l).all D.flatE
              all_goals
                simp (config := { maxSteps := 1000000 }) (disch := first | omega | (simp only [go_sem]; omega)) only [go_sem, ↓reduceIte, hfl]
                refine bran_ndec (fun _ => ?_) (fun h => absurd h (by omega))
                simp (config := { maxSteps := 1000000 }) (disch := first | omega | (simp only [go_sem]; omega)) only [go_sem, ↓reduceIte]
                try simp
          · have f2' : decide ((6 : Int) < pe.length) = true := decide_eq_true (by omega)
            refine call_by r9 ?_
            simp (config := { maxSteps := 1000000 }) (disch := first | omega | (simp only [go_sem]; omega)) only [go_sem, ↓reduceIte, f1', f2']
            refine call_by r9 ?_
            simp (config := { maxSteps := 1000000 }) (disch := first | omega | (simp only [go_sem]; omega)) only [go_sem, ↓reduceIte]
        · have f1' : decide ((5 : Int) < pn.length) = true := decide_eq_true (by omega)
          refine call_by r9 ?_
          simp (config := { maxSteps := 1000000 }) (disch := first | omega | (simp only [go_sem]; omega)) only [go_sem, ↓reduceIte, f1']
          refine call_by r9 ?_
          simp (config := { maxSteps := 1000000 }) (disch := first | omega | (simp only [go_sem]; omega)) only [go_sem, ↓reduceIte]
      · have e3 : decide ((10 : Int) < m.length) = true := decide_eq_true (by omega)
        simp only [drD] at *
        simp (config := { maxSteps := 1000000 }) (disch := first | omega | (simp only [go_sem]; omega)) only [go_sem, ↓reduceIte]
        refine call_by hw ?_
        simp (config := { maxSteps := 1000000 }) (disch := first | omega | (simp only [go_sem]; omega)) only [go_sem, ↓reduceIte, e1, e2, e3]
        refine call_by hw ?_
        simp (config := { maxSteps := 1000000 }) (disch := first | omega | (simp only [go_sem]; omega)) only [go_sem, ↓reduceIte]
    · have e2 : decide ((10 : Int) < c.length) = true := decide_eq_true (by omega)
      simp only [drD] at *
      simp (config := { maxSteps := 1000000 }) (disch := first | omega | (simp only [go_sem]; omega)) only [go_sem, ↓reduceIte]
      refine call_by hw ?_
      simp (config := { maxSteps := 1000000 }) (disch := first | omega | (simp only [go_sem]; omega)) only [go_sem, ↓reduceIte, e1, e2]
      refine call_by hw ?_
      simp (config := { maxSteps := 1000000 }) (disch := first | omega | (simp only [go_sem]; omega)) only [go_sem, ↓reduceIte]
  · have e1 : decide ((10 : Int) < b.length) = true := decide_eq_true (by omega)
    simp only [drD] at *
    simp (config := { maxSteps := 1000000 }) (disch := first | omega | (simp only [go_sem]; omega)) only [go_sem, ↓reduceIte]
    refine call_by hw ?_
    simp (config := { maxSteps := 1000000 }) (disch := first | omega | (simp only [go_sem]; omega)) only [go_sem, ↓reduceIte, e1]
    refine call_by hw ?_
    simp (config := { maxSteps := 1000000 }) (disch := first | omega | (simp only [go_sem]; omega)) only [go_sem, ↓reduceIte]
def shU83 : Sh := .cat [shU8s, shU8s, shU8s]
theorem rd_u83 {x : D} (h : HasEl shU83 x) : ∃ b c m : List Int, x = .agg [.lst 1 (u8s b), .lst 1 (u8s c), .lst 1 (u8s m)] ∧ Bts b ∧ Bts c ∧ Bts m := by
  simp only [shU83, HasEl] at h
  obtain ⟨ds, rfl, h⟩ := h
  obtain ⟨_, _, rfl, h1, h⟩ := hasShs_slc h
  obtain ⟨_, _, rfl, h2, h⟩ := hasShs_slc h
  obtain ⟨_, _, rfl, h3, h⟩ := hasShs_slc h
  obtain rfl := hasShs_nil h
  obtain ⟨b, rfl, b1, b2⟩ := rd_u8s h1
  obtain ⟨c, rfl, c1, c2⟩ := rd_u8s h2
  obtain ⟨m, rfl, m1, m2⟩ := rd_u8s h3
  exact ⟨b, c, m, rfl, ⟨b1, b2⟩, ⟨c1, c2⟩, ⟨m1, m2⟩⟩
theorem x_l10_PushoutUnique (h : K_l10_PushoutUnique P F) (args : List D) (ha : HasEls [shDr, shU83] args) : FC P (F "l10.PushoutUnique") args (.bool true) [] := by
  simp only [HasEls] at ha
  obtain ⟨_, _, rfl, h1, _, _, rfl, h2, rfl⟩ := ha
  obtain ⟨x, rfl, a1, a2, a3⟩ := rd_draft h1
  obtain ⟨b, c, m, rfl, hb, hc, hm⟩ := rd_u83 h2
  exact h x b c m a1 a2 a3 hb hc hm
end
end Go.Am
