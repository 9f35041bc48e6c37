/- The laws of chapter 5: the example, Remove. -/
import Derived.Test.YtfkkngepnnkloaaSjF
namespace Go.Am
open Go
set_option linter.unusedVariables false
set_option linter.unusedSimpArgs false
/- l05.example -/
def c_l05_example_r0 (F : String → Nat) : List LI := [⟨some 0, .alloc [.nl 1, .nl 3], none⟩]
def c_l05_example_r1 (F : String → Nat) : List LI := [⟨some 1, .buildSl 1 8 (.int .i64 (0)) 3 [(0, .k (.int .i64 (3))), (1, .k (.int .i64 (1))), (2, .k (.int .i64 (1)))], none⟩,
  ⟨some 2, .build [.int .i64 (0), .int .i64 (0), .int .i64 (0)] [(0, 1, .k (.int .i64 (0))), (1, 1, .k (.int .i64 (0))), (2, 1, .k (.int .i64 (1)))], none⟩,
  ⟨some 3, .build [.int .i64 (0), .int .i64 (0), .int .i64 (0)] [(0, 1, .k (.int .i64 (0))), (1, 1, .k (.int .i64 (0))), (2, 1, .k (.int .i64 (2)))], none⟩,
  ⟨some 4, .buildSl 3 24 (.agg [.int .i64 (0), .int .i64 (0), .int .i64 (0)]) 2 [(0, .t 2), (1, .t 3)], none⟩,
  ⟨some 5, .build [.nl 1, .nl 3] [(0, 1, .t 1), (1, 1, .t 4)], none⟩,
  ⟨none, .store 2 (.t 0) (.t 5), none⟩]
def c_l05_example (F : String → Nat) : LC := (.seq (.reg (c_l05_example_r0 F) [0]) (.seq (.reg (c_l05_example_r1 F) [0]) .ret))
def h_l05_example : Hints := ⟨[], fun _ => [], tab [(0, [0]), (1, [0])], tab []⟩

/- l05.awake -/
def c_l05_awake_r0 (F : String → Nat) : List LI := [⟨some 0, .mov (.k (.bool false)), none⟩]
def c_l05_awake_r1 (F : String → Nat) : List LI := [⟨some 10, .call (F "l05.example") [] [], none⟩,
  ⟨some 11, .buildSl 1 8 (.int .i64 (0)) 1 [(0, .k (.int .i64 (1)))], none⟩,
  ⟨some 12, .buildSl 1 8 (.int .i64 (0)) 1 [(0, .k (.int .i64 (0)))], none⟩,
  ⟨some 13, .call (F "graph.Remove") [.t 10, .t 11, .t 12] [], none⟩,
  ⟨some 9, .mov (.t 13), none⟩,
  ⟨some 14, .ext (.t 9) 0, none⟩,
  ⟨some 15, .ext (.t 9) 1, none⟩,
  ⟨some 16, .ext (.t 9) 2, none⟩,
  ⟨some 1, .alloc [.nl 1, .nl 3], none⟩,
  ⟨some 2, .alloc [.nl 1, .nl 1], none⟩,
  ⟨none, .store 2 (.t 1) (.t 14), none⟩,
  ⟨none, .store 2 (.t 2) (.t 15), none⟩,
  ⟨some 3, .mov (.t 16), none⟩]
def c_l05_awake_r2 (F : String → Nat) : List LI := [⟨some 18, .call (F "l05.example") [] [], none⟩,
  ⟨some 19, .buildSl 1 8 (.int .i64 (0)) 1 [(0, .k (.int .i64 (1)))], none⟩,
  ⟨some 20, .call (F "graph.Remove") [.t 18, .t 19, .k (.nl 0)] [], none⟩,
  ⟨some 17, .mov (.t 20), none⟩,
  ⟨some 21, .ext (.t 17) 0, none⟩,
  ⟨some 22, .ext (.t 17) 1, none⟩,
  ⟨some 23, .ext (.t 17) 2, none⟩,
  ⟨some 4, .alloc [.nl 1, .nl 3], none⟩,
  ⟨some 5, .alloc [.nl 1, .nl 1], none⟩,
  ⟨none, .store 2 (.t 4) (.t 21), none⟩,
  ⟨none, .store 2 (.t 5) (.t 22), none⟩,
  ⟨some 6, .mov (.t 23), none⟩]
def c_l05_awake_r3 (F : String → Nat) : List LI := [⟨some 25, .call (F "l05.example") [] [], none⟩,
  ⟨some 26, .call (F "graph.Components") [.t 25] [], none⟩,
  ⟨some 24, .mov (.t 26), none⟩,
  ⟨some 27, .ext (.t 24) 0, none⟩,
  ⟨some 28, .ext (.t 24) 1, none⟩,
  ⟨some 7, .mov (.t 27), none⟩,
  ⟨some 8, .mov (.t 28), none⟩]
def c_l05_awake_r4 (F : String → Nat) : List LI := [⟨some 29, .mov (.t 3), none⟩,
  ⟨some 30, .bin .eql (.t 29) (.k (.int .i64 (0))), none⟩,
  ⟨some 31, .mov (.t 30), none⟩,
  ⟨some 32, .load true 2 (.t 1), some (31, true)⟩,
  ⟨some 33, .buildSl 1 8 (.int .i64 (0)) 2 [(0, .k (.int .i64 (3))), (1, .k (.int .i64 (1)))], some (31, true)⟩,
  ⟨some 34, .build [.int .i64 (0), .int .i64 (0), .int .i64 (0)] [(0, 1, .k (.int .i64 (0))), (1, 1, .k (.int .i64 (0))), (2, 1, .k (.int .i64 (1)))], some (31, true)⟩,
  ⟨some 35, .buildSl 3 24 (.agg [.int .i64 (0), .int .i64 (0), .int .i64 (0)]) 1 [(0, .t 34)], some (31, true)⟩,
  ⟨some 36, .build [.nl 1, .nl 3] [(0, 1, .t 33), (1, 1, .t 35)], some (31, true)⟩,
  ⟨some 37, .call (F "r05.Same") [.t 32, .t 36] [], some (31, true)⟩,
  ⟨some 38, .pick (.t 31) (.t 37) (.k (.bool false)), none⟩,
  ⟨some 39, .mov (.t 38), none⟩,
  ⟨some 40, .fad 0 (.t 2), some (39, true)⟩,
  ⟨some 41, .load false 1 (.t 40), some (39, true)⟩,
  ⟨some 42, .buildSl 1 8 (.int .i64 (0)) 3 [(0, .k (.int .i64 (0))), (1, .k (.int .i64 (-1))), (2, .k (.int .i64 (1)))], some (39, true)⟩,
  ⟨some 43, .call (F "slices.Equal.I") [.t 41, .t 42] [], some (39, true)⟩,
  ⟨some 44, .pick (.t 39) (.t 43) (.k (.bool false)), none⟩,
  ⟨some 45, .mov (.t 44), none⟩,
  ⟨some 46, .fad 1 (.t 2), some (45, true)⟩,
  ⟨some 47, .load false 1 (.t 46), some (45, true)⟩,
  ⟨some 48, .buildSl 1 8 (.int .i64 (0)) 2 [(0, .k (.int .i64 (-1))), (1, .k (.int .i64 (0)))], some (45, true)⟩,
  ⟨some 49, .call (F "slices.Equal.I") [.t 47, .t 48] [], some (45, true)⟩,
  ⟨some 50, .pick (.t 45) (.t 49) (.k (.bool false)), none⟩,
  ⟨some 51, .mov (.t 50), none⟩,
  ⟨some 52, .mov (.t 6), some (51, true)⟩,
  ⟨some 53, .bin .eql (.t 52) (.k (.int .i64 (14))), some (51, true)⟩,
  ⟨some 54, .pick (.t 51) (.t 53) (.k (.bool false)), none⟩,
  ⟨some 55, .mov (.t 54), none⟩,
  ⟨some 56, .mov (.t 8), some (55, true)⟩,
  ⟨some 57, .bin .eql (.t 56) (.k (.int .i64 (0))), some (55, true)⟩,
  ⟨some 58, .pick (.t 55) (.t 57) (.k (.bool false)), none⟩,
  ⟨some 59, .mov (.t 58), none⟩,
  ⟨some 60, .mov (.t 7), some (59, true)⟩,
  ⟨some 61, .len (.t 60), some (59, true)⟩,
  ⟨some 62, .bin .eql (.t 61) (.k (.int .i64 (1))), some (59, true)⟩,
  ⟨some 63, .pick (.t 59) (.t 62) (.k (.bool false)), none⟩,
  ⟨some 0, .mov (.t 63), none⟩]
def c_l05_awake (F : String → Nat) : LC := (.seq (.reg (c_l05_awake_r0 F) []) (.seq (.reg (c_l05_awake_r1 F) [1, 2, 3]) (.seq (.reg (c_l05_awake_r2 F) [1, 2, 3, 6]) (.seq (.reg (c_l05_awake_r3 F) [1, 2, 3, 6, 7, 8]) (.seq (.reg (c_l05_awake_r4 F) [0]) .ret)))))
def h_l05_awake : Hints := ⟨[], fun _ => [], tab [(0, []), (1, [1, 2, 3]), (2, [1, 2, 3, 6]), (3, [1, 2, 3, 6, 7, 8]), (4, [0])], tab []⟩

/- l05.GraphRemove -/
def c_l05_GraphRemove_r0 (F : String → Nat) : List LI := [⟨some 3, .bx (.t 0), none⟩,
  ⟨some 6, .mov (.k (.bool false)), none⟩]
def c_l05_GraphRemove_r1 (F : String → Nat) : List LI := [⟨some 18, .call (F "l05.awake") [] [], none⟩,
  ⟨some 19, .not (.t 18), none⟩,
  ⟨some 20, .mov (.t 19), none⟩,
  ⟨some 21, .load true 2 (.t 3), some (20, false)⟩,
  ⟨some 22, .call (F "r05.Few") [.t 21] [], some (20, false)⟩,
  ⟨some 23, .not (.t 22), some (20, false)⟩,
  ⟨some 24, .pick (.t 20) (.k (.bool true)) (.t 23), none⟩,
  ⟨some 25, .mov (.t 24), none⟩,
  ⟨some 26, .mov (.t 1), some (25, false)⟩,
  ⟨some 27, .len (.t 26), some (25, false)⟩,
  ⟨some 28, .bin .gtr (.t 27) (.k (.int .i64 (100))), some (25, false)⟩,
  ⟨some 29, .pick (.t 25) (.k (.bool true)) (.t 28), none⟩,
  ⟨some 30, .mov (.t 29), none⟩,
  ⟨some 31, .mov (.t 2), some (30, false)⟩,
  ⟨some 32, .len (.t 31), some (30, false)⟩,
  ⟨some 33, .bin .gtr (.t 32) (.k (.int .i64 (100))), some (30, false)⟩,
  ⟨some 34, .pick (.t 30) (.k (.bool true)) (.t 33), none⟩]
def c_l05_GraphRemove_r2 (F : String → Nat) : List LI := [⟨some 35, .call (F "l05.awake") [] [], none⟩,
  ⟨some 6, .mov (.t 35), none⟩]
def c_l05_GraphRemove_r3 (F : String → Nat) : List LI := [⟨some 37, .load true 2 (.t 3), none⟩,
  ⟨some 38, .call (F "r05.Copied") [.t 37] [], none⟩,
  ⟨some 39, .mov (.t 1), none⟩,
  ⟨some 40, .call (F "slices.Clone.I") [.t 39] [], none⟩,
  ⟨some 41, .mov (.t 2), none⟩,
  ⟨some 42, .call (F "slices.Clone.I") [.t 41] [], none⟩,
  ⟨some 43, .call (F "graph.Remove") [.t 38, .t 40, .t 42] [], none⟩,
  ⟨some 36, .mov (.t 43), none⟩,
  ⟨some 44, .ext (.t 36) 0, none⟩,
  ⟨some 45, .ext (.t 36) 1, none⟩,
  ⟨some 46, .ext (.t 36) 2, none⟩,
  ⟨some 7, .alloc [.nl 1, .nl 3], none⟩,
  ⟨some 8, .alloc [.nl 1, .nl 1], none⟩,
  ⟨none, .store 2 (.t 7) (.t 44), none⟩,
  ⟨none, .store 2 (.t 8) (.t 45), none⟩,
  ⟨some 9, .mov (.t 46), none⟩]
def c_l05_GraphRemove_r4 (F : String → Nat) : List LI := [⟨some 48, .load true 2 (.t 3), none⟩,
  ⟨some 49, .mov (.t 1), none⟩,
  ⟨some 50, .mov (.t 2), none⟩,
  ⟨some 51, .call (F "r05.Remove") [.t 48, .t 49, .t 50] [], none⟩,
  ⟨some 47, .mov (.t 51), none⟩,
  ⟨some 52, .ext (.t 47) 0, none⟩,
  ⟨some 53, .ext (.t 47) 1, none⟩,
  ⟨some 54, .ext (.t 47) 2, none⟩,
  ⟨some 10, .alloc [.nl 1, .nl 3], none⟩,
  ⟨some 11, .alloc [.nl 1, .nl 1], none⟩,
  ⟨none, .store 2 (.t 10) (.t 52), none⟩,
  ⟨none, .store 2 (.t 11) (.t 53), none⟩,
  ⟨some 12, .mov (.t 54), none⟩]
def c_l05_GraphRemove_r5 (F : String → Nat) : List LI := [⟨some 55, .mov (.t 9), none⟩,
  ⟨some 56, .mov (.t 12), none⟩,
  ⟨some 57, .bin .neq (.t 55) (.t 56), none⟩,
  ⟨some 58, .mov (.t 57), none⟩,
  ⟨some 59, .load true 2 (.t 7), some (58, false)⟩,
  ⟨some 60, .load true 2 (.t 10), some (58, false)⟩,
  ⟨some 61, .call (F "r05.Same") [.t 59, .t 60] [], some (58, false)⟩,
  ⟨some 62, .not (.t 61), some (58, false)⟩,
  ⟨some 63, .pick (.t 58) (.k (.bool true)) (.t 62), none⟩,
  ⟨some 64, .mov (.t 63), none⟩,
  ⟨some 65, .load true 2 (.t 8), some (64, false)⟩,
  ⟨some 66, .load true 2 (.t 11), some (64, false)⟩,
  ⟨some 67, .call (F "l05.same") [.t 65, .t 66] [], some (64, false)⟩,
  ⟨some 68, .not (.t 67), some (64, false)⟩,
  ⟨some 69, .pick (.t 64) (.k (.bool true)) (.t 68), none⟩,
  ⟨some 70, .mov (.t 69), none⟩,
  ⟨some 71, .mov (.t 9), some (70, false)⟩,
  ⟨some 72, .bin .neq (.t 71) (.k (.int .i64 (0))), some (70, false)⟩,
  ⟨some 73, .pick (.t 70) (.k (.bool true)) (.t 72), none⟩]
def c_l05_GraphRemove_r6 (F : String → Nat) : List LI := [⟨some 74, .mov (.t 9), none⟩,
  ⟨some 75, .mov (.t 12), none⟩,
  ⟨some 76, .bin .eql (.t 74) (.t 75), none⟩,
  ⟨some 77, .mov (.t 76), none⟩,
  ⟨some 78, .load true 2 (.t 7), some (77, true)⟩,
  ⟨some 79, .load true 2 (.t 10), some (77, true)⟩,
  ⟨some 80, .call (F "r05.Same") [.t 78, .t 79] [], some (77, true)⟩,
  ⟨some 81, .pick (.t 77) (.t 80) (.k (.bool false)), none⟩,
  ⟨some 82, .mov (.t 81), none⟩,
  ⟨some 83, .load true 2 (.t 8), some (82, true)⟩,
  ⟨some 84, .load true 2 (.t 11), some (82, true)⟩,
  ⟨some 85, .call (F "l05.same") [.t 83, .t 84] [], some (82, true)⟩,
  ⟨some 86, .pick (.t 82) (.t 85) (.k (.bool false)), none⟩,
  ⟨some 6, .mov (.t 86), none⟩]
def c_l05_GraphRemove_r7 (F : String → Nat) : List LI := [⟨some 87, .fad 0 (.t 8), none⟩,
  ⟨some 88, .load false 1 (.t 87), none⟩,
  ⟨some 89, .len (.t 88), none⟩,
  ⟨some 90, .mov (.k (.int .i64 (0))), none⟩]
def c_l05_GraphRemove_r8 (F : String → Nat) : List LI := [⟨some 91, .bin .lss (.t 90) (.t 89), none⟩]
def c_l05_GraphRemove_r9 (F : String → Nat) : List LI := [⟨some 92, .mov (.t 90), none⟩,
  ⟨some 93, .iad 1 (.t 88) (.t 90), none⟩,
  ⟨some 94, .load false 1 (.t 93), none⟩,
  ⟨some 13, .mov (.t 92), none⟩,
  ⟨some 14, .mov (.t 94), none⟩]
def c_l05_GraphRemove_r10 (F : String → Nat) : List LI := [⟨some 95, .mov (.t 14), none⟩,
  ⟨some 96, .bin .geq (.t 95) (.k (.int .i64 (0))), none⟩,
  ⟨some 97, .mov (.t 96), none⟩,
  ⟨some 98, .mov (.t 14), some (97, true)⟩,
  ⟨some 99, .fad 0 (.t 7), some (97, true)⟩,
  ⟨some 100, .load false 1 (.t 99), some (97, true)⟩,
  ⟨some 101, .len (.t 100), some (97, true)⟩,
  ⟨some 102, .bin .geq (.t 98) (.t 101), some (97, true)⟩,
  ⟨some 103, .mov (.t 102), some (97, true)⟩,
  ⟨some 104, .fad 0 (.t 7), some (103, false)⟩,
  ⟨some 105, .load false 1 (.t 104), some (103, false)⟩,
  ⟨some 106, .mov (.t 14), some (103, false)⟩,
  ⟨some 107, .iad 1 (.t 105) (.t 106), some (103, false)⟩,
  ⟨some 108, .load false 1 (.t 107), some (103, false)⟩,
  ⟨some 109, .fad 0 (.t 3), some (103, false)⟩,
  ⟨some 110, .load false 1 (.t 109), some (103, false)⟩,
  ⟨some 111, .mov (.t 13), some (103, false)⟩,
  ⟨some 112, .iad 1 (.t 110) (.t 111), some (103, false)⟩,
  ⟨some 113, .load false 1 (.t 112), some (103, false)⟩,
  ⟨some 114, .bin .neq (.t 108) (.t 113), some (103, false)⟩,
  ⟨some 115, .pick (.t 103) (.k (.bool true)) (.t 114), some (97, true)⟩,
  ⟨some 116, .pick (.t 97) (.t 115) (.k (.bool false)), none⟩]
def c_l05_GraphRemove_r11 (F : String → Nat) : List LI := [⟨some 6, .mov (.k (.bool false)), none⟩]
def c_l05_GraphRemove_r12 (F : String → Nat) : List LI := [⟨some 117, .bin .add (.t 90) (.k (.int .i64 (1))), none⟩,
  ⟨some 90, .mov (.t 117), none⟩]
def c_l05_GraphRemove_b13 (F : String → Nat) : LC := (.seq (.reg (c_l05_GraphRemove_r8 F) [3, 7, 8, 88, 89, 90, 91]) (.seq (.cond (.t 91) .skip (.exit 0)) (.seq (.block 1 (.seq (.reg (c_l05_GraphRemove_r9 F) [3, 7, 8, 13, 14, 88, 89, 90]) (.seq (.dreg [] (c_l05_GraphRemove_r10 F) [3, 7, 8, 88, 89, 90, 116]) (.cond (.t 116) (.seq (.reg (c_l05_GraphRemove_r11 F) [6]) .ret) .skip)))) (.reg (c_l05_GraphRemove_r12 F) [3, 7, 8, 88, 89, 90]))))
def c_l05_GraphRemove_r14 (F : String → Nat) : List LI := [⟨some 118, .fad 1 (.t 8), none⟩,
  ⟨some 119, .load false 1 (.t 118), none⟩,
  ⟨some 120, .len (.t 119), none⟩,
  ⟨some 121, .mov (.k (.int .i64 (0))), none⟩]
def c_l05_GraphRemove_r15 (F : String → Nat) : List LI := [⟨some 122, .bin .lss (.t 121) (.t 120), none⟩]
def c_l05_GraphRemove_r16 (F : String → Nat) : List LI := [⟨some 123, .mov (.t 121), none⟩,
  ⟨some 124, .iad 1 (.t 119) (.t 121), none⟩,
  ⟨some 125, .load false 1 (.t 124), none⟩,
  ⟨some 15, .mov (.t 123), none⟩,
  ⟨some 16, .mov (.t 125), none⟩]
def c_l05_GraphRemove_r17 (F : String → Nat) : List LI := [⟨some 126, .fad 1 (.t 3), none⟩,
  ⟨some 127, .load false 1 (.t 126), none⟩,
  ⟨some 128, .mov (.t 15), none⟩,
  ⟨some 129, .iad 3 (.t 127) (.t 128), none⟩,
  ⟨some 130, .load true 3 (.t 129), none⟩,
  ⟨some 17, .alloc [.int .i64 (0), .int .i64 (0), .int .i64 (0)], none⟩,
  ⟨none, .store 3 (.t 17) (.t 130), none⟩]
def c_l05_GraphRemove_r18 (F : String → Nat) : List LI := [⟨some 131, .mov (.t 16), none⟩,
  ⟨some 132, .bin .geq (.t 131) (.k (.int .i64 (0))), none⟩,
  ⟨some 133, .mov (.t 132), none⟩,
  ⟨some 134, .mov (.t 16), some (133, true)⟩,
  ⟨some 135, .fad 1 (.t 7), some (133, true)⟩,
  ⟨some 136, .load false 1 (.t 135), some (133, true)⟩,
  ⟨some 137, .len (.t 136), some (133, true)⟩,
  ⟨some 138, .bin .geq (.t 134) (.t 137), some (133, true)⟩,
  ⟨some 139, .mov (.t 138), some (133, true)⟩,
  ⟨some 140, .fad 1 (.t 7), some (139, false)⟩,
  ⟨some 141, .load false 1 (.t 140), some (139, false)⟩,
  ⟨some 142, .mov (.t 16), some (139, false)⟩,
  ⟨some 143, .iad 3 (.t 141) (.t 142), some (139, false)⟩,
  ⟨some 144, .load true 3 (.t 143), some (139, false)⟩,
  ⟨some 145, .fad 0 (.t 17), some (139, false)⟩,
  ⟨some 146, .load false 1 (.t 145), some (139, false)⟩,
  ⟨some 147, .fad 0 (.t 8), some (139, false)⟩,
  ⟨some 148, .load false 1 (.t 147), some (139, false)⟩,
  ⟨some 149, .fad 1 (.t 17), some (139, false)⟩,
  ⟨some 150, .load false 1 (.t 149), some (139, false)⟩,
  ⟨some 151, .iad 1 (.t 148) (.t 150), some (139, false)⟩,
  ⟨some 152, .load false 1 (.t 151), some (139, false)⟩,
  ⟨some 153, .fad 0 (.t 8), some (139, false)⟩,
  ⟨some 154, .load false 1 (.t 153), some (139, false)⟩,
  ⟨some 155, .fad 2 (.t 17), some (139, false)⟩,
  ⟨some 156, .load false 1 (.t 155), some (139, false)⟩,
  ⟨some 157, .iad 1 (.t 154) (.t 156), some (139, false)⟩,
  ⟨some 158, .load false 1 (.t 157), some (139, false)⟩,
  ⟨some 159, .build [.int .i64 (0), .int .i64 (0), .int .i64 (0)] [(0, 1, .t 146), (1, 1, .t 152), (2, 1, .t 158)], some (139, false)⟩,
  ⟨some 160, .eqA 3 true (.t 144) (.t 159), some (139, false)⟩,
  ⟨some 161, .pick (.t 139) (.k (.bool true)) (.t 160), some (133, true)⟩,
  ⟨some 162, .pick (.t 133) (.t 161) (.k (.bool false)), none⟩]
def c_l05_GraphRemove_r19 (F : String → Nat) : List LI := [⟨some 6, .mov (.k (.bool false)), none⟩]
def c_l05_GraphRemove_r20 (F : String → Nat) : List LI := [⟨some 163, .bin .add (.t 121) (.k (.int .i64 (1))), none⟩,
  ⟨some 121, .mov (.t 163), none⟩]
def c_l05_GraphRemove_b21 (F : String → Nat) : LC := (.seq (.reg (c_l05_GraphRemove_r15 F) [3, 7, 8, 119, 120, 121, 122]) (.seq (.cond (.t 122) .skip (.exit 2)) (.seq (.block 3 (.seq (.reg (c_l05_GraphRemove_r16 F) [3, 7, 8, 15, 16, 119, 120, 121]) (.seq (.reg (c_l05_GraphRemove_r17 F) [3, 7, 8, 16, 17, 119, 120, 121]) (.seq (.dreg [] (c_l05_GraphRemove_r18 F) [3, 7, 8, 119, 120, 121, 162]) (.cond (.t 162) (.seq (.reg (c_l05_GraphRemove_r19 F) [6]) .ret) .skip))))) (.reg (c_l05_GraphRemove_r20 F) [3, 7, 8, 119, 120, 121]))))
def c_l05_GraphRemove_r22 (F : String → Nat) : List LI := [⟨some 6, .mov (.k (.bool true)), none⟩]
def c_l05_GraphRemove (F : String → Nat) : LC := (.seq (.reg (c_l05_GraphRemove_r0 F) [1, 2, 3]) (.seq (.seq (.reg (c_l05_GraphRemove_r1 F) [1, 2, 3, 34]) (.cond (.t 34) (.seq (.reg (c_l05_GraphRemove_r2 F) [6]) .ret) .skip)) (.seq (.reg (c_l05_GraphRemove_r3 F) [1, 2, 3, 7, 8, 9]) (.seq (.reg (c_l05_GraphRemove_r4 F) [3, 7, 8, 9, 10, 11, 12]) (.seq (.seq (.reg (c_l05_GraphRemove_r5 F) [3, 7, 8, 9, 10, 11, 12, 73]) (.cond (.t 73) (.seq (.reg (c_l05_GraphRemove_r6 F) [6]) .ret) .skip)) (.seq (.seq (.reg (c_l05_GraphRemove_r7 F) [3, 7, 8, 88, 89, 90]) (.block 0 (.loop [3, 7, 8, 88, 89, 90] (c_l05_GraphRemove_b13 F)))) (.seq (.seq (.reg (c_l05_GraphRemove_r14 F) [3, 7, 8, 119, 120, 121]) (.block 2 (.loop [3, 7, 8, 119, 120, 121] (c_l05_GraphRemove_b21 F)))) (.seq (.reg (c_l05_GraphRemove_r22 F) [6]) .ret))))))))
def h_l05_GraphRemove : Hints := ⟨[], fun _ => [], tab [(0, [1, 2, 3]), (1, [1, 2, 3, 34]), (2, [6]), (3, [1, 2, 3, 7, 8, 9]), (4, [3, 7, 8, 9, 10, 11, 12]), (5, [3, 7, 8, 9, 10, 11, 12, 73]), (6, [6]), (7, [3, 7, 8, 88, 89, 90]), (8, [3, 7, 8, 88, 89, 90, 91]), (9, [3, 7, 8, 13, 14, 88, 89, 90]), (10, [3, 7, 8, 88, 89, 90, 116]), (11, [6]), (12, [3, 7, 8, 88, 89, 90]), (13, [3, 7, 8, 119, 120, 121]), (14, [3, 7, 8, 119, 120, 121, 122]), (15, [3, 7, 8, 15, 16, 119, 120, 121]), (16, [3, 7, 8, 16, 17, 119, 120, 121]), (17, [3, 7, 8, 119, 120, 121, 162]), (18, [6]), (19, [3, 7, 8, 119, 120, 121]), (20, [6])], tab [(8, [3, 7, 8, 88, 89, 90]), (14, [3, 7, 8, 119, 120, 121])]⟩

attribute [go_sem] c_l05_example_r0 c_l05_example_r1 c_l05_example c_l05_awake_r0 c_l05_awake_r1 c_l05_awake_r2 c_l05_awake_r3 c_l05_awake_r4 c_l05_awake c_l05_GraphRemove_r0 c_l05_GraphRemove_r1 c_l05_GraphRemove_r2 c_l05_GraphRemove_r3 c_l05_GraphRemove_r4 c_l05_GraphRemove_r5 c_l05_GraphRemove_r6 c_l05_GraphRemove_r7 c_l05_GraphRemove_r8 c_l05_GraphRemove_r9 c_l05_GraphRemove_r10 c_l05_GraphRemove_r11 c_l05_GraphRemove_r12 c_l05_GraphRemove_r14 c_l05_GraphRemove_r15 c_l05_GraphRemove_r16 c_l05_GraphRemove_r17 c_l05_GraphRemove_r18 c_l05_GraphRemove_r19 c_l05_GraphRemove_r20 c_l05_GraphRemove_r22 c_l05_GraphRemove
def exG : G := ⟨[3, 1, 1], [⟨0, 0, 1⟩, ⟨0, 0, 2⟩]⟩
section
variable (P : Program) (F : String → Nat)
def K_l05_example : Prop := FC P (F "l05.example") [] (gA exG) []
def K_l05_awake : Prop := FC P (F "l05.awake") [] (.bool true) []
def K_l05_GraphRemove : Prop := ∀ (g : G) (ns es : List Int), ns.length ≤ 20000000000000 → es.length ≤ 20000000000000 → FC P (F "l05.GraphRemove") [gD g, .lst 1 (ints ns), .lst 1 (ints es)] (.bool true) []
end
section
variable {P : Program} {F : String → Nat} {α : Type}
theorem w_l05_example : W P (c_l05_example F) (Done [.c 0 true 2] [] (gA exG) []) (init []) := by
  refine W_of ?_
  simp (config := { maxSteps := 1000000 }) (disch := first | omega | (simp only [List.length_set, List.length_append, List.length_cons, List.length_nil, List.length_replicate]; omega)) only [go_sem, Nat.reduceEqDiff, Nat.reduceBEq, Nat.reduceAdd, Nat.reduceSub, Nat.reduceMul, Nat.reduceLT, Nat.reduceLeDiff, ↓reduceIte, reduceCtorEq, Nat.reduceDiv, Nat.reducePow, Nat.reduceMod]
  rfl
theorem w_l05_awake (he : K_l05_example P F) (hr : K_graph_Remove P F) (hc : K_graph_Components P F) (hs : K_r05_Same P F) (hq : K_slices_Equal_I P F) : W P (c_l05_awake F) (Done [.t 0] [] (.bool true) []) (init []) := by
  refine W_of ?_
  have r1 := hr exG [1] [0] (by decide) (by decide)
  rw [show removeG exG [1] [0] = (⟨[3, 1], [⟨0, 0, 1⟩]⟩, ⟨[0, -1, 1], [-1, 0]⟩, 0) by decide] at r1
  have r2 := hr exG [1] [] (by decide) (by decide)
  rw [show removeG exG [1] [] = (⟨[], []⟩, ⟨[], []⟩, 14) by decide] at r2
  have r3 := hc exG
  rw [show compsG exG = ([⟨[0, 1, 2], [0, 1]⟩], 0) by decide] at r3
  have r0 := he
  unfold K_l05_example gA exG at r0
  simp only [gD, remD, gA, mA, exG] at r1 r2 r3
  simp (config := { maxSteps := 1000000 }) (disch := first | omega | (simp only [List.length_set, List.length_append, List.length_cons, List.length_nil, List.length_replicate]; omega)) only [go_sem, Nat.reduceEqDiff, Nat.reduceBEq, Nat.reduceAdd, Nat.reduceSub, Nat.reduceMul, Nat.reduceLT, Nat.reduceLeDiff, ↓reduceIte, reduceCtorEq, Nat.reduceDiv, Nat.reducePow, Nat.reduceMod]
  refine call_by r0 ?_
  simp (config := { maxSteps := 1000000 }) (disch := first | omega | (simp only [List.length_set, List.length_append, List.length_cons, List.length_nil, List.length_replicate]; omega)) only [go_sem, Nat.reduceEqDiff, Nat.reduceBEq, Nat.reduceAdd, Nat.reduceSub, Nat.reduceMul, Nat.reduceLT, Nat.reduceLeDiff, ↓reduceIte, reduceCtorEq, Nat.reduceDiv, Nat.reducePow, Nat.reduceMod]
  refine call_by r1 ?_
  simp (config := { maxSteps := 1000000 }) (disch := first | omega | (simp only [List.length_set, List.length_append, List.length_cons, List.length_nil, List.length_replicate]; omega)) only [go_sem, Nat.reduceEqDiff, Nat.reduceBEq, Nat.reduceAdd, Nat.reduceSub, Nat.reduceMul, Nat.reduceLT, Nat.reduceLeDiff, ↓reduceIte, reduceCtorEq, Nat.reduceDiv, Nat.reducePow, Nat.reduceMod]
  refine call_by r0 ?_
  simp (config := { maxSteps := 1000000 }) (disch := first | omega | (simp only [List.length_set, List.length_append, List.length_cons, List.length_nil, List.length_replicate]; omega)) only [go_sem, Nat.reduceEqDiff, Nat.reduceBEq, Nat.reduceAdd, Nat.reduceSub, Nat.reduceMul, Nat.reduceLT, Nat.reduceLeDiff, ↓reduceIte, reduceCtorEq, Nat.reduceDiv, Nat.reducePow, Nat.reduceMod]
  refine call_by (FC.nils r2 (by simp [NilW, ints])) ?_
  simp (config := { maxSteps := 1000000 }) (disch := first | omega | (simp only [List.length_set, List.length_append, List.length_cons, List.length_nil, List.length_replicate]; omega)) only [go_sem, Nat.reduceEqDiff, Nat.reduceBEq, Nat.reduceAdd, Nat.reduceSub, Nat.reduceMul, Nat.reduceLT, Nat.reduceLeDiff, ↓reduceIte, reduceCtorEq, Nat.reduceDiv, Nat.reducePow, Nat.reduceMod]
  refine call_by r0 ?_
  simp (config := { maxSteps := 1000000 }) (disch := first | omega | (simp only [List.length_set, List.length_append, List.length_cons, List.length_nil, List.length_replicate]; omega)) only [go_sem, Nat.reduceEqDiff, Nat.reduceBEq, Nat.reduceAdd, Nat.reduceSub, Nat.reduceMul, Nat.reduceLT, Nat.reduceLeDiff, ↓reduceIte, reduceCtorEq, Nat.reduceDiv, Nat.reducePow, Nat.reduceMod]
  refine call_fz r3 ?_
  simp (config := { maxSteps := 1000000 }) (disch := first | omega | (simp only [List.length_set, List.length_append, List.length_cons, List.length_nil, List.length_replicate]; omega)) only [go_sem, Nat.reduceEqDiff, Nat.reduceBEq, Nat.reduceAdd, Nat.reduceSub, Nat.reduceMul, Nat.reduceLT, Nat.reduceLeDiff, ↓reduceIte, reduceCtorEq, Nat.reduceDiv, Nat.reducePow, Nat.reduceMod]
  refine call_by (hs ⟨[3, 1], [⟨0, 0, 1⟩]⟩ ⟨[3, 1], [⟨0, 0, 1⟩]⟩ (by decide) (by decide)) ?_
  simp (config := { maxSteps := 1000000 }) (disch := first | omega | (simp only [List.length_set, List.length_append, List.length_cons, List.length_nil, List.length_replicate]; omega)) only [go_sem, Nat.reduceEqDiff, Nat.reduceBEq, Nat.reduceAdd, Nat.reduceSub, Nat.reduceMul, Nat.reduceLT, Nat.reduceLeDiff, ↓reduceIte, reduceCtorEq, Nat.reduceDiv, Nat.reducePow, Nat.reduceMod]
  refine call_by (hq [0, -1, 1] [0, -1, 1] (by decide)) ?_
  simp (config := { maxSteps := 1000000 }) (disch := first | omega | (simp only [List.length_set, List.length_append, List.length_cons, List.length_nil, List.length_replicate]; omega)) only [go_sem, Nat.reduceEqDiff, Nat.reduceBEq, Nat.reduceAdd, Nat.reduceSub, Nat.reduceMul, Nat.reduceLT, Nat.reduceLeDiff, ↓reduceIte, reduceCtorEq, Nat.reduceDiv, Nat.reducePow, Nat.reduceMod]
  refine call_by (hq [-1, 0] [-1, 0] (by decide)) ?_
  simp (config := { maxSteps := 1000000 }) (disch := first | omega | (simp only [List.length_set, List.length_append, List.length_cons, List.length_nil, List.length_replicate]; omega)) only [go_sem, Nat.reduceEqDiff, Nat.reduceBEq, Nat.reduceAdd, Nat.reduceSub, Nat.reduceMul, Nat.reduceLT, Nat.reduceLeDiff, ↓reduceIte, reduceCtorEq, Nat.reduceDiv, Nat.reducePow, Nat.reduceMod]
  simp
theorem leftL_gt (gs : List Int) : ∀ (n i : Nat), i < n → gt (leftL gs n).1 (i : Int) = if (i : Int) ∈ gs then -1 else (leftL gs i).2 := by
  intro n
  induction n with
  | zero => intro i h; omega
  | succ n ih =>
    intro i h
    have hl := left_len gs n
    have key : ∀ x : Int, gt ((leftL gs n).1 ++ [x]) (i : Int) = if i < n then gt (leftL gs n).1 (i : Int) else x := by
      intro x
      split
      · rename_i hi
        rw [gt_nat (by simp; omega), gt_nat (by omega), List.getElem_append_left]
      · rename_i hi
        obtain rfl : i = n := by omega
        rw [gt_nat (by simp; omega), List.getElem_append_right (by omega)]
        simp [hl]
    simp only [leftL]
    by_cases hi : i < n
    · rw [← ih i hi]
      split <;> rw [key, if_pos hi]
    · obtain rfl : i = n := by omega
      split <;> rename_i hm <;> simp only [key, Nat.lt_irrefl, if_false]
theorem gt_app1 [Inhabited α] {l : List α} {x : α} {j : Int} (h0 : 0 ≤ j) (h : j < l.length) : gt (l ++ [x]) j = gt l j := by
  have h2 : j.toNat < l.length := by omega
  simp only [gt, List.getD_eq_getElem?_getD]
  rw [List.getElem?_append_left h2]
theorem gt_app2 [Inhabited α] {l : List α} {x : α} {j : Int} (h : j = l.length) : gt (l ++ [x]) j = x := by
  subst h
  simp [gt]
theorem remN_spec (ns gs : List Int) (n : Nat) : ∀ j, j ≤ n → ((remN ns (leftL gs n).1 j).length : Int) = (leftL gs j).2 ∧ ∀ i : Nat, i < j → (i : Int) ∉ gs → gt (remN ns (leftL gs n).1 j) (leftL gs i).2 = gt ns i ∧ (leftL gs i).2 < (leftL gs j).2 := by
  intro j
  induction j with
  | zero => intro _; exact ⟨rfl, fun i h => by omega⟩
  | succ j ih =>
    intro hj
    obtain ⟨h1, h2⟩ := ih (by omega)
    have hg := leftL_gt gs n j (by omega)
    have hb := left_bd gs j
    simp only [remN, hg]
    by_cases hm : (j : Int) ∈ gs
    · rw [if_pos hm, if_neg (by omega)]
      have e : (leftL gs (j + 1)).2 = (leftL gs j).2 := by simp [leftL, hm]
      rw [e]
      refine ⟨h1, fun i hi hn => ?_⟩
      have : i ≠ j := fun e => hn (e ▸ hm)
      exact h2 i (by omega) hn
    · rw [if_neg hm, if_pos (by omega)]
      have e : (leftL gs (j + 1)).2 = (leftL gs j).2 + 1 := by simp [leftL, hm]
      rw [e]
      refine ⟨by rw [List.length_append, Int.natCast_add, h1]; rfl, fun i hi hn => ?_⟩
      by_cases hij : i = j
      · subst hij
        exact ⟨gt_app2 h1.symm, by omega⟩
      · obtain ⟨a, b⟩ := h2 i (by omega) hn
        have hb2 := left_bd gs i
        exact ⟨by rw [gt_app1 (by omega) (by omega), a], by omega⟩
theorem remEd_spec (es : List E) (mn gs : List Int) (n : Nat) : ∀ j l, j ≤ n → remEd es mn (leftL gs n).1 j = some l → ((l.length : Nat) : Int) = (leftL gs j).2 ∧ ∀ i : Nat, i < j → (i : Int) ∉ gs → gt l (leftL gs i).2 = remE mn (gt es i) ∧ (leftL gs i).2 < (leftL gs j).2 := by
  intro j
  induction j with
  | zero => intro l _ h; simp only [remEd, Option.some.injEq] at h; subst h; exact ⟨rfl, fun i h => by omega⟩
  | succ j ih =>
    intro l hj h
    have hg := leftL_gt gs n j (by omega)
    have hb := left_bd gs j
    simp only [remEd] at h
    split at h
    · cases h
    · rename_i l' hl'
      obtain ⟨h1, h2⟩ := ih l' (by omega) hl'
      rw [hg] at h
      by_cases hm : (j : Int) ∈ gs
      · rw [if_pos hm, if_pos (by omega), Option.some.injEq] at h
        subst h
        have e : (leftL gs (j + 1)).2 = (leftL gs j).2 := by simp [leftL, hm]
        rw [e]
        refine ⟨h1, fun i hi hn => ?_⟩
        have : i ≠ j := fun e => hn (e ▸ hm)
        exact h2 i (by omega) hn
      · rw [if_neg hm, if_neg (by omega)] at h
        split at h
        · cases h
        · simp only [Option.some.injEq] at h
          subst h
          have e : (leftL gs (j + 1)).2 = (leftL gs j).2 + 1 := by simp [leftL, hm]
          rw [e]
          refine ⟨by rw [List.length_append, Int.natCast_add, h1]; rfl, fun i hi hn => ?_⟩
          by_cases hij : i = j
          · subst hij
            exact ⟨gt_app2 h1.symm, by omega⟩
          · obtain ⟨a, b⟩ := h2 i (by omega) hn
            have hb2 := left_bd gs i
            exact ⟨by rw [gt_app1 (by omega) (by omega), a], by omega⟩
theorem removeG_len (g : G) (ns es : List Int) : (removeG g ns es).1.n.length ≤ 100 ∧ (removeG g ns es).1.e.length ≤ 100 ∧ (removeG g ns es).2.1.n.length ≤ 100 ∧ (removeG g ns es).2.1.e.length ≤ 100 := by
  unfold removeG
  split
  · simp
  · rename_i h
    have hv := valid_spec (g := g) (by simpa using h)
    split
    · simp
    · split
      · simp
      · split
        · simp
        · rename_i l hl
          have a1 := remN_len g.n (leftL ns g.n.length).1 g.n.length
          have a2 := remEd_len _ _ _ _ _ hl
          have a3 := left_len ns g.n.length
          have a4 := left_len es g.e.length
          simp only
          omega
/-- What holds of the result of Remove. -/
theorem removeG_ok {g a : G} {m : Mo} {ns es : List Int} (h : removeG g ns es = (a, m, 0)) : (∀ i : Nat, i < m.n.length → m.n.length = g.n.length ∧ (0 ≤ gt m.n i → gt m.n i < a.n.length ∧ gt a.n (gt m.n i) = gt g.n i)) ∧
    (∀ i : Nat, i < m.e.length → m.e.length = g.e.length ∧ (0 ≤ gt m.e i → gt m.e i < a.e.length ∧ gt a.e (gt m.e i) = remE m.n (gt g.e i))) ∧ (∀ x, x ∈ g.e → 0 ≤ x.f ∧ x.f < m.n.length ∧ 0 ≤ x.o ∧ x.o < m.n.length) := by
  unfold removeG at h
  split at h
  · rename_i hv
    simp only [Prod.mk.injEq] at h
    exact absurd h.2.2 hv
  · rename_i hv
    obtain ⟨v1, v2, v3, v4⟩ := valid_spec (g := g) (by simpa using hv)
    split at h
    · rename_i hv2
      simp only [Prod.mk.injEq] at h
      exact absurd h.2.2 hv2
    · split at h
      · rename_i hv3
        simp only [Prod.mk.injEq] at h
        exact absurd h.2.2 hv3
      · split at h
        · simp at h
        · rename_i l hl
          simp only [Prod.mk.injEq] at h
          obtain ⟨rfl, rfl, _⟩ := h
          have a3 := left_len ns g.n.length
          have a4 := left_len es g.e.length
          obtain ⟨b1, b2⟩ := remN_spec g.n ns g.n.length g.n.length (Nat.le_refl _)
          obtain ⟨d1, d2⟩ := remEd_spec g.e (leftL ns g.n.length).1 es g.e.length g.e.length l (Nat.le_refl _) hl
          simp only [a3, a4]
          refine ⟨fun i hi => ⟨trivial, fun h0 => ?_⟩, fun i hi => ⟨trivial, fun h0 => ?_⟩, fun x hx => ?_⟩
          · rw [leftL_gt _ _ _ hi] at h0 ⊢
            split at h0
            · omega
            · rename_i hn
              obtain ⟨e1, e2⟩ := b2 i hi hn
              rw [if_neg hn]
              exact ⟨by omega, e1⟩
          · rw [leftL_gt _ _ _ hi] at h0 ⊢
            split at h0
            · omega
            · rename_i hn
              obtain ⟨e1, e2⟩ := d2 i hi hn
              rw [if_neg hn]
              exact ⟨by omega, e1⟩
          · have := fits_spec (v4 x hx)
            omega
theorem w_l05_GraphRemove (hw : K_l05_awake P F) (hf : K_r05_Few P F) (hcp : K_r05_Copied P F) (hcl : K_slices_Clone_I P F) (hr : K_graph_Remove P F) (hr2 : K_r05_Remove P F) (hs : K_r05_Same P F) (hm : K_l05_same P F) (g : G) (ns es : List Int) (h1 : ns.length ≤ 20000000000000) (h2 : es.length ≤ 20000000000000) :
    W P (c_l05_GraphRemove F) (Done [.t 6] [] (.bool true) []) (init [gD g, .lst 1 (ints ns), .lst 1 (ints es)]) := by
  refine W_of ?_
  obtain ⟨gn, ge⟩ := g
  simp (config := { maxSteps := 1000000 }) (disch := first | omega | (simp only [List.length_set, List.length_append, List.length_cons, List.length_nil, List.length_replicate]; omega)) only [go_sem, Nat.reduceEqDiff, Nat.reduceBEq, Nat.reduceAdd, Nat.reduceSub, Nat.reduceMul, Nat.reduceLT, Nat.reduceLeDiff, ↓reduceIte, reduceCtorEq, Nat.reduceDiv, Nat.reducePow, Nat.reduceMod, gD]
  refine call_by hw ?_
  simp (config := { maxSteps := 1000000 }) (disch := first | omega | (simp only [List.length_set, List.length_append, List.length_cons, List.length_nil, List.length_replicate]; omega)) only [go_sem, Nat.reduceEqDiff, Nat.reduceBEq, Nat.reduceAdd, Nat.reduceSub, Nat.reduceMul, Nat.reduceLT, Nat.reduceLeDiff, ↓reduceIte, reduceCtorEq, Nat.reduceDiv, Nat.reducePow, Nat.reduceMod]
  refine call_by (hf ⟨gn, ge⟩) ?_
  simp (config := { maxSteps := 1000000 }) (disch := first | omega | (simp only [List.length_set, List.length_append, List.length_cons, List.length_nil, List.length_replicate]; omega)) only [go_sem, Nat.reduceEqDiff, Nat.reduceBEq, Nat.reduceAdd, Nat.reduceSub, Nat.reduceMul, Nat.reduceLT, Nat.reduceLeDiff, ↓reduceIte, reduceCtorEq, Nat.reduceDiv, Nat.reducePow, Nat.reduceMod]
  refine bran_nby (fun c1 => ?_) (fun c1 => ?_)
  · simp (config := { maxSteps := 1000000 }) (disch := first | omega | (simp only [List.length_set, List.length_append, List.length_cons, List.length_nil, List.length_replicate]; omega)) only [go_sem, Nat.reduceEqDiff, Nat.reduceBEq, Nat.reduceAdd, Nat.reduceSub, Nat.reduceMul, Nat.reduceLT, Nat.reduceLeDiff, ↓reduceIte, reduceCtorEq, Nat.reduceDiv, Nat.reducePow, Nat.reduceMod, c1]
    refine call_by hw ?_
    simp (config := { maxSteps := 1000000 }) (disch := first | omega | (simp only [List.length_set, List.length_append, List.length_cons, List.length_nil, List.length_replicate]; omega)) only [go_sem, Nat.reduceEqDiff, Nat.reduceBEq, Nat.reduceAdd, Nat.reduceSub, Nat.reduceMul, Nat.reduceLT, Nat.reduceLeDiff, ↓reduceIte, reduceCtorEq, Nat.reduceDiv, Nat.reducePow, Nat.reduceMod]
  · obtain ⟨f1, f2⟩ : gn.length ≤ 45 ∧ ge.length ≤ 90 := by simpa [few] using c1
    simp (config := { maxSteps := 1000000 }) (disch := first | omega | (simp only [List.length_set, List.length_append, List.length_cons, List.length_nil, List.length_replicate]; omega)) only [go_sem, Nat.reduceEqDiff, Nat.reduceBEq, Nat.reduceAdd, Nat.reduceSub, Nat.reduceMul, Nat.reduceLT, Nat.reduceLeDiff, ↓reduceIte, reduceCtorEq, Nat.reduceDiv, Nat.reducePow, Nat.reduceMod, c1]
    refine bran_dec (fun c2 => ?_) (fun c2 => ?_)
    · simp (config := { maxSteps := 1000000 }) (disch := first | omega | (simp only [List.length_set, List.length_append, List.length_cons, List.length_nil, List.length_replicate]; omega)) only [go_sem, Nat.reduceEqDiff, Nat.reduceBEq, Nat.reduceAdd, Nat.reduceSub, Nat.reduceMul, Nat.reduceLT, Nat.reduceLeDiff, ↓reduceIte, reduceCtorEq, Nat.reduceDiv, Nat.reducePow, Nat.reduceMod, c2]
      refine call_by hw ?_
      simp (config := { maxSteps := 1000000 }) (disch := first | omega | (simp only [List.length_set, List.length_append, List.length_cons, List.length_nil, List.length_replicate]; omega)) only [go_sem, Nat.reduceEqDiff, Nat.reduceBEq, Nat.reduceAdd, Nat.reduceSub, Nat.reduceMul, Nat.reduceLT, Nat.reduceLeDiff, ↓reduceIte, reduceCtorEq, Nat.reduceDiv, Nat.reducePow, Nat.reduceMod]
    · simp (config := { maxSteps := 1000000 }) (disch := first | omega | (simp only [List.length_set, List.length_append, List.length_cons, List.length_nil, List.length_replicate]; omega)) only [go_sem, Nat.reduceEqDiff, Nat.reduceBEq, Nat.reduceAdd, Nat.reduceSub, Nat.reduceMul, Nat.reduceLT, Nat.reduceLeDiff, ↓reduceIte, reduceCtorEq, Nat.reduceDiv, Nat.reducePow, Nat.reduceMod, c2]
      refine bran_dec (fun c3 => ?_) (fun c3 => ?_)
      · simp (config := { maxSteps := 1000000 }) (disch := first | omega | (simp only [List.length_set, List.length_append, List.length_cons, List.length_nil, List.length_replicate]; omega)) only [go_sem, Nat.reduceEqDiff, Nat.reduceBEq, Nat.reduceAdd, Nat.reduceSub, Nat.reduceMul, Nat.reduceLT, Nat.reduceLeDiff, ↓reduceIte, reduceCtorEq, Nat.reduceDiv, Nat.reducePow, Nat.reduceMod, c3]
        refine call_by hw ?_
        simp (config := { maxSteps := 1000000 }) (disch := first | omega | (simp only [List.length_set, List.length_append, List.length_cons, List.length_nil, List.length_replicate]; omega)) only [go_sem, Nat.reduceEqDiff, Nat.reduceBEq, Nat.reduceAdd, Nat.reduceSub, Nat.reduceMul, Nat.reduceLT, Nat.reduceLeDiff, ↓reduceIte, reduceCtorEq, Nat.reduceDiv, Nat.reducePow, Nat.reduceMod]
      · simp (config := { maxSteps := 1000000 }) (disch := first | omega | (simp only [List.length_set, List.length_append, List.length_cons, List.length_nil, List.length_replicate]; omega)) only [go_sem, Nat.reduceEqDiff, Nat.reduceBEq, Nat.reduceAdd, Nat.reduceSub, Nat.reduceMul, Nat.reduceLT, Nat.reduceLeDiff, ↓reduceIte, reduceCtorEq, Nat.reduceDiv, Nat.reducePow, Nat.reduceMod, c3]
        have hle : ns.length ≤ 140737488355328 ∧ es.length ≤ 140737488355328 := by omega
        have r1 := hr ⟨gn, ge⟩ ns es hle.1 hle.2
        have r2 := hr2 ⟨gn, ge⟩ ns es hle.1 hle.2
        have r3 := hcp ⟨gn, ge⟩ (by simp only; omega) (by simp only; omega)
        have hlen := removeG_len ⟨gn, ge⟩ ns es
        have hok := @removeG_ok ⟨gn, ge⟩
        generalize hrm : removeG ⟨gn, ge⟩ ns es = r at r1 r2 hlen
        obtain ⟨⟨an, ae⟩, ⟨mn, me⟩, e⟩ := r
        simp only [remD, gA, mA, gD] at r1 r2 r3 hlen
        refine call_by r3 ?_
        simp (config := { maxSteps := 1000000 }) (disch := first | omega | (simp only [List.length_set, List.length_append, List.length_cons, List.length_nil, List.length_replicate]; omega)) only [go_sem, Nat.reduceEqDiff, Nat.reduceBEq, Nat.reduceAdd, Nat.reduceSub, Nat.reduceMul, Nat.reduceLT, Nat.reduceLeDiff, ↓reduceIte, reduceCtorEq, Nat.reduceDiv, Nat.reducePow, Nat.reduceMod]
        refine call_by (hcl ns (by omega)) ?_
        simp (config := { maxSteps := 1000000 }) (disch := first | omega | (simp only [List.length_set, List.length_append, List.length_cons, List.length_nil, List.length_replicate]; omega)) only [go_sem, Nat.reduceEqDiff, Nat.reduceBEq, Nat.reduceAdd, Nat.reduceSub, Nat.reduceMul, Nat.reduceLT, Nat.reduceLeDiff, ↓reduceIte, reduceCtorEq, Nat.reduceDiv, Nat.reducePow, Nat.reduceMod]
        refine call_by (hcl es (by omega)) ?_
        simp (config := { maxSteps := 1000000 }) (disch := first | omega | (simp only [List.length_set, List.length_append, List.length_cons, List.length_nil, List.length_replicate]; omega)) only [go_sem, Nat.reduceEqDiff, Nat.reduceBEq, Nat.reduceAdd, Nat.reduceSub, Nat.reduceMul, Nat.reduceLT, Nat.reduceLeDiff, ↓reduceIte, reduceCtorEq, Nat.reduceDiv, Nat.reducePow, Nat.reduceMod]
        refine call_by r1 ?_
        simp (config := { maxSteps := 1000000 }) (disch := first | omega | (simp only [List.length_set, List.length_append, List.length_cons, List.length_nil, List.length_replicate]; omega)) only [go_sem, Nat.reduceEqDiff, Nat.reduceBEq, Nat.reduceAdd, Nat.reduceSub, Nat.reduceMul, Nat.reduceLT, Nat.reduceLeDiff, ↓reduceIte, reduceCtorEq, Nat.reduceDiv, Nat.reducePow, Nat.reduceMod]
        refine call_by r2 ?_
        simp (config := { maxSteps := 1000000 }) (disch := first | omega | (simp only [List.length_set, List.length_append, List.length_cons, List.length_nil, List.length_replicate]; omega)) only [go_sem, Nat.reduceEqDiff, Nat.reduceBEq, Nat.reduceAdd, Nat.reduceSub, Nat.reduceMul, Nat.reduceLT, Nat.reduceLeDiff, ↓reduceIte, reduceCtorEq, Nat.reduceDiv, Nat.reducePow, Nat.reduceMod]
        refine call_by (hs ⟨an, ae⟩ ⟨an, ae⟩ (by unfold maxL; simp only; omega) (by unfold maxL; simp only; omega)) ?_
        simp (config := { maxSteps := 1000000 }) (disch := first | omega | (simp only [List.length_set, List.length_append, List.length_cons, List.length_nil, List.length_replicate]; omega)) only [go_sem, Nat.reduceEqDiff, Nat.reduceBEq, Nat.reduceAdd, Nat.reduceSub, Nat.reduceMul, Nat.reduceLT, Nat.reduceLeDiff, ↓reduceIte, reduceCtorEq, Nat.reduceDiv, Nat.reducePow, Nat.reduceMod]
        refine call_by (hm ⟨mn, me⟩ ⟨mn, me⟩ (by unfold maxL; simp only; omega) (by unfold maxL; simp only; omega)) ?_
        simp (config := { maxSteps := 1000000 }) (disch := first | omega | (simp only [List.length_set, List.length_append, List.length_cons, List.length_nil, List.length_replicate]; omega)) only [go_sem, Nat.reduceEqDiff, Nat.reduceBEq, Nat.reduceAdd, Nat.reduceSub, Nat.reduceMul, Nat.reduceLT, Nat.reduceLeDiff, ↓reduceIte, reduceCtorEq, Nat.reduceDiv, Nat.reducePow, Nat.reduceMod]
        refine bran_nby (fun c4 => ?_) (fun c4 => ?_)
        · simp (config := { maxSteps := 1000000 }) (disch := first | omega | (simp only [List.length_set, List.length_append, List.length_cons, List.length_nil, List.length_replicate]; omega)) only [go_sem, Nat.reduceEqDiff, Nat.reduceBEq, Nat.reduceAdd, Nat.reduceSub, Nat.reduceMul, Nat.reduceLT, Nat.reduceLeDiff, ↓reduceIte, reduceCtorEq, Nat.reduceDiv, Nat.reducePow, Nat.reduceMod, c4]
          refine call_by (hs ⟨an, ae⟩ ⟨an, ae⟩ (by unfold maxL; simp only; omega) (by unfold maxL; simp only; omega)) ?_
          simp (config := { maxSteps := 1000000 }) (disch := first | omega | (simp only [List.length_set, List.length_append, List.length_cons, List.length_nil, List.length_replicate]; omega)) only [go_sem, Nat.reduceEqDiff, Nat.reduceBEq, Nat.reduceAdd, Nat.reduceSub, Nat.reduceMul, Nat.reduceLT, Nat.reduceLeDiff, ↓reduceIte, reduceCtorEq, Nat.reduceDiv, Nat.reducePow, Nat.reduceMod]
          refine call_by (hm ⟨mn, me⟩ ⟨mn, me⟩ (by unfold maxL; simp only; omega) (by unfold maxL; simp only; omega)) ?_
          simp (config := { maxSteps := 1000000 }) (disch := first | omega | (simp only [List.length_set, List.length_append, List.length_cons, List.length_nil, List.length_replicate]; omega)) only [go_sem, Nat.reduceEqDiff, Nat.reduceBEq, Nat.reduceAdd, Nat.reduceSub, Nat.reduceMul, Nat.reduceLT, Nat.reduceLeDiff, ↓reduceIte, reduceCtorEq, Nat.reduceDiv, Nat.reducePow, Nat.reduceMod]
        · obtain rfl : e = 0 := by simpa using c4
          obtain ⟨k1, k2, k3⟩ := hok hrm
          simp only at k1 k2 k3
          simp (config := { maxSteps := 1000000 }) (disch := first | omega | (simp only [List.length_set, List.length_append, List.length_cons, List.length_nil, List.length_replicate]; omega)) only [go_sem, Nat.reduceEqDiff, Nat.reduceBEq, Nat.reduceAdd, Nat.reduceSub, Nat.reduceMul, Nat.reduceLT, Nat.reduceLeDiff, ↓reduceIte, reduceCtorEq, Nat.reduceDiv, Nat.reducePow, Nat.reduceMod, c4]
          refine W_loop (fun i : Nat => {
      sl :=
        [(3, D.pt 0 0), (7, D.pt 3 0), (8, D.pt 6 0), (88, D.sl 4 0 mn.length), (89, D.int IntKind.i64 ↑mn.length),
          (90, D.int IntKind.i64 i)],
      hp :=
        [(0, Ent.box [D.lst 1 (ints gn), D.lst 3 (eds ge)]), (1, Ent.arr 1 (ints an)), (2, Ent.arr 3 (eds ae)),
          (3, Ent.box [D.sl 1 0 an.length, D.sl 2 0 ae.length]), (4, Ent.arr 1 (ints mn)), (5, Ent.arr 1 (ints me)),
          (6, Ent.box [D.sl 4 0 mn.length, D.sl 5 0 me.length])],
      nx := 7 }) (fun i => i ≤ mn.length) (fun i => mn.length - i) 0 ?_ ?_ ?_
          · simp (config := { maxSteps := 1000000 }) (disch := first | omega | (simp only [List.length_set, List.length_append, List.length_cons, List.length_nil, List.length_replicate]; omega)) only [go_sem, Nat.reduceEqDiff, Nat.reduceBEq, Nat.reduceAdd, Nat.reduceSub, Nat.reduceMul, Nat.reduceLT, Nat.reduceLeDiff, ↓reduceIte, reduceCtorEq, Nat.reduceDiv, Nat.reducePow, Nat.reduceMod]
            rfl
          · omega
          · intro i hi
            simp (config := { maxSteps := 1000000 }) (disch := first | omega | (simp only [List.length_set, List.length_append, List.length_cons, List.length_nil, List.length_replicate]; omega)) only [go_sem, Nat.reduceEqDiff, Nat.reduceBEq, Nat.reduceAdd, Nat.reduceSub, Nat.reduceMul, Nat.reduceLT, Nat.reduceLeDiff, ↓reduceIte, reduceCtorEq, Nat.reduceDiv, Nat.reducePow, Nat.reduceMod, c_l05_GraphRemove_b13]
            refine bran_dec (fun h => ?_) (fun h => ?_)
            · obtain ⟨l1, l2⟩ := k1 i (by omega)
              simp (config := { maxSteps := 1000000 }) (disch := first | omega | (simp only [List.length_set, List.length_append, List.length_cons, List.length_nil, List.length_replicate]; omega)) only [go_sem, Nat.reduceEqDiff, Nat.reduceBEq, Nat.reduceAdd, Nat.reduceSub, Nat.reduceMul, Nat.reduceLT, Nat.reduceLeDiff, ↓reduceIte, reduceCtorEq, Nat.reduceDiv, Nat.reducePow, Nat.reduceMod]
              refine bran_dec (fun h3 => ?_) (fun h3 => ?_)
              · obtain ⟨l3, l4⟩ := l2 h3
                simp (config := { maxSteps := 1000000 }) (disch := first | omega | (simp only [List.length_set, List.length_append, List.length_cons, List.length_nil, List.length_replicate]; omega)) only [go_sem, Nat.reduceEqDiff, Nat.reduceBEq, Nat.reduceAdd, Nat.reduceSub, Nat.reduceMul, Nat.reduceLT, Nat.reduceLeDiff, ↓reduceIte, reduceCtorEq, Nat.reduceDiv, Nat.reducePow, Nat.reduceMod, h3, l4]
                refine bran_dec (fun h4 => by omega) (fun h4 => ?_)
                simp (config := { maxSteps := 1000000 }) (disch := first | omega | (simp only [List.length_set, List.length_append, List.length_cons, List.length_nil, List.length_replicate]; omega)) only [go_sem, Nat.reduceEqDiff, Nat.reduceBEq, Nat.reduceAdd, Nat.reduceSub, Nat.reduceMul, Nat.reduceLT, Nat.reduceLeDiff, ↓reduceIte, reduceCtorEq, Nat.reduceDiv, Nat.reducePow, Nat.reduceMod, h3, l4, h4]
                exact ⟨i + 1, by simp, by omega, by omega⟩
              · simp (config := { maxSteps := 1000000 }) (disch := first | omega | (simp only [List.length_set, List.length_append, List.length_cons, List.length_nil, List.length_replicate]; omega)) only [go_sem, Nat.reduceEqDiff, Nat.reduceBEq, Nat.reduceAdd, Nat.reduceSub, Nat.reduceMul, Nat.reduceLT, Nat.reduceLeDiff, ↓reduceIte, reduceCtorEq, Nat.reduceDiv, Nat.reducePow, Nat.reduceMod, h3]
                exact ⟨i + 1, by simp, by omega, by omega⟩
            · obtain rfl : i = mn.length := by omega
              simp (config := { maxSteps := 1000000 }) (disch := first | omega | (simp only [List.length_set, List.length_append, List.length_cons, List.length_nil, List.length_replicate]; omega)) only [go_sem, Nat.reduceEqDiff, Nat.reduceBEq, Nat.reduceAdd, Nat.reduceSub, Nat.reduceMul, Nat.reduceLT, Nat.reduceLeDiff, ↓reduceIte, reduceCtorEq, Nat.reduceDiv, Nat.reducePow, Nat.reduceMod]
              refine W_loop (fun i : Nat => {
      sl :=
        [(3, D.pt 0 0), (7, D.pt 3 0), (8, D.pt 6 0), (119, D.sl 5 0 me.length), (120, D.int IntKind.i64 ↑me.length),
          (121, D.int IntKind.i64 i)],
      hp :=
        [(0, Ent.box [D.lst 1 (ints gn), D.lst 3 (eds ge)]), (1, Ent.arr 1 (ints an)), (2, Ent.arr 3 (eds ae)),
          (3, Ent.box [D.sl 1 0 an.length, D.sl 2 0 ae.length]), (4, Ent.arr 1 (ints mn)), (5, Ent.arr 1 (ints me)),
          (6, Ent.box [D.sl 4 0 mn.length, D.sl 5 0 me.length])],
      nx := 7 }) (fun i => i ≤ me.length) (fun i => me.length - i) 0 ?_ ?_ ?_
              · simp (config := { maxSteps := 1000000 }) (disch := first | omega | (simp only [List.length_set, List.length_append, List.length_cons, List.length_nil, List.length_replicate]; omega)) only [go_sem, Nat.reduceEqDiff, Nat.reduceBEq, Nat.reduceAdd, Nat.reduceSub, Nat.reduceMul, Nat.reduceLT, Nat.reduceLeDiff, ↓reduceIte, reduceCtorEq, Nat.reduceDiv, Nat.reducePow, Nat.reduceMod]
                rfl
              · omega
              · intro i hi
                simp (config := { maxSteps := 1000000 }) (disch := first | omega | (simp only [List.length_set, List.length_append, List.length_cons, List.length_nil, List.length_replicate]; omega)) only [go_sem, Nat.reduceEqDiff, Nat.reduceBEq, Nat.reduceAdd, Nat.reduceSub, Nat.reduceMul, Nat.reduceLT, Nat.reduceLeDiff, ↓reduceIte, reduceCtorEq, Nat.reduceDiv, Nat.reducePow, Nat.reduceMod, c_l05_GraphRemove_b21]
                refine bran_dec (fun h => ?_) (fun h => ?_)
                · obtain ⟨l1, l2⟩ := k2 i (by omega)
                  simp (config := { maxSteps := 1000000 }) (disch := first | omega | (simp only [List.length_set, List.length_append, List.length_cons, List.length_nil, List.length_replicate]; omega)) only [go_sem, Nat.reduceEqDiff, Nat.reduceBEq, Nat.reduceAdd, Nat.reduceSub, Nat.reduceMul, Nat.reduceLT, Nat.reduceLeDiff, ↓reduceIte, reduceCtorEq, Nat.reduceDiv, Nat.reducePow, Nat.reduceMod]
                  refine bran_dec (fun h3 => ?_) (fun h3 => ?_)
                  · obtain ⟨l3, l4⟩ := l2 h3
                    simp (config := { maxSteps := 1000000 }) (disch := first | omega | (simp only [List.length_set, List.length_append, List.length_cons, List.length_nil, List.length_replicate]; omega)) only [go_sem, Nat.reduceEqDiff, Nat.reduceBEq, Nat.reduceAdd, Nat.reduceSub, Nat.reduceMul, Nat.reduceLT, Nat.reduceLeDiff, ↓reduceIte, reduceCtorEq, Nat.reduceDiv, Nat.reducePow, Nat.reduceMod, h3, l4]
                    refine bran_dec (fun h4 => by omega) (fun h4 => ?_)
                    have hx := k3 (gt ge i) (gt_mem (by omega) (by omega))
                    simp (config := { maxSteps := 1000000 }) (disch := first | omega | (simp only [List.length_set, List.length_append, List.length_cons, List.length_nil, List.length_replicate]; omega)) only [go_sem, Nat.reduceEqDiff, Nat.reduceBEq, Nat.reduceAdd, Nat.reduceSub, Nat.reduceMul, Nat.reduceLT, Nat.reduceLeDiff, ↓reduceIte, reduceCtorEq, Nat.reduceDiv, Nat.reducePow, Nat.reduceMod, h3, l4, h4, remE]
                    exact ⟨i + 1, by simp, by omega, by omega⟩
                  · simp (config := { maxSteps := 1000000 }) (disch := first | omega | (simp only [List.length_set, List.length_append, List.length_cons, List.length_nil, List.length_replicate]; omega)) only [go_sem, Nat.reduceEqDiff, Nat.reduceBEq, Nat.reduceAdd, Nat.reduceSub, Nat.reduceMul, Nat.reduceLT, Nat.reduceLeDiff, ↓reduceIte, reduceCtorEq, Nat.reduceDiv, Nat.reducePow, Nat.reduceMod, h3]
                    exact ⟨i + 1, by simp, by omega, by omega⟩
                · obtain rfl : i = me.length := by omega
                  simp (config := { maxSteps := 1000000 }) (disch := first | omega | (simp only [List.length_set, List.length_append, List.length_cons, List.length_nil, List.length_replicate]; omega)) only [go_sem, Nat.reduceEqDiff, Nat.reduceBEq, Nat.reduceAdd, Nat.reduceSub, Nat.reduceMul, Nat.reduceLT, Nat.reduceLeDiff, ↓reduceIte, reduceCtorEq, Nat.reduceDiv, Nat.reducePow, Nat.reduceMod]
end
end Go.Am
