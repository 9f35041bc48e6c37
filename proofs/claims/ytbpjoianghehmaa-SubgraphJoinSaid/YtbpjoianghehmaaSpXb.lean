/- Chapter 07: helpers of the laws; the laws Valid, Close, Join, Image, Adjoint, Extract, Boundary. -/
import Derived.Test.YtbpjoianghehmaaSpPa
import Derived.Test.YtbpjoianghehmaaSpPb
import Derived.Test.YtbpjoianghehmaaSpPc
import Derived.Test.YtbpjoianghehmaaSpXa
namespace Go.Am
open Go
set_option linter.unusedVariables false
set_option linter.unusedSimpArgs false
attribute [local irreducible] W
/- slices.IndexFunc.apiPart -/
def c_slices_IndexFunc_apiPart_r0 (F : String → Nat) : List LI := [⟨some 4, .mov (.k (.int .i64 (0))), none⟩]
def c_slices_IndexFunc_apiPart_r1 (F : String → Nat) : List LI := [⟨some 6, .mov (.t 0), none⟩,
  ⟨some 7, .len (.t 6), none⟩,
  ⟨some 8, .mov (.k (.int .i64 (0))), none⟩]
def c_slices_IndexFunc_apiPart_r2 (F : String → Nat) : List LI := [⟨some 9, .bin .lss (.t 8) (.t 7), none⟩]
def c_slices_IndexFunc_apiPart_r3 (F : String → Nat) : List LI := [⟨some 10, .mov (.t 8), none⟩,
  ⟨some 5, .mov (.t 10), none⟩]
def c_slices_IndexFunc_apiPart_r4 (F : String → Nat) : List LI := [⟨some 11, .mov (.t 1), none⟩,
  ⟨some 12, .mov (.t 0), none⟩,
  ⟨some 13, .mov (.t 5), none⟩,
  ⟨some 14, .iad 2 (.t 12) (.t 13), none⟩,
  ⟨some 15, .load true 2 (.t 14), none⟩,
  ⟨some 16, .callv (.t 11) [.t 15], none⟩]
def c_slices_IndexFunc_apiPart_r5 (F : String → Nat) : List LI := [⟨some 17, .mov (.t 5), none⟩,
  ⟨some 4, .mov (.t 17), none⟩]
def c_slices_IndexFunc_apiPart_r6 (F : String → Nat) : List LI := [⟨some 18, .bin .add (.t 8) (.k (.int .i64 (1))), none⟩,
  ⟨some 8, .mov (.t 18), none⟩]
def c_slices_IndexFunc_apiPart_b7 (F : String → Nat) : LC := (.seq (.reg (c_slices_IndexFunc_apiPart_r2 F) [0, 1, 7, 8, 9]) (.seq (.cond (.t 9) .skip (.exit 0)) (.seq (.block 1 (.seq (.reg (c_slices_IndexFunc_apiPart_r3 F) [0, 1, 5, 7, 8]) (.seq (.reg (c_slices_IndexFunc_apiPart_r4 F) [0, 1, 5, 7, 8, 16]) (.cond (.t 16) (.seq (.reg (c_slices_IndexFunc_apiPart_r5 F) [4]) .ret) .skip)))) (.reg (c_slices_IndexFunc_apiPart_r6 F) [0, 1, 7, 8]))))
def c_slices_IndexFunc_apiPart_r8 (F : String → Nat) : List LI := [⟨some 4, .mov (.k (.int .i64 (-1))), none⟩]
def c_slices_IndexFunc_apiPart (F : String → Nat) : LC := (.seq (.reg (c_slices_IndexFunc_apiPart_r0 F) [0, 1]) (.seq (.seq (.reg (c_slices_IndexFunc_apiPart_r1 F) [0, 1, 7, 8]) (.block 0 (.loop [0, 1, 7, 8] (c_slices_IndexFunc_apiPart_b7 F)))) (.seq (.reg (c_slices_IndexFunc_apiPart_r8 F) [4]) .ret)))
def h_slices_IndexFunc_apiPart : Hints := ⟨[], fun _ => [], tab [(0, [0, 1]), (1, [0, 1, 7, 8]), (2, [0, 1, 7, 8, 9]), (3, [0, 1, 5, 7, 8]), (4, [0, 1, 5, 7, 8, 16]), (5, [4]), (6, [0, 1, 7, 8]), (7, [4])], tab [(2, [0, 1, 7, 8])]⟩

/- slices.ContainsFunc.apiPart -/
def c_slices_ContainsFunc_apiPart_r0 (F : String → Nat) : List LI := [⟨some 4, .mov (.k (.bool false)), none⟩]
def c_slices_ContainsFunc_apiPart_r1 (F : String → Nat) : List LI := [⟨some 5, .mov (.t 0), none⟩,
  ⟨some 6, .mov (.t 1), none⟩,
  ⟨some 7, .call (F "slices.IndexFunc.apiPart") [.t 5, .t 6] [], none⟩,
  ⟨some 8, .bin .geq (.t 7) (.k (.int .i64 (0))), none⟩,
  ⟨some 4, .mov (.t 8), none⟩]
def c_slices_ContainsFunc_apiPart (F : String → Nat) : LC := (.seq (.reg (c_slices_ContainsFunc_apiPart_r0 F) [0, 1]) (.seq (.reg (c_slices_ContainsFunc_apiPart_r1 F) [4]) .ret))
def h_slices_ContainsFunc_apiPart : Hints := ⟨[], fun _ => [], tab [(0, [0, 1]), (1, [4])], tab []⟩

/- l07.own -/
def c_l07_own_r0 (F : String → Nat) : List LI := [⟨some 1, .bx (.t 0), none⟩,
  ⟨some 2, .alloc [.nl 1, .nl 1], none⟩]
def c_l07_own_r1 (F : String → Nat) : List LI := [⟨some 3, .fad 0 (.t 1), none⟩,
  ⟨some 4, .load false 1 (.t 3), none⟩,
  ⟨some 5, .call (F "slices.Clone.I") [.t 4] [], none⟩,
  ⟨some 6, .fad 1 (.t 1), none⟩,
  ⟨some 7, .load false 1 (.t 6), none⟩,
  ⟨some 8, .call (F "slices.Clone.I") [.t 7] [], none⟩,
  ⟨some 9, .build [.nl 1, .nl 1] [(0, 1, .t 5), (1, 1, .t 8)], none⟩,
  ⟨none, .store 2 (.t 2) (.t 9), none⟩]
def c_l07_own (F : String → Nat) : LC := (.seq (.reg (c_l07_own_r0 F) [1, 2]) (.seq (.dreg [(2, none, [], true), (4, (some 8), [2], false)] (c_l07_own_r1 F) [2]) .ret))
def h_l07_own : Hints := ⟨[], fun _ => [], tab [(0, [1, 2]), (1, [2])], tab []⟩

/- l07.small -/
def c_l07_small_r0 (F : String → Nat) : List LI := [⟨some 2, .bx (.t 0), none⟩,
  ⟨some 4, .mov (.k (.bool false)), none⟩]
def c_l07_small_r1 (F : String → Nat) : List LI := [⟨some 5, .load true 2 (.t 2), none⟩,
  ⟨some 6, .call (F "r05.Few") [.t 5] [], none⟩,
  ⟨some 7, .mov (.t 6), none⟩,
  ⟨some 8, .mov (.t 1), some (7, true)⟩,
  ⟨some 9, .call (F "slices.ContainsFunc.apiPart") [.t 8, .k (.clo (F "l07.small.1") [])] [], some (7, true)⟩,
  ⟨some 10, .not (.t 9), some (7, true)⟩,
  ⟨some 11, .pick (.t 7) (.t 10) (.k (.bool false)), none⟩,
  ⟨some 4, .mov (.t 11), none⟩]
def c_l07_small (F : String → Nat) : LC := (.seq (.reg (c_l07_small_r0 F) [1, 2]) (.seq (.reg (c_l07_small_r1 F) [4]) .ret))
def h_l07_small : Hints := ⟨[], fun _ => [], tab [(0, [1, 2]), (1, [4])], tab []⟩

/- l07.small.1 -/
def c_l07_small_1_r0 (F : String → Nat) : List LI := [⟨some 1, .bx (.t 0), none⟩,
  ⟨some 2, .mov (.k (.bool false)), none⟩]
def c_l07_small_1_r1 (F : String → Nat) : List LI := [⟨some 3, .load true 2 (.t 1), none⟩,
  ⟨some 4, .call (F "r07.Few") [.t 3, .k (.int .i64 (150))] [], none⟩,
  ⟨some 5, .not (.t 4), none⟩,
  ⟨some 2, .mov (.t 5), none⟩]
def c_l07_small_1 (F : String → Nat) : LC := (.seq (.reg (c_l07_small_1_r0 F) [1]) (.seq (.reg (c_l07_small_1_r1 F) [2]) .ret))
def h_l07_small_1 : Hints := ⟨[], fun _ => [], tab [(0, [1]), (1, [2])], tab []⟩

/- l07.SubgraphJoin -/
def c_l07_SubgraphJoin_r0 (F : String → Nat) : List LI := [⟨some 3, .bx (.t 0), none⟩,
  ⟨some 4, .bx (.t 1), none⟩,
  ⟨some 5, .bx (.t 2), none⟩,
  ⟨some 6, .mov (.k (.bool false)), none⟩]
def c_l07_SubgraphJoin_r1 (F : String → Nat) : List LI := [⟨some 19, .call (F "l07.awake") [] [], none⟩,
  ⟨some 20, .not (.t 19), none⟩,
  ⟨some 21, .mov (.t 20), none⟩,
  ⟨some 22, .load true 2 (.t 3), some (21, false)⟩,
  ⟨some 23, .load true 2 (.t 4), some (21, false)⟩,
  ⟨some 24, .load true 2 (.t 5), some (21, false)⟩,
  ⟨some 25, .buildSl 2 48 (.agg [.lst 1 [], .lst 1 []]) 2 [(0, .t 23), (1, .t 24)], some (21, false)⟩,
  ⟨some 26, .call (F "l07.small") [.t 22, .t 25] [], some (21, false)⟩,
  ⟨some 27, .not (.t 26), some (21, false)⟩,
  ⟨some 28, .pick (.t 21) (.k (.bool true)) (.t 27), none⟩]
def c_l07_SubgraphJoin_r2 (F : String → Nat) : List LI := [⟨some 29, .call (F "l07.awake") [] [], none⟩,
  ⟨some 6, .mov (.t 29), none⟩]
def c_l07_SubgraphJoin_r3 (F : String → Nat) : List LI := [⟨some 31, .load true 2 (.t 3), none⟩,
  ⟨some 32, .call (F "r05.Copied") [.t 31] [], none⟩,
  ⟨some 33, .load true 2 (.t 4), none⟩,
  ⟨some 34, .call (F "l07.own") [.t 33] [], none⟩,
  ⟨some 35, .load true 2 (.t 5), none⟩,
  ⟨some 36, .call (F "l07.own") [.t 35] [], none⟩,
  ⟨some 37, .call (F "subgraph.Join") [.t 32, .t 34, .t 36] [], none⟩,
  ⟨some 30, .mov (.t 37), none⟩,
  ⟨some 38, .ext (.t 30) 0, none⟩,
  ⟨some 39, .ext (.t 30) 1, none⟩,
  ⟨some 7, .alloc [.nl 1, .nl 1], none⟩,
  ⟨none, .store 2 (.t 7) (.t 38), none⟩,
  ⟨some 8, .mov (.t 39), none⟩]
def c_l07_SubgraphJoin_r4 (F : String → Nat) : List LI := [⟨some 41, .load true 2 (.t 3), none⟩,
  ⟨some 42, .load true 2 (.t 4), none⟩,
  ⟨some 43, .load true 2 (.t 5), none⟩,
  ⟨some 44, .call (F "r07.Join") [.t 41, .t 42, .t 43] [], none⟩,
  ⟨some 40, .mov (.t 44), none⟩,
  ⟨some 45, .ext (.t 40) 0, none⟩,
  ⟨some 46, .ext (.t 40) 1, none⟩,
  ⟨some 9, .alloc [.nl 1, .nl 1], none⟩,
  ⟨none, .store 2 (.t 9) (.t 45), none⟩,
  ⟨some 10, .mov (.t 46), none⟩]
def c_l07_SubgraphJoin_r5 (F : String → Nat) : List LI := [⟨some 48, .load true 2 (.t 3), none⟩,
  ⟨some 49, .call (F "r05.Copied") [.t 48] [], none⟩,
  ⟨some 50, .load true 2 (.t 4), none⟩,
  ⟨some 51, .call (F "l07.own") [.t 50] [], none⟩,
  ⟨some 52, .load true 2 (.t 5), none⟩,
  ⟨some 53, .call (F "l07.own") [.t 52] [], none⟩,
  ⟨some 54, .call (F "subgraph.Meet") [.t 49, .t 51, .t 53] [], none⟩,
  ⟨some 47, .mov (.t 54), none⟩,
  ⟨some 55, .ext (.t 47) 0, none⟩,
  ⟨some 56, .ext (.t 47) 1, none⟩,
  ⟨some 11, .alloc [.nl 1, .nl 1], none⟩,
  ⟨none, .store 2 (.t 11) (.t 55), none⟩,
  ⟨some 12, .mov (.t 56), none⟩]
def c_l07_SubgraphJoin_r6 (F : String → Nat) : List LI := [⟨some 58, .load true 2 (.t 3), none⟩,
  ⟨some 59, .load true 2 (.t 4), none⟩,
  ⟨some 60, .load true 2 (.t 5), none⟩,
  ⟨some 61, .call (F "r07.Meet") [.t 58, .t 59, .t 60] [], none⟩,
  ⟨some 57, .mov (.t 61), none⟩,
  ⟨some 62, .ext (.t 57) 0, none⟩,
  ⟨some 63, .ext (.t 57) 1, none⟩,
  ⟨some 13, .alloc [.nl 1, .nl 1], none⟩,
  ⟨none, .store 2 (.t 13) (.t 62), none⟩,
  ⟨some 14, .mov (.t 63), none⟩]
def c_l07_SubgraphJoin_r7 (F : String → Nat) : List LI := [⟨some 64, .load true 2 (.t 7), none⟩,
  ⟨some 65, .load true 2 (.t 9), none⟩,
  ⟨some 66, .call (F "r07.Same") [.t 64, .t 65] [], none⟩,
  ⟨some 67, .not (.t 66), none⟩,
  ⟨some 68, .mov (.t 67), none⟩,
  ⟨some 69, .mov (.t 8), some (68, false)⟩,
  ⟨some 70, .mov (.t 10), some (68, false)⟩,
  ⟨some 71, .bin .neq (.t 69) (.t 70), some (68, false)⟩,
  ⟨some 72, .pick (.t 68) (.k (.bool true)) (.t 71), none⟩,
  ⟨some 73, .mov (.t 72), none⟩,
  ⟨some 74, .load true 2 (.t 11), some (73, false)⟩,
  ⟨some 75, .load true 2 (.t 13), some (73, false)⟩,
  ⟨some 76, .call (F "r07.Same") [.t 74, .t 75] [], some (73, false)⟩,
  ⟨some 77, .not (.t 76), some (73, false)⟩,
  ⟨some 78, .pick (.t 73) (.k (.bool true)) (.t 77), none⟩,
  ⟨some 79, .mov (.t 78), none⟩,
  ⟨some 80, .mov (.t 12), some (79, false)⟩,
  ⟨some 81, .mov (.t 14), some (79, false)⟩,
  ⟨some 82, .bin .neq (.t 80) (.t 81), some (79, false)⟩,
  ⟨some 83, .pick (.t 79) (.k (.bool true)) (.t 82), none⟩,
  ⟨some 84, .mov (.t 83), none⟩,
  ⟨some 85, .mov (.t 8), some (84, false)⟩,
  ⟨some 86, .bin .neq (.t 85) (.k (.int .i64 (0))), some (84, false)⟩,
  ⟨some 87, .pick (.t 84) (.k (.bool true)) (.t 86), none⟩]
def c_l07_SubgraphJoin_r8 (F : String → Nat) : List LI := [⟨some 88, .load true 2 (.t 7), none⟩,
  ⟨some 89, .load true 2 (.t 9), none⟩,
  ⟨some 90, .call (F "r07.Same") [.t 88, .t 89] [], none⟩,
  ⟨some 91, .mov (.t 90), none⟩,
  ⟨some 92, .mov (.t 8), some (91, true)⟩,
  ⟨some 93, .mov (.t 10), some (91, true)⟩,
  ⟨some 94, .bin .eql (.t 92) (.t 93), some (91, true)⟩,
  ⟨some 95, .pick (.t 91) (.t 94) (.k (.bool false)), none⟩,
  ⟨some 96, .mov (.t 95), none⟩,
  ⟨some 97, .load true 2 (.t 11), some (96, true)⟩,
  ⟨some 98, .load true 2 (.t 13), some (96, true)⟩,
  ⟨some 99, .call (F "r07.Same") [.t 97, .t 98] [], some (96, true)⟩,
  ⟨some 100, .pick (.t 96) (.t 99) (.k (.bool false)), none⟩,
  ⟨some 101, .mov (.t 100), none⟩,
  ⟨some 102, .mov (.t 12), some (101, true)⟩,
  ⟨some 103, .mov (.t 14), some (101, true)⟩,
  ⟨some 104, .bin .eql (.t 102) (.t 103), some (101, true)⟩,
  ⟨some 105, .pick (.t 101) (.t 104) (.k (.bool false)), none⟩,
  ⟨some 6, .mov (.t 105), none⟩]
def c_l07_SubgraphJoin_r9 (F : String → Nat) : List LI := [⟨some 107, .load true 2 (.t 3), none⟩,
  ⟨some 108, .load true 2 (.t 4), none⟩,
  ⟨some 109, .load true 2 (.t 7), none⟩,
  ⟨some 110, .call (F "subgraph.Meet") [.t 107, .t 108, .t 109] [], none⟩,
  ⟨some 106, .mov (.t 110), none⟩,
  ⟨some 111, .ext (.t 106) 0, none⟩,
  ⟨some 112, .ext (.t 106) 1, none⟩,
  ⟨some 15, .alloc [.nl 1, .nl 1], none⟩,
  ⟨none, .store 2 (.t 15) (.t 111), none⟩,
  ⟨some 16, .mov (.t 112), none⟩]
def c_l07_SubgraphJoin_r10 (F : String → Nat) : List LI := [⟨some 114, .load true 2 (.t 3), none⟩,
  ⟨some 115, .load true 2 (.t 4), none⟩,
  ⟨some 116, .load true 2 (.t 11), none⟩,
  ⟨some 117, .call (F "subgraph.Join") [.t 114, .t 115, .t 116] [], none⟩,
  ⟨some 113, .mov (.t 117), none⟩,
  ⟨some 118, .ext (.t 113) 0, none⟩,
  ⟨some 119, .ext (.t 113) 1, none⟩,
  ⟨some 17, .alloc [.nl 1, .nl 1], none⟩,
  ⟨none, .store 2 (.t 17) (.t 118), none⟩,
  ⟨some 18, .mov (.t 119), none⟩]
def c_l07_SubgraphJoin_r11 (F : String → Nat) : List LI := [⟨some 120, .mov (.t 16), none⟩,
  ⟨some 121, .bin .eql (.t 120) (.k (.int .i64 (0))), none⟩,
  ⟨some 122, .mov (.t 121), none⟩,
  ⟨some 123, .mov (.t 18), some (122, true)⟩,
  ⟨some 124, .bin .eql (.t 123) (.k (.int .i64 (0))), some (122, true)⟩,
  ⟨some 125, .pick (.t 122) (.t 124) (.k (.bool false)), none⟩,
  ⟨some 126, .mov (.t 125), none⟩,
  ⟨some 127, .load true 2 (.t 15), some (126, true)⟩,
  ⟨some 128, .load true 2 (.t 4), some (126, true)⟩,
  ⟨some 129, .call (F "r07.Same") [.t 127, .t 128] [], some (126, true)⟩,
  ⟨some 130, .pick (.t 126) (.t 129) (.k (.bool false)), none⟩,
  ⟨some 131, .mov (.t 130), none⟩,
  ⟨some 132, .load true 2 (.t 17), some (131, true)⟩,
  ⟨some 133, .load true 2 (.t 4), some (131, true)⟩,
  ⟨some 134, .call (F "r07.Same") [.t 132, .t 133] [], some (131, true)⟩,
  ⟨some 135, .pick (.t 131) (.t 134) (.k (.bool false)), none⟩,
  ⟨some 6, .mov (.t 135), none⟩]
def c_l07_SubgraphJoin (F : String → Nat) : LC := (.seq (.reg (c_l07_SubgraphJoin_r0 F) [3, 4, 5]) (.seq (.seq (.reg (c_l07_SubgraphJoin_r1 F) [3, 4, 5, 28]) (.cond (.t 28) (.seq (.reg (c_l07_SubgraphJoin_r2 F) [6]) .ret) .skip)) (.seq (.dreg [(1, none, [], true), (2, (some 0), [1], false), (3, none, [], true), (4, (some 0), [1, 3], false)] (c_l07_SubgraphJoin_r3 F) [3, 4, 5, 7, 8]) (.seq (.reg (c_l07_SubgraphJoin_r4 F) [3, 4, 5, 7, 8, 9, 10]) (.seq (.dreg [(1, none, [], true), (2, (some 0), [1], false), (3, none, [], true), (4, (some 0), [1, 3], false)] (c_l07_SubgraphJoin_r5 F) [3, 4, 5, 7, 8, 9, 10, 11, 12]) (.seq (.reg (c_l07_SubgraphJoin_r6 F) [3, 4, 7, 8, 9, 10, 11, 12, 13, 14]) (.seq (.seq (.reg (c_l07_SubgraphJoin_r7 F) [3, 4, 7, 8, 9, 10, 11, 12, 13, 14, 87]) (.cond (.t 87) (.seq (.reg (c_l07_SubgraphJoin_r8 F) [6]) .ret) .skip)) (.seq (.reg (c_l07_SubgraphJoin_r9 F) [3, 4, 11, 15, 16]) (.seq (.reg (c_l07_SubgraphJoin_r10 F) [4, 15, 16, 17, 18]) (.seq (.reg (c_l07_SubgraphJoin_r11 F) [6]) .ret))))))))))
def h_l07_SubgraphJoin : Hints := ⟨[], fun _ => [], tab [(0, [3, 4, 5]), (1, [3, 4, 5, 28]), (2, [6]), (3, [3, 4, 5, 7, 8]), (4, [3, 4, 5, 7, 8, 9, 10]), (5, [3, 4, 5, 7, 8, 9, 10, 11, 12]), (6, [3, 4, 7, 8, 9, 10, 11, 12, 13, 14]), (7, [3, 4, 7, 8, 9, 10, 11, 12, 13, 14, 87]), (8, [6]), (9, [3, 4, 11, 15, 16]), (10, [4, 15, 16, 17, 18]), (11, [6])], tab []⟩

attribute [go_sem] c_slices_IndexFunc_apiPart_r0 c_slices_IndexFunc_apiPart_r1 c_slices_IndexFunc_apiPart_r2 c_slices_IndexFunc_apiPart_r3 c_slices_IndexFunc_apiPart_r4 c_slices_IndexFunc_apiPart_r5 c_slices_IndexFunc_apiPart_r6 c_slices_IndexFunc_apiPart_r8 c_slices_IndexFunc_apiPart c_slices_ContainsFunc_apiPart_r0 c_slices_ContainsFunc_apiPart_r1 c_slices_ContainsFunc_apiPart c_l07_own_r0 c_l07_own_r1 c_l07_own c_l07_small_r0 c_l07_small_r1 c_l07_small c_l07_small_1_r0 c_l07_small_1_r1 c_l07_small_1 c_l07_SubgraphJoin_r0 c_l07_SubgraphJoin_r1 c_l07_SubgraphJoin_r2 c_l07_SubgraphJoin_r3 c_l07_SubgraphJoin_r4 c_l07_SubgraphJoin_r5 c_l07_SubgraphJoin_r6 c_l07_SubgraphJoin_r7 c_l07_SubgraphJoin_r8 c_l07_SubgraphJoin_r9 c_l07_SubgraphJoin_r10 c_l07_SubgraphJoin_r11 c_l07_SubgraphJoin
def smallL (g : G) (l : List Mo) : Bool := few g && l.all fun m => fewM m 150
section
variable (P : Program) (F : String → Nat)
def K_slices_IndexFunc_apiPart : Prop := ∀ (l : List Mo), l.length ≤ maxL → ∀ (g : Nat) (cs : List D), cs.all okC2 = true → ∀ p : Mo → Bool, (∀ x, x ∈ l → FC P g (mD x :: cs) (.bool (p x)) []) → FC P (F "slices.IndexFunc.apiPart") [.lst 2 (pts l), .clo g cs] (.int .i64 (idx p l 0)) []
def K_slices_ContainsFunc_apiPart : Prop := ∀ (l : List Mo), l.length ≤ maxL → ∀ (g : Nat) (cs : List D), cs.all okC2 = true → ∀ p : Mo → Bool, (∀ x, x ∈ l → FC P g (mD x :: cs) (.bool (p x)) []) → FC P (F "slices.ContainsFunc.apiPart") [.lst 2 (pts l), .clo g cs] (.bool (l.any p)) []
def K_l07_own : Prop := ∀ m : Mo, m.n.length ≤ 1000000 → m.e.length ≤ 1000000 → FC P (F "l07.own") [mD m] (mA m) []
def K_l07_small_1 : Prop := ∀ m : Mo, m.sm → FC P (F "l07.small.1") [mD m] (.bool (!fewM m 150)) []
def K_l07_small : Prop := ∀ (g : G) (l : List Mo), l.length ≤ 1000 → (∀ m ∈ l, m.sm) → FC P (F "l07.small") [gD g, .lst 2 (pts l)] (.bool (smallL g l)) []
def K_l07_SubgraphJoin : Prop := ∀ (g : G) (p q : Mo), p.sm → q.sm → FC P (F "l07.SubgraphJoin") [gD g, mD p, mD q] (.bool true) []
end
section
variable {P : Program} {F : String → Nat} {α : Type}
theorem w_slices_IndexFunc_apiPart (l : List Mo) (hl : l.length ≤ maxL) (g : Nat) (cs : List D) (hcs : cs.all okC2 = true) (p : Mo → Bool) (hg : ∀ x, x ∈ l → FC P g (mD x :: cs) (.bool (p x)) []) : W P (c_slices_IndexFunc_apiPart F) (Done [.t 4] [] (.int .i64 (idx p l 0)) []) (init [.lst 2 (pts l), .clo g cs]) := by
  refine W_of ?_
  unfold maxL at hl
  have e1 := caps_lend2 hcs
  have e2 := caps_ren hcs
  have pl := pts_length l
  simp (config := { maxSteps := 1000000 }) (disch := first | omega | (simp only [go_sem]; omega)) only [go_sem, ↓reduceIte, pl]
  refine W_loop (fun i : Nat => ⟨[(0, .lst 2 (pts l)), (1, .clo g cs), (7, .int .i64 l.length), (8, .int .i64 i)], [], 0⟩) (fun i => i ≤ l.length ∧ idx p l 0 = idx p (l.drop i) i) (fun i => l.length - i) 0 ?_ ?_ ?_
  · simp (config := { maxSteps := 1000000 }) (disch := first | omega | (simp only [go_sem]; omega)) only [go_sem, ↓reduceIte, e2, pl]
    rfl
  · simp
  · intro i hi
    by_cases h : i < l.length
    · have d1 : decide ((i : Int) < l.length) = true := decide_eq_true (by omega)
      have hd := idx_drop p l i (by omega)
      have r := hg _ (gt_mem (l := l) (j := (i : Int)) (by omega) (by omega))
      simp only [mD] at r
      simp (config := { maxSteps := 1000000 }) (disch := first | omega | (simp only [go_sem]; omega)) only [go_sem, ↓reduceIte, c_slices_IndexFunc_apiPart_b7, d1, e1, pl]
      refine call_by r ?_
      simp (config := { maxSteps := 1000000 }) (disch := first | omega | (simp only [go_sem]; omega)) only [go_sem, ↓reduceIte]
      refine bran_by (fun h2 => ?_) (fun h2 => ?_)
      · simp (config := { maxSteps := 1000000 }) (disch := first | omega | (simp only [go_sem]; omega)) only [go_sem, ↓reduceIte]
        rw [hi.2, hd, if_pos h2]
      · simp (config := { maxSteps := 1000000 }) (disch := first | omega | (simp only [go_sem]; omega)) only [go_sem, ↓reduceIte, e2]
        exact ⟨i + 1, by simp, ⟨by omega, by rw [hi.2, hd, if_neg (by simp [h2])]⟩, by omega⟩
    · have d1 : decide ((i : Int) < l.length) = false := decide_eq_false (by omega)
      simp (config := { maxSteps := 1000000 }) (disch := first | omega | (simp only [go_sem]; omega)) only [go_sem, ↓reduceIte, c_slices_IndexFunc_apiPart_b7, d1]
      rw [hi.2, List.drop_of_length_le (by omega)]
      rfl
theorem w_slices_ContainsFunc_apiPart (hi : K_slices_IndexFunc_apiPart P F) (l : List Mo) (hl : l.length ≤ maxL) (g : Nat) (cs : List D) (hcs : cs.all okC2 = true) (p : Mo → Bool) (hg : ∀ x, x ∈ l → FC P g (mD x :: cs) (.bool (p x)) []) : W P (c_slices_ContainsFunc_apiPart F) (Done [.t 4] [] (.bool (l.any p)) []) (init [.lst 2 (pts l), .clo g cs]) := by
  refine W_of ?_
  have r := hi l hl g cs hcs p hg
  have hge := idx_ge p l 0 (by omega)
  have e0 := caps_lend hcs
  generalize idx p l 0 = ix at *
  simp (config := { maxSteps := 1000000 }) (disch := first | omega | (simp only [go_sem]; omega)) only [go_sem, ↓reduceIte, e0]
  refine call_by r ?_
  simp (config := { maxSteps := 1000000 }) (disch := first | omega | (simp only [go_sem]; omega)) only [go_sem, ↓reduceIte]
  try rw [hge]
theorem w_l07_own (hc : K_slices_Clone_I P F) (m : Mo) (h1 : m.n.length ≤ 1000000) (h2 : m.e.length ≤ 1000000) : W P (c_l07_own F) (Done [.c 2 true 2] [] (mA m) []) (init [mD m]) := by
  refine W_of ?_
  have r1 := hc m.n (by omega)
  have r2 := hc m.e (by omega)
  simp only [mD, mA]
  simp (config := { maxSteps := 1000000 }) (disch := first | omega | (simp only [go_sem]; omega)) only [go_sem, ↓reduceIte]
  refine call_by r1 ?_
  simp (config := { maxSteps := 1000000 }) (disch := first | omega | (simp only [go_sem]; omega)) only [go_sem, ↓reduceIte]
  refine call_by r2 ?_
  simp (config := { maxSteps := 1000000 }) (disch := first | omega | (simp only [go_sem]; omega)) only [go_sem, ↓reduceIte]
  try rfl
theorem w_l07_small_1 (hf : K_r07_Few P F) (m : Mo) (h : m.sm) : W P (c_l07_small_1 F) (Done [.t 2] [] (.bool (!fewM m 150)) []) (init [mD m]) := by
  refine W_of ?_
  have r1 := hf m 150 h.1 h.2
  generalize fewM m 150 = b at *
  simp only [mD] at *
  simp (config := { maxSteps := 1000000 }) (disch := first | omega | (simp only [go_sem]; omega)) only [go_sem, ↓reduceIte]
  refine call_by r1 ?_
  simp (config := { maxSteps := 1000000 }) (disch := first | omega | (simp only [go_sem]; omega)) only [go_sem, ↓reduceIte]
theorem w_l07_small (hg : K_r05_Few P F) (hc : K_slices_ContainsFunc_apiPart P F) (h1 : K_l07_small_1 P F) (g : G) (l : List Mo) (hl : l.length ≤ 1000) (hm : ∀ m ∈ l, m.sm) : W P (c_l07_small F) (Done [.t 4] [] (.bool (smallL g l)) []) (init [gD g, .lst 2 (pts l)]) := by
  refine W_of ?_
  have r1 := hg g
  have r2 := hc l (by unfold maxL; omega) (F "l07.small.1") [] rfl _ (fun x hx => h1 x (hm x hx))
  have e : smallL g l = (few g && !l.any fun m => !fewM m 150) := by
    unfold smallL
    rw [List.all_eq_not_any_not]
  rw [e]
  generalize few g = b1 at *
  generalize (l.any fun m => !fewM m 150) = b2 at *
  simp only [gD] at *
  cases b1
  · simp (config := { maxSteps := 1000000 }) (disch := first | omega | (simp only [go_sem]; omega)) only [go_sem, ↓reduceIte]
    refine call_by r1 ?_
    simp (config := { maxSteps := 1000000 }) (disch := first | omega | (simp only [go_sem]; omega)) only [go_sem, ↓reduceIte]
    try simp
  · simp (config := { maxSteps := 1000000 }) (disch := first | omega | (simp only [go_sem]; omega)) only [go_sem, ↓reduceIte]
    refine call_by r1 ?_
    simp (config := { maxSteps := 1000000 }) (disch := first | omega | (simp only [go_sem]; omega)) only [go_sem, ↓reduceIte]
    refine call_by r2 ?_
    simp (config := { maxSteps := 1000000 }) (disch := first | omega | (simp only [go_sem]; omega)) only [go_sem, ↓reduceIte]
    try simp
theorem few_len {g : G} (h : few g = true) : g.n.length ≤ 45 ∧ g.e.length ≤ 90 := by
  simp only [few, Bool.and_eq_true, decide_eq_true_eq] at h
  exact h
theorem fewM_len {m : Mo} {n : Int} (h : fewM m n = true) : (m.n.length : Int) + m.e.length ≤ n := by
  simpa only [fewM, decide_eq_true_eq] using h
theorem joinR_len (g : G) (p q : Mo) : (joinR g p q).1.n.length ≤ 1000 ∧ (joinR g p q).1.e.length ≤ 1000 := by
  unfold joinR
  split
  · simp [m0]
  · rename_i h
    obtain ⟨k1, k2⟩ := joinE_ok.1 (Decidable.not_not.1 h)
    have := (joinP_ok k1 k2).len
    simp only
    omega
theorem meetR_len (g : G) (p q : Mo) : (meetR g p q).1.n.length ≤ 1000 ∧ (meetR g p q).1.e.length ≤ 1000 := by
  unfold meetR
  split
  · simp [m0]
  · rename_i h
    obtain ⟨k1, k2⟩ := joinE_ok.1 (Decidable.not_not.1 h)
    have := (meetP_ok k1 k2).len
    simp only
    omega
theorem joinR_ok {g : G} {p q : Mo} (h1 : PK g p) (h2 : PK g q) : joinR g p q = (joinP p q, 0) := by
  unfold joinR
  rw [if_neg (by simp [joinE_ok.2 ⟨h1, h2⟩])]
theorem meetR_ok {g : G} {p q : Mo} (h1 : PK g p) (h2 : PK g q) : meetR g p q = (meetP p q, 0) := by
  unfold meetR
  rw [if_neg (by simp [joinE_ok.2 ⟨h1, h2⟩])]
theorem joinR_err {g : G} {p q : Mo} (h : joinE g p q ≠ 0) : joinR g p q = (m0, joinE g p q) ∧ meetR g p q = (m0, joinE g p q) := by
  unfold joinR meetR
  rw [if_pos h, if_pos h]
  exact ⟨rfl, rfl⟩
set_option maxHeartbeats 4000000 in
theorem w_l07_SubgraphJoin (hw : K_l07_awake P F) (hf : K_l07_small P F) (hcp : K_r05_Copied P F) (ho : K_l07_own P F) (h1 : K_subgraph_Join P F) (h2 : K_r07_Join P F) (h3 : K_subgraph_Meet P F) (h4 : K_r07_Meet P F) (hs : K_r07_Same P F)
    (g : G) (p q : Mo) (hp : p.sm) (hq : q.sm) : W P (c_l07_SubgraphJoin F) (Done [.t 6] [] (.bool true) []) (init [gD g, mD p, mD q]) := by
  refine W_of ?_
  have r1 := hf g [p, q] (by simp) (by intro m hm; simp only [List.mem_cons, List.not_mem_nil, or_false] at hm; rcases hm with rfl | rfl <;> assumption)
  simp only [pts, List.map_cons, List.map_nil] at r1
  cases c : smallL g [p, q]
  · rw [c] at r1
    simp only [gD, mD] at *
    simp (config := { maxSteps := 1000000 }) (disch := first | omega | (simp only [go_sem]; omega)) only [go_sem, ↓reduceIte]
    refine call_by hw ?_
    simp (config := { maxSteps := 1000000 }) (disch := first | omega | (simp only [go_sem]; omega)) only [go_sem, ↓reduceIte]
    refine call_by r1 ?_
    simp (config := { maxSteps := 1000000 }) (disch := first | omega | (simp only [go_sem]; omega)) only [go_sem, ↓reduceIte]
    refine call_by hw ?_
    simp (config := { maxSteps := 1000000 }) (disch := first | omega | (simp only [go_sem]; omega)) only [go_sem, ↓reduceIte]
  rw [c] at r1
  simp only [smallL, List.all_cons, List.all_nil, Bool.and_true, Bool.and_eq_true] at c
  have c1 := few_len c.1
  have c2 := fewM_len c.2.1
  have c3 := fewM_len c.2.2
  have r2 := hcp g (by omega) (by omega)
  have r3 := ho p (by omega) (by omega)
  have r4 := ho q (by omega) (by omega)
  have r5 := h1 g p q hp hq
  have r6 := h2 g p q hp hq
  have r7 := h3 g p q hp hq
  have r8 := h4 g p q hp hq
  have l1 := joinR_len g p q
  have l2 := meetR_len g p q
  have r9 := hs (joinR g p q).1 (joinR g p q).1 (by unfold maxL; omega) (by unfold maxL; omega)
  have r10 := hs (meetR g p q).1 (meetR g p q).1 (by unfold maxL; omega) (by unfold maxL; omega)
  rw [decide_eq_true rfl] at r9 r10
  by_cases e : joinE g p q = 0
  case neg =>
    obtain ⟨e1, e2⟩ := joinR_err e
    rw [e1] at r5 r6 r9
    rw [e2] at r7 r8 r10
    clear l1 l2 e1 e2 c1 c2 c3
    generalize joinE g p q = v at *
    simp only [gD, gA, mD, mA, m0] at *
    simp (config := { maxSteps := 1000000 }) (disch := first | omega | (simp only [go_sem]; omega)) only [go_sem, ↓reduceIte]
    refine call_by hw ?_
    simp (config := { maxSteps := 1000000 }) (disch := first | omega | (simp only [go_sem]; omega)) only [go_sem, ↓reduceIte]
    refine call_by r1 ?_
    simp (config := { maxSteps := 1000000 }) (disch := first | omega | (simp only [go_sem]; omega)) only [go_sem, ↓reduceIte]
    refine call_by r2 ?_
    simp (config := { maxSteps := 1000000 }) (disch := first | omega | (simp only [go_sem]; omega)) only [go_sem, ↓reduceIte]
    refine call_by r3 ?_
    simp (config := { maxSteps := 1000000 }) (disch := first | omega | (simp only [go_sem]; omega)) only [go_sem, ↓reduceIte]
    refine call_by r4 ?_
    simp (config := { maxSteps := 1000000 }) (disch := first | omega | (simp only [go_sem]; omega)) only [go_sem, ↓reduceIte]
    refine call_by r5 ?_
    simp (config := { maxSteps := 1000000 }) (disch := first | omega | (simp only [go_sem]; omega)) only [go_sem, ↓reduceIte]
    refine call_by r6 ?_
    simp (config := { maxSteps := 1000000 }) (disch := first | omega | (simp only [go_sem]; omega)) only [go_sem, ↓reduceIte]
    refine call_by r2 ?_
    simp (config := { maxSteps := 1000000 }) (disch := first | omega | (simp only [go_sem]; omega)) only [go_sem, ↓reduceIte]
    refine call_by r3 ?_
    simp (config := { maxSteps := 1000000 }) (disch := first | omega | (simp only [go_sem]; omega)) only [go_sem, ↓reduceIte]
    refine call_by r4 ?_
    simp (config := { maxSteps := 1000000 }) (disch := first | omega | (simp only [go_sem]; omega)) only [go_sem, ↓reduceIte]
    refine call_by r7 ?_
    simp (config := { maxSteps := 1000000 }) (disch := first | omega | (simp only [go_sem]; omega)) only [go_sem, ↓reduceIte]
    refine call_by r8 ?_
    simp (config := { maxSteps := 1000000 }) (disch := first | omega | (simp only [go_sem]; omega)) only [go_sem, ↓reduceIte]
    refine call_by r9 ?_
    simp (config := { maxSteps := 1000000 }) (disch := first | omega | (simp only [go_sem]; omega)) only [go_sem, ↓reduceIte]
    refine call_by r10 ?_
    simp (config := { maxSteps := 1000000 }) (disch := first | omega | (simp only [go_sem]; omega)) only [go_sem, ↓reduceIte, e]
    refine call_by r9 ?_
    simp (config := { maxSteps := 1000000 }) (disch := first | omega | (simp only [go_sem]; omega)) only [go_sem, ↓reduceIte]
    refine call_by r10 ?_
    simp (config := { maxSteps := 1000000 }) (disch := first | omega | (simp only [go_sem]; omega)) only [go_sem, ↓reduceIte]
    try simp
  obtain ⟨k1, k2⟩ := joinE_ok.1 e
  have kj := joinP_ok k1 k2
  have km := meetP_ok k1 k2
  have r11 := h3 g p (joinP p q) hp kj.sm
  have r12 := h1 g p (meetP p q) hp km.sm
  rw [meetR_ok k1 kj, meet_join k1 k2] at r11
  rw [joinR_ok k1 km, join_meet k1 k2] at r12
  have r13 := hs p p hp.1 hp.2
  rw [decide_eq_true rfl] at r13
  rw [joinR_ok k1 k2] at r5 r6 r9
  rw [meetR_ok k1 k2] at r7 r8 r10
  clear l1 l2 kj km k1 k2 c1 c2 c3
  generalize joinP p q = A at *
  generalize meetP p q = B at *
  obtain ⟨an, ae⟩ := A
  obtain ⟨bn, be⟩ := B
  simp only [gD, gA, mD, mA] at *
  simp (config := { maxSteps := 1000000 }) (disch := first | omega | (simp only [go_sem]; omega)) only [go_sem, ↓reduceIte]
  refine call_by hw ?_
  simp (config := { maxSteps := 1000000 }) (disch := first | omega | (simp only [go_sem]; omega)) only [go_sem, ↓reduceIte]
  refine call_by r1 ?_
  simp (config := { maxSteps := 1000000 }) (disch := first | omega | (simp only [go_sem]; omega)) only [go_sem, ↓reduceIte]
  refine call_by r2 ?_
  simp (config := { maxSteps := 1000000 }) (disch := first | omega | (simp only [go_sem]; omega)) only [go_sem, ↓reduceIte]
  refine call_by r3 ?_
  simp (config := { maxSteps := 1000000 }) (disch := first | omega | (simp only [go_sem]; omega)) only [go_sem, ↓reduceIte]
  refine call_by r4 ?_
  simp (config := { maxSteps := 1000000 }) (disch := first | omega | (simp only [go_sem]; omega)) only [go_sem, ↓reduceIte]
  refine call_by r5 ?_
  simp (config := { maxSteps := 1000000 }) (disch := first | omega | (simp only [go_sem]; omega)) only [go_sem, ↓reduceIte]
  refine call_by r6 ?_
  simp (config := { maxSteps := 1000000 }) (disch := first | omega | (simp only [go_sem]; omega)) only [go_sem, ↓reduceIte]
  refine call_by r2 ?_
  simp (config := { maxSteps := 1000000 }) (disch := first | omega | (simp only [go_sem]; omega)) only [go_sem, ↓reduceIte]
  refine call_by r3 ?_
  simp (config := { maxSteps := 1000000 }) (disch := first | omega | (simp only [go_sem]; omega)) only [go_sem, ↓reduceIte]
  refine call_by r4 ?_
  simp (config := { maxSteps := 1000000 }) (disch := first | omega | (simp only [go_sem]; omega)) only [go_sem, ↓reduceIte]
  refine call_by r7 ?_
  simp (config := { maxSteps := 1000000 }) (disch := first | omega | (simp only [go_sem]; omega)) only [go_sem, ↓reduceIte]
  refine call_by r8 ?_
  simp (config := { maxSteps := 1000000 }) (disch := first | omega | (simp only [go_sem]; omega)) only [go_sem, ↓reduceIte]
  refine call_by r9 ?_
  simp (config := { maxSteps := 1000000 }) (disch := first | omega | (simp only [go_sem]; omega)) only [go_sem, ↓reduceIte]
  refine call_by r10 ?_
  simp (config := { maxSteps := 1000000 }) (disch := first | omega | (simp only [go_sem]; omega)) only [go_sem, ↓reduceIte]
  refine call_by r11 ?_
  simp (config := { maxSteps := 1000000 }) (disch := first | omega | (simp only [go_sem]; omega)) only [go_sem, ↓reduceIte]
  refine call_by r12 ?_
  simp (config := { maxSteps := 1000000 }) (disch := first | omega | (simp only [go_sem]; omega)) only [go_sem, ↓reduceIte]
  refine call_by r13 ?_
  simp (config := { maxSteps := 1000000 }) (disch := first | omega | (simp only [go_sem]; omega)) only [go_sem, ↓reduceIte]
  refine call_by r13 ?_
  simp (config := { maxSteps := 1000000 }) (disch := first | omega | (simp only [go_sem]; omega)) only [go_sem, ↓reduceIte]
  try simp
theorem x_l07_SubgraphJoin (h : K_l07_SubgraphJoin P F) (args : List D) (ha : HasEls [shG, shM, shM] args) : FC P (F "l07.SubgraphJoin") args (.bool true) [] := by
  simp only [HasEls] at ha
  obtain ⟨_, _, rfl, h1, _, _, rfl, h2, _, _, rfl, h3, rfl⟩ := ha
  obtain ⟨g, rfl⟩ := rd_graph h1
  obtain ⟨p, rfl, k⟩ := rd_morph h2
  obtain ⟨q, rfl, k2⟩ := rd_morph h3
  exact h g p q k k2
end
end Go.Am
