/- Unions of parts; the law ComplementLeast. -/
import Derived.Test.YtoeomfoohdheoaaSpH
import Derived.Test.YtoeomfoohdheoaaSjQ
namespace Go.Am
open Go
set_option linter.unusedVariables false
set_option linter.unusedSimpArgs false
attribute [local irreducible] W
/- subgraph.both -/
def c_subgraph_both_r0 (F : String → Nat) : List LI := [⟨some 3, .bx (.t 0), none⟩,
  ⟨some 4, .bx (.t 1), none⟩,
  ⟨some 5, .bx (.t 2), none⟩,
  ⟨some 6, .mov (.k (.int .i64 (0))), none⟩]
def c_subgraph_both_r1 (F : String → Nat) : List LI := [⟨some 8, .load true 2 (.t 3), none⟩,
  ⟨some 9, .load true 2 (.t 4), none⟩,
  ⟨some 10, .call (F "subgraph.Valid") [.t 8, .t 9] [], none⟩,
  ⟨some 7, .mov (.t 10), none⟩]
def c_subgraph_both_r2 (F : String → Nat) : List LI := [⟨some 11, .mov (.t 7), none⟩,
  ⟨some 12, .bin .neq (.t 11) (.k (.int .i64 (0))), none⟩]
def c_subgraph_both_r3 (F : String → Nat) : List LI := [⟨some 13, .mov (.t 7), none⟩,
  ⟨some 6, .mov (.t 13), none⟩]
def c_subgraph_both_r4 (F : String → Nat) : List LI := [⟨some 14, .load true 2 (.t 3), none⟩,
  ⟨some 15, .load true 2 (.t 5), none⟩,
  ⟨some 16, .call (F "subgraph.part") [.t 14, .t 15] [], none⟩,
  ⟨some 6, .mov (.t 16), none⟩]
def c_subgraph_both (F : String → Nat) : LC := (.seq (.reg (c_subgraph_both_r0 F) [3, 4, 5]) (.seq (.seq (.reg (c_subgraph_both_r1 F) [3, 5, 7]) (.seq (.reg (c_subgraph_both_r2 F) [3, 5, 7, 12]) (.cond (.t 12) (.seq (.reg (c_subgraph_both_r3 F) [6]) .ret) .skip))) (.seq (.reg (c_subgraph_both_r4 F) [6]) .ret)))
def h_subgraph_both : Hints := ⟨[], fun _ => [], tab [(0, [3, 4, 5]), (1, [3, 5, 7]), (2, [3, 5, 7, 12]), (3, [6]), (4, [6])], tab []⟩

/- subgraph.sorted -/
def c_subgraph_sorted_r0 (F : String → Nat) : List LI := [⟨some 2, .mov (.k (.nl 1)), none⟩]
def c_subgraph_sorted_r1 (F : String → Nat) : List LI := [⟨some 3, .mov (.t 0), none⟩,
  ⟨some 4, .call (F "slices.Sort.I") [.t 3] [.mu], none⟩]
def c_subgraph_sorted_r2 (F : String → Nat) : List LI := [⟨some 5, .mov (.t 0), none⟩,
  ⟨some 6, .call (F "slices.Compact.I") [.t 5] [.ow], none⟩,
  ⟨some 2, .mov (.t 6), none⟩]
def c_subgraph_sorted (F : String → Nat) : LC := (.seq (.reg (c_subgraph_sorted_r0 F) [0]) (.seq (.reg (c_subgraph_sorted_r1 F) [0]) (.seq (.reg (c_subgraph_sorted_r2 F) [2]) .ret)))
def h_subgraph_sorted : Hints := ⟨[], fun _ => [], tab [(0, [0]), (1, [0]), (2, [2])], tab []⟩

/- subgraph.Join -/
def c_subgraph_Join_r0 (F : String → Nat) : List LI := [⟨some 3, .bx (.t 0), none⟩,
  ⟨some 4, .bx (.t 1), none⟩,
  ⟨some 5, .bx (.t 2), none⟩,
  ⟨some 6, .alloc [.nl 1, .nl 1], none⟩,
  ⟨some 7, .mov (.k (.int .i64 (0))), none⟩]
def c_subgraph_Join_r1 (F : String → Nat) : List LI := [⟨some 9, .load true 2 (.t 3), none⟩,
  ⟨some 10, .load true 2 (.t 4), none⟩,
  ⟨some 11, .load true 2 (.t 5), none⟩,
  ⟨some 12, .call (F "subgraph.both") [.t 9, .t 10, .t 11] [], none⟩,
  ⟨some 8, .mov (.t 12), none⟩]
def c_subgraph_Join_r2 (F : String → Nat) : List LI := [⟨some 13, .mov (.t 8), none⟩,
  ⟨some 14, .bin .neq (.t 13) (.k (.int .i64 (0))), none⟩]
def c_subgraph_Join_r3 (F : String → Nat) : List LI := [⟨some 15, .build [.nl 1, .nl 1] [], none⟩,
  ⟨some 16, .mov (.t 8), none⟩,
  ⟨none, .store 2 (.t 6) (.t 15), none⟩,
  ⟨some 7, .mov (.t 16), none⟩]
def c_subgraph_Join_r4 (F : String → Nat) : List LI := [⟨some 17, .fad 0 (.t 4), none⟩,
  ⟨some 18, .load false 1 (.t 17), none⟩,
  ⟨some 19, .fad 0 (.t 5), none⟩,
  ⟨some 20, .load false 1 (.t 19), none⟩,
  ⟨some 21, .buildSl 1 24 (.lst 1 []) 2 [(0, .t 18), (1, .t 20)], none⟩,
  ⟨some 22, .call (F "slices.Concat.I") [.t 21] [], none⟩,
  ⟨some 23, .call (F "subgraph.sorted") [.t 22] [.ow], none⟩,
  ⟨some 24, .fad 1 (.t 4), none⟩,
  ⟨some 25, .load false 1 (.t 24), none⟩,
  ⟨some 26, .fad 1 (.t 5), none⟩,
  ⟨some 27, .load false 1 (.t 26), none⟩,
  ⟨some 28, .buildSl 1 24 (.lst 1 []) 2 [(0, .t 25), (1, .t 27)], none⟩,
  ⟨some 29, .call (F "slices.Concat.I") [.t 28] [], none⟩,
  ⟨some 30, .call (F "subgraph.sorted") [.t 29] [.ow], none⟩,
  ⟨some 31, .build [.nl 1, .nl 1] [(0, 1, .t 23), (1, 1, .t 30)], none⟩,
  ⟨none, .store 2 (.t 6) (.t 31), none⟩,
  ⟨some 7, .mov (.k (.int .i64 (0))), none⟩]
def c_subgraph_Join (F : String → Nat) : LC := (.seq (.reg (c_subgraph_Join_r0 F) [3, 4, 5, 6]) (.seq (.seq (.reg (c_subgraph_Join_r1 F) [4, 5, 6, 8]) (.seq (.reg (c_subgraph_Join_r2 F) [4, 5, 6, 8, 14]) (.cond (.t 14) (.seq (.reg (c_subgraph_Join_r3 F) [6, 7]) .ret) .skip))) (.seq (.dreg [(1, none, [], true), (3, none, [], true), (4, none, [], true), (5, none, [], true), (6, none, [], true), (8, (some 128), [4, 5, 6], false), (10, (some 512), [4, 5, 6], false), (11, (some 1920), [1, 3, 4, 5, 6], false)] (c_subgraph_Join_r4 F) [6, 7]) .ret)))
def h_subgraph_Join : Hints := ⟨[], fun _ => [], tab [(0, [3, 4, 5, 6]), (1, [4, 5, 6, 8]), (2, [4, 5, 6, 8, 14]), (3, [6, 7]), (4, [6, 7])], tab []⟩

/- r07.In -/
def c_r07_In_r0 (F : String → Nat) : List LI := [⟨some 2, .bx (.t 0), none⟩,
  ⟨some 3, .bx (.t 1), none⟩,
  ⟨some 4, .mov (.k (.bool false)), none⟩]
def c_r07_In_r1 (F : String → Nat) : List LI := [⟨some 5, .fad 0 (.t 2), none⟩,
  ⟨some 6, .load false 1 (.t 5), none⟩,
  ⟨some 7, .fad 0 (.t 3), none⟩,
  ⟨some 8, .load false 1 (.t 7), none⟩,
  ⟨some 9, .call (F "r07.into") [.t 6, .t 8] [], none⟩,
  ⟨some 10, .len (.t 9), none⟩,
  ⟨some 11, .fad 0 (.t 2), none⟩,
  ⟨some 12, .load false 1 (.t 11), none⟩,
  ⟨some 13, .len (.t 12), none⟩,
  ⟨some 14, .bin .eql (.t 10) (.t 13), none⟩,
  ⟨some 15, .mov (.t 14), none⟩,
  ⟨some 16, .fad 1 (.t 2), some (15, true)⟩,
  ⟨some 17, .load false 1 (.t 16), some (15, true)⟩,
  ⟨some 18, .fad 1 (.t 3), some (15, true)⟩,
  ⟨some 19, .load false 1 (.t 18), some (15, true)⟩,
  ⟨some 20, .call (F "r07.into") [.t 17, .t 19] [], some (15, true)⟩,
  ⟨some 21, .len (.t 20), some (15, true)⟩,
  ⟨some 22, .fad 1 (.t 2), some (15, true)⟩,
  ⟨some 23, .load false 1 (.t 22), some (15, true)⟩,
  ⟨some 24, .len (.t 23), some (15, true)⟩,
  ⟨some 25, .bin .eql (.t 21) (.t 24), some (15, true)⟩,
  ⟨some 26, .pick (.t 15) (.t 25) (.k (.bool false)), none⟩,
  ⟨some 4, .mov (.t 26), none⟩]
def c_r07_In (F : String → Nat) : LC := (.seq (.reg (c_r07_In_r0 F) [2, 3]) (.seq (.dreg [(4, none, [], true), (7, (some 64), [4], false), (15, none, [], true), (18, (some 133119), [15], false)] (c_r07_In_r1 F) [4]) .ret))
def h_r07_In : Hints := ⟨[], fun _ => [], tab [(0, [2, 3]), (1, [4])], tab []⟩

/- l12.ComplementLeast.1 -/
def c_l12_ComplementLeast_1_r0 (F : String → Nat) : List LI := [⟨some 3, .mov (.k (.bool false)), none⟩]
def c_l12_ComplementLeast_1_r1 (F : String → Nat) : List LI := [⟨some 4, .load false 1 (.t 1), none⟩,
  ⟨some 5, .mov (.t 0), none⟩,
  ⟨some 6, .call (F "slices.Contains.I") [.t 4, .t 5] [], none⟩,
  ⟨some 7, .not (.t 6), none⟩,
  ⟨some 3, .mov (.t 7), none⟩]
def c_l12_ComplementLeast_1 (F : String → Nat) : LC := (.seq (.reg (c_l12_ComplementLeast_1_r0 F) [0, 1]) (.seq (.reg (c_l12_ComplementLeast_1_r1 F) [3]) .ret))
def h_l12_ComplementLeast_1 : Hints := ⟨[], fun _ => [], tab [(0, [0, 1]), (1, [3])], tab []⟩

/- l12.ComplementLeast -/
def c_l12_ComplementLeast_r0 (F : String → Nat) : List LI := [⟨some 3, .bx (.t 0), none⟩,
  ⟨some 5, .bx (.t 2), none⟩,
  ⟨some 6, .mov (.k (.bool false)), none⟩]
def c_l12_ComplementLeast_r1 (F : String → Nat) : List LI := [⟨some 21, .call (F "l12.awake") [] [], none⟩,
  ⟨some 22, .not (.t 21), none⟩]
def c_l12_ComplementLeast_r2 (F : String → Nat) : List LI := [⟨some 6, .mov (.k (.bool false)), none⟩]
def c_l12_ComplementLeast_r3 (F : String → Nat) : List LI := [⟨some 23, .load true 2 (.t 3), none⟩,
  ⟨some 24, .mov (.t 1), none⟩,
  ⟨some 25, .iaa 2 1 (.t 5) (.k (.int .i64 (0))), none⟩,
  ⟨some 26, .load false 1 (.t 25), none⟩,
  ⟨some 27, .call (F "l12.made") [.t 23, .t 24, .t 26] [], none⟩,
  ⟨some 7, .alloc [.nl 1, .nl 3, .nl 1, .nl 3, .nl 1, .nl 1, .nl 1, .nl 1], none⟩,
  ⟨none, .store 8 (.t 7) (.t 27), none⟩]
def c_l12_ComplementLeast_r4 (F : String → Nat) : List LI := [⟨some 29, .fad 0 (.t 7), none⟩,
  ⟨some 30, .load true 2 (.t 29), none⟩,
  ⟨some 31, .fad 4 (.t 7), none⟩,
  ⟨some 32, .load true 2 (.t 31), none⟩,
  ⟨some 33, .fad 0 (.t 7), none⟩,
  ⟨some 34, .load true 2 (.t 33), none⟩,
  ⟨some 35, .iaa 2 1 (.t 5) (.k (.int .i64 (1))), none⟩,
  ⟨some 36, .load false 1 (.t 35), none⟩,
  ⟨some 37, .call (F "r07.Made") [.t 34, .t 36] [], none⟩,
  ⟨some 38, .call (F "subgraph.Join") [.t 30, .t 32, .t 37] [], none⟩,
  ⟨some 28, .mov (.t 38), none⟩,
  ⟨some 39, .ext (.t 28) 0, none⟩,
  ⟨some 40, .ext (.t 28) 1, none⟩,
  ⟨some 8, .alloc [.nl 1, .nl 1], none⟩,
  ⟨none, .store 2 (.t 8) (.t 39), none⟩,
  ⟨some 9, .mov (.t 40), none⟩]
def c_l12_ComplementLeast_r5 (F : String → Nat) : List LI := [⟨some 42, .fad 0 (.t 7), none⟩,
  ⟨some 43, .load true 2 (.t 42), none⟩,
  ⟨some 44, .fad 2 (.t 7), none⟩,
  ⟨some 45, .load true 2 (.t 44), none⟩,
  ⟨some 46, .fad 4 (.t 7), none⟩,
  ⟨some 47, .load true 2 (.t 46), none⟩,
  ⟨some 48, .fad 6 (.t 7), none⟩,
  ⟨some 49, .load true 2 (.t 48), none⟩,
  ⟨some 50, .call (F "complement.Repair") [.t 43, .t 45, .t 47, .t 49] [], none⟩,
  ⟨some 41, .mov (.t 50), none⟩,
  ⟨some 51, .ext (.t 41) 0, none⟩,
  ⟨some 52, .ext (.t 41) 1, none⟩,
  ⟨some 10, .alloc [.nl 1, .nl 1], none⟩,
  ⟨none, .store 2 (.t 10) (.t 51), none⟩,
  ⟨some 11, .mov (.t 52), none⟩]
def c_l12_ComplementLeast_r6 (F : String → Nat) : List LI := [⟨some 54, .fad 0 (.t 7), none⟩,
  ⟨some 55, .load true 2 (.t 54), none⟩,
  ⟨some 56, .fad 2 (.t 7), none⟩,
  ⟨some 57, .load true 2 (.t 56), none⟩,
  ⟨some 58, .fad 4 (.t 7), none⟩,
  ⟨some 59, .load true 2 (.t 58), none⟩,
  ⟨some 60, .fad 6 (.t 7), none⟩,
  ⟨some 61, .load true 2 (.t 60), none⟩,
  ⟨some 62, .call (F "complement.Dangling") [.t 55, .t 57, .t 59, .t 61] [], none⟩,
  ⟨some 53, .mov (.t 62), none⟩,
  ⟨some 63, .ext (.t 53) 0, none⟩,
  ⟨some 64, .ext (.t 53) 1, none⟩,
  ⟨some 12, .alloc [.nl 1], none⟩,
  ⟨none, .store 1 (.t 12) (.t 63), none⟩,
  ⟨some 13, .mov (.t 64), none⟩]
def c_l12_ComplementLeast_r7 (F : String → Nat) : List LI := [⟨some 66, .fad 0 (.t 7), none⟩,
  ⟨some 67, .load true 2 (.t 66), none⟩,
  ⟨some 68, .fad 2 (.t 7), none⟩,
  ⟨some 69, .load true 2 (.t 68), none⟩,
  ⟨some 70, .load true 2 (.t 8), none⟩,
  ⟨some 71, .fad 6 (.t 7), none⟩,
  ⟨some 72, .load true 2 (.t 71), none⟩,
  ⟨some 73, .call (F "complement.Dangling") [.t 67, .t 69, .t 70, .t 72] [], none⟩,
  ⟨some 65, .mov (.t 73), none⟩,
  ⟨some 74, .ext (.t 65) 0, none⟩,
  ⟨some 75, .ext (.t 65) 1, none⟩,
  ⟨some 14, .mov (.t 74), none⟩,
  ⟨some 15, .mov (.t 75), none⟩]
def c_l12_ComplementLeast_r8 (F : String → Nat) : List LI := [⟨some 76, .mov (.t 9), none⟩,
  ⟨some 77, .bin .neq (.t 76) (.k (.int .i64 (0))), none⟩,
  ⟨some 78, .mov (.t 77), none⟩,
  ⟨some 79, .mov (.t 11), some (78, false)⟩,
  ⟨some 80, .bin .neq (.t 79) (.k (.int .i64 (0))), some (78, false)⟩,
  ⟨some 81, .pick (.t 78) (.k (.bool true)) (.t 80), none⟩,
  ⟨some 82, .mov (.t 81), none⟩,
  ⟨some 83, .mov (.t 13), some (82, false)⟩,
  ⟨some 84, .bin .neq (.t 83) (.k (.int .i64 (0))), some (82, false)⟩,
  ⟨some 85, .pick (.t 82) (.k (.bool true)) (.t 84), none⟩,
  ⟨some 86, .mov (.t 85), none⟩,
  ⟨some 87, .mov (.t 15), some (86, false)⟩,
  ⟨some 88, .bin .neq (.t 87) (.k (.int .i64 (0))), some (86, false)⟩,
  ⟨some 89, .pick (.t 86) (.k (.bool true)) (.t 88), none⟩,
  ⟨some 90, .mov (.t 89), none⟩,
  ⟨some 91, .mov (.t 14), some (90, false)⟩,
  ⟨some 92, .mkf (F "l12.ComplementLeast.1") [.t 12], some (90, false)⟩,
  ⟨some 93, .call (F "slices.ContainsFunc.I") [.t 91, .t 92] [], some (90, false)⟩,
  ⟨some 94, .pick (.t 90) (.k (.bool true)) (.t 93), none⟩]
def c_l12_ComplementLeast_r9 (F : String → Nat) : List LI := [⟨some 6, .mov (.k (.bool false)), none⟩]
def c_l12_ComplementLeast_r10 (F : String → Nat) : List LI := [⟨some 96, .fad 0 (.t 7), none⟩,
  ⟨some 97, .load true 2 (.t 96), none⟩,
  ⟨some 98, .fad 2 (.t 7), none⟩,
  ⟨some 99, .load true 2 (.t 98), none⟩,
  ⟨some 100, .load true 2 (.t 8), none⟩,
  ⟨some 101, .fad 6 (.t 7), none⟩,
  ⟨some 102, .load true 2 (.t 101), none⟩,
  ⟨some 103, .call (F "complement.Of") [.t 97, .t 99, .t 100, .t 102] [], none⟩,
  ⟨some 95, .mov (.t 103), none⟩,
  ⟨some 104, .ext (.t 95) 0, none⟩,
  ⟨some 105, .ext (.t 95) 1, none⟩,
  ⟨some 16, .alloc [.nl 1, .nl 1], none⟩,
  ⟨none, .store 2 (.t 16) (.t 104), none⟩,
  ⟨some 17, .mov (.t 105), none⟩]
def c_l12_ComplementLeast_r11 (F : String → Nat) : List LI := [⟨some 106, .mov (.t 17), none⟩,
  ⟨some 107, .bin .eql (.t 106) (.k (.int .i64 (0))), none⟩,
  ⟨some 108, .mov (.t 107), none⟩,
  ⟨some 109, .load true 2 (.t 10), some (108, true)⟩,
  ⟨some 110, .load true 2 (.t 8), some (108, true)⟩,
  ⟨some 111, .call (F "r07.In") [.t 109, .t 110] [], some (108, true)⟩,
  ⟨some 112, .not (.t 111), some (108, true)⟩,
  ⟨some 113, .pick (.t 108) (.t 112) (.k (.bool false)), none⟩]
def c_l12_ComplementLeast_r12 (F : String → Nat) : List LI := [⟨some 6, .mov (.k (.bool false)), none⟩]
def c_l12_ComplementLeast_r13 (F : String → Nat) : List LI := [⟨some 115, .fad 0 (.t 7), none⟩,
  ⟨some 116, .load true 2 (.t 115), none⟩,
  ⟨some 117, .fad 2 (.t 7), none⟩,
  ⟨some 118, .load true 2 (.t 117), none⟩,
  ⟨some 119, .fad 4 (.t 7), none⟩,
  ⟨some 120, .load true 2 (.t 119), none⟩,
  ⟨some 121, .fad 6 (.t 7), none⟩,
  ⟨some 122, .load true 2 (.t 121), none⟩,
  ⟨some 123, .call (F "complement.Identified") [.t 116, .t 118, .t 120, .t 122] [], none⟩,
  ⟨some 114, .mov (.t 123), none⟩,
  ⟨some 124, .ext (.t 114) 0, none⟩,
  ⟨some 125, .ext (.t 114) 1, none⟩,
  ⟨some 126, .ext (.t 114) 2, none⟩,
  ⟨some 18, .mov (.t 124), none⟩,
  ⟨some 19, .mov (.t 125), none⟩,
  ⟨some 20, .mov (.t 126), none⟩]
def c_l12_ComplementLeast_r14 (F : String → Nat) : List LI := [⟨some 127, .mov (.t 20), none⟩,
  ⟨some 128, .bin .eql (.t 127) (.k (.int .i64 (0))), none⟩,
  ⟨some 129, .mov (.t 128), none⟩,
  ⟨some 130, .fad 6 (.t 7), some (129, true)⟩,
  ⟨some 131, .fad 0 (.t 130), some (129, true)⟩,
  ⟨some 132, .load false 1 (.t 131), some (129, true)⟩,
  ⟨some 133, .call (F "r06.Distinct") [.t 132] [], some (129, true)⟩,
  ⟨some 134, .not (.t 133), some (129, true)⟩,
  ⟨some 135, .mov (.t 134), some (129, true)⟩,
  ⟨some 136, .mov (.t 18), some (135, false)⟩,
  ⟨some 137, .len (.t 136), some (135, false)⟩,
  ⟨some 138, .bin .eql (.t 137) (.k (.int .i64 (0))), some (135, false)⟩,
  ⟨some 139, .pick (.t 135) (.k (.bool true)) (.t 138), some (129, true)⟩,
  ⟨some 140, .pick (.t 129) (.t 139) (.k (.bool false)), none⟩,
  ⟨some 141, .mov (.t 140), none⟩,
  ⟨some 142, .fad 6 (.t 7), some (141, true)⟩,
  ⟨some 143, .fad 1 (.t 142), some (141, true)⟩,
  ⟨some 144, .load false 1 (.t 143), some (141, true)⟩,
  ⟨some 145, .call (F "r06.Distinct") [.t 144] [], some (141, true)⟩,
  ⟨some 146, .not (.t 145), some (141, true)⟩,
  ⟨some 147, .mov (.t 146), some (141, true)⟩,
  ⟨some 148, .mov (.t 19), some (147, false)⟩,
  ⟨some 149, .len (.t 148), some (147, false)⟩,
  ⟨some 150, .bin .eql (.t 149) (.k (.int .i64 (0))), some (147, false)⟩,
  ⟨some 151, .pick (.t 147) (.k (.bool true)) (.t 150), some (141, true)⟩,
  ⟨some 152, .pick (.t 141) (.t 151) (.k (.bool false)), none⟩,
  ⟨some 6, .mov (.t 152), none⟩]
def c_l12_ComplementLeast (F : String → Nat) : LC := (.seq (.reg (c_l12_ComplementLeast_r0 F) [1, 3, 5]) (.seq (.seq (.reg (c_l12_ComplementLeast_r1 F) [1, 3, 5, 22]) (.cond (.t 22) (.seq (.reg (c_l12_ComplementLeast_r2 F) [6]) .ret) .skip)) (.seq (.reg (c_l12_ComplementLeast_r3 F) [5, 7]) (.seq (.dreg [(1, none, [], true), (3, none, [], true), (8, none, [1, 3], false)] (c_l12_ComplementLeast_r4 F) [7, 8, 9]) (.seq (.reg (c_l12_ComplementLeast_r5 F) [7, 8, 9, 10, 11]) (.seq (.reg (c_l12_ComplementLeast_r6 F) [7, 8, 9, 10, 11, 12, 13]) (.seq (.reg (c_l12_ComplementLeast_r7 F) [7, 8, 9, 10, 11, 12, 13, 14, 15]) (.seq (.seq (.reg (c_l12_ComplementLeast_r8 F) [7, 8, 10, 94]) (.cond (.t 94) (.seq (.reg (c_l12_ComplementLeast_r9 F) [6]) .ret) .skip)) (.seq (.seq (.reg (c_l12_ComplementLeast_r10 F) [7, 8, 10, 17]) (.seq (.reg (c_l12_ComplementLeast_r11 F) [7, 113]) (.cond (.t 113) (.seq (.reg (c_l12_ComplementLeast_r12 F) [6]) .ret) .skip))) (.seq (.reg (c_l12_ComplementLeast_r13 F) [7, 18, 19, 20]) (.seq (.reg (c_l12_ComplementLeast_r14 F) [6]) .ret)))))))))))
def h_l12_ComplementLeast : Hints := ⟨[], fun _ => [], tab [(0, [1, 3, 5]), (1, [1, 3, 5, 22]), (2, [6]), (3, [5, 7]), (4, [7, 8, 9]), (5, [7, 8, 9, 10, 11]), (6, [7, 8, 9, 10, 11, 12, 13]), (7, [7, 8, 9, 10, 11, 12, 13, 14, 15]), (8, [7, 8, 10, 94]), (9, [6]), (10, [7, 8, 10, 17]), (11, [7, 113]), (12, [6]), (13, [7, 18, 19, 20]), (14, [6])], tab []⟩

attribute [go_sem] c_subgraph_both_r0 c_subgraph_both_r1 c_subgraph_both_r2 c_subgraph_both_r3 c_subgraph_both_r4 c_subgraph_both c_subgraph_sorted_r0 c_subgraph_sorted_r1 c_subgraph_sorted_r2 c_subgraph_sorted c_subgraph_Join_r0 c_subgraph_Join_r1 c_subgraph_Join_r2 c_subgraph_Join_r3 c_subgraph_Join_r4 c_subgraph_Join c_r07_In_r0 c_r07_In_r1 c_r07_In c_l12_ComplementLeast_1_r0 c_l12_ComplementLeast_1_r1 c_l12_ComplementLeast_1 c_l12_ComplementLeast_r0 c_l12_ComplementLeast_r1 c_l12_ComplementLeast_r2 c_l12_ComplementLeast_r3 c_l12_ComplementLeast_r4 c_l12_ComplementLeast_r5 c_l12_ComplementLeast_r6 c_l12_ComplementLeast_r7 c_l12_ComplementLeast_r8 c_l12_ComplementLeast_r9 c_l12_ComplementLeast_r10 c_l12_ComplementLeast_r11 c_l12_ComplementLeast_r12 c_l12_ComplementLeast_r13 c_l12_ComplementLeast_r14 c_l12_ComplementLeast
def joinE (g : G) (p q : Mo) : Int := if validP g p ≠ 0 then validP g p else rightP g q
def joinP (p q : Mo) : Mo := ⟨imgs (p.n ++ q.n), imgs (p.e ++ q.e)⟩
def joinR (g : G) (p q : Mo) : Mo × Int := if joinE g p q ≠ 0 then (m0, joinE g p q) else (joinP p q, 0)
def inP (p q : Mo) : Bool := decide (((intoL p.n q.n).length : Int) = p.n.length) && decide (((intoL p.e q.e).length : Int) = p.e.length)
section
variable (P : Program) (F : String → Nat)
def K_subgraph_both : Prop := ∀ (g : G) (p q : Mo), p.sm → q.sm → FC P (F "subgraph.both") [gD g, mD p, mD q] (.int .i64 (joinE g p q)) []
def K_subgraph_sorted : Prop := ∀ l : List Int, l.length ≤ maxL → FC P (F "subgraph.sorted") [.arr 1 (ints l)] (.arr 1 (ints (imgs l))) []
def K_subgraph_Join : Prop := ∀ (g : G) (p q : Mo), p.sm → q.sm → FC P (F "subgraph.Join") [gD g, mD p, mD q] (.tup [mA (joinR g p q).1, .int .i64 (joinR g p q).2]) []
def K_r07_In : Prop := ∀ (p q : Mo), p.n.length ≤ 10000 → p.e.length ≤ 10000 → q.sm → FC P (F "r07.In") [mD p, mD q] (.bool (inP p q)) []
def K_l12_ComplementLeast_1 : Prop := ∀ (x : Int) (l : List Int), l.length ≤ maxL → FC P (F "l12.ComplementLeast.1") [.int .i64 x, .ref [.lst 1 (ints l)]] (.bool (!decide (x ∈ l))) []
def K_l12_ComplementLeast : Prop := ∀ (d : Dr) (c : List Int) (s t : Int), d.ok → d.n.length ≤ maxL → d.e.length ≤ maxL → c.length ≤ 2000000 → (∀ v ∈ c, Byte v) → FC P (F "l12.ComplementLeast") [drD d, .lst 1 (u8s c), .agg [.int .u64 s, .int .u64 t]] (.bool true) []
end
section
variable {P : Program} {F : String → Nat} {α : Type}
theorem w_subgraph_both (hv : K_subgraph_Valid P F) (hp : K_subgraph_part P F) (g : G) (p q : Mo) (h1 : p.sm) (h2 : q.sm) : W P (c_subgraph_both F) (Done [.t 6] [] (.int .i64 (joinE g p q)) []) (init [gD g, mD p, mD q]) := by
  refine W_of ?_
  have r1 := hv g p h1.1 h1.2
  have r2 := fun h => hp g q h h2.1 h2.2
  have hv0 := @validP_ok g p
  unfold joinE
  generalize validP g p = v at *
  generalize rightP g q = u at *
  simp only [gD, mD] at *
  simp (config := { maxSteps := 1000000 }) (disch := first | omega | (simp only [go_sem]; omega)) only [go_sem, ↓reduceIte]
  refine call_by r1 ?_
  simp (config := { maxSteps := 1000000 }) (disch := first | omega | (simp only [go_sem]; omega)) only [go_sem, ↓reduceIte]
  refine bran_ndec (fun c => ?_) (fun c => ?_)
  · simp (config := { maxSteps := 1000000 }) (disch := first | omega | (simp only [go_sem]; omega)) only [go_sem, ↓reduceIte]
    try rw [if_pos c]
  · have r2 := r2 (hv0.1 c).v
    simp (config := { maxSteps := 1000000 }) (disch := first | omega | (simp only [go_sem]; omega)) only [go_sem, ↓reduceIte]
    refine call_by r2 ?_
    simp (config := { maxSteps := 1000000 }) (disch := first | omega | (simp only [go_sem]; omega)) only [go_sem, ↓reduceIte]
    rw [if_neg (by simp [c])]
theorem w_subgraph_sorted (hs : K_slices_Sort_I P F) (hp : K_slices_Compact_I P F) (l : List Int) (hl : l.length ≤ maxL) : W P (c_subgraph_sorted F) (Done [.t 2] [] (.arr 1 (ints (imgs l))) []) (init [.arr 1 (ints l)]) := by
  refine W_of ?_
  have r1 := hs l hl
  have r2 := hp (srt l) (by rw [srt_len]; exact hl)
  have e1 := srt_len l
  unfold imgs
  generalize cpt (srt l) = m at *
  generalize srt l = q at *
  simp (config := { maxSteps := 1000000 }) (disch := first | omega | (simp only [go_sem]; omega)) only [go_sem, ↓reduceIte]
  refine call_by r1 ?_
  simp (config := { maxSteps := 1000000 }) (disch := first | omega | (simp only [go_sem]; omega)) only [go_sem, ↓reduceIte, e1]
  refine call_by r2 ?_
  simp (config := { maxSteps := 1000000 }) (disch := first | omega | (simp only [go_sem]; omega)) only [go_sem, ↓reduceIte]
theorem w_subgraph_Join (hb : K_subgraph_both P F) (hc : K_slices_Concat_I P F) (hs : K_subgraph_sorted P F) (g : G) (p q : Mo) (h1 : p.sm) (h2 : q.sm) : W P (c_subgraph_Join F) (Done [.c 6 true 2, .t 7] [] (.tup [mA (joinR g p q).1, .int .i64 (joinR g p q).2]) []) (init [gD g, mD p, mD q]) := by
  refine W_of ?_
  have r1 := hb g p q h1 h2
  have hR : joinR g p q = if joinE g p q ≠ 0 then (m0, joinE g p q) else (⟨imgs (p.n ++ q.n), imgs (p.e ++ q.e)⟩, 0) := rfl
  have h0 : joinE g p q = 0 → (p.n.length ≤ 1000 ∧ p.e.length ≤ 1000) ∧ q.n.length ≤ 1000 ∧ q.e.length ≤ 1000 := fun h => by
    unfold joinE at h
    split at h
    · rename_i c; exact absurd h c
    · rename_i c
      have k1 := validP_ok.1 (Decidable.not_not.1 c)
      have k2 : PK g q := validP_ok.1 (by unfold validP; rw [if_neg (by simp [k1.v]), h])
      have := k1.len
      have := k2.len
      omega
  generalize joinE g p q = v at *
  rw [hR]
  clear hR
  obtain ⟨pn, pe⟩ := p
  obtain ⟨qn, qe⟩ := q
  simp only [gD, mD, mA, m0, joinP] at *
  simp (config := { maxSteps := 1000000 }) (disch := first | omega | (simp only [go_sem]; omega)) only [go_sem, ↓reduceIte]
  refine call_by r1 ?_
  simp (config := { maxSteps := 1000000 }) (disch := first | omega | (simp only [go_sem]; omega)) only [go_sem, ↓reduceIte]
  refine bran_ndec (fun c => ?_) (fun c => ?_)
  · simp (config := { maxSteps := 1000000 }) (disch := first | omega | (simp only [go_sem]; omega)) only [go_sem, ↓reduceIte]
    simp [c, mA, m0, ints]
  · obtain ⟨⟨l1, l2⟩, l3, l4⟩ := h0 c
    have r2 := hc pn qn (by omega) (by omega)
    have r3 := hs (pn ++ qn) (by rw [List.length_append]; unfold maxL; omega)
    have r4 := hc pe qe (by omega) (by omega)
    have r5 := hs (pe ++ qe) (by rw [List.length_append]; unfold maxL; omega)
    rw [if_neg (by simp [c])]
    generalize imgs (pn ++ qn) = y1 at *
    generalize imgs (pe ++ qe) = y2 at *
    have e1 : (pn ++ qn).length = pn.length + qn.length := List.length_append
    have e2 : (pe ++ qe).length = pe.length + qe.length := List.length_append
    generalize pn ++ qn = z1 at *
    generalize pe ++ qe = z2 at *
    simp (config := { maxSteps := 1000000 }) (disch := first | omega | (simp only [go_sem]; omega)) only [go_sem, ↓reduceIte]
    refine call_by r2 ?_
    simp (config := { maxSteps := 1000000 }) (disch := first | omega | (simp only [go_sem]; omega)) only [go_sem, ↓reduceIte]
    refine call_by r3 ?_
    simp (config := { maxSteps := 1000000 }) (disch := first | omega | (simp only [go_sem]; omega)) only [go_sem, ↓reduceIte]
    refine call_by r4 ?_
    simp (config := { maxSteps := 1000000 }) (disch := first | omega | (simp only [go_sem]; omega)) only [go_sem, ↓reduceIte]
    refine call_by r5 ?_
    simp (config := { maxSteps := 1000000 }) (disch := first | omega | (simp only [go_sem]; omega)) only [go_sem, ↓reduceIte]
    rfl
theorem w_r07_In (hi : K_r07_into P F) (p q : Mo) (h1 : p.n.length ≤ 10000) (h2 : p.e.length ≤ 10000) (h3 : q.sm) : W P (c_r07_In F) (Done [.t 4] [] (.bool (inP p q)) []) (init [mD p, mD q]) := by
  refine W_of ?_
  have r1 := hi p.n q.n h1 h3.1
  have r2 := hi p.e q.e h2 h3.2
  have hI : inP p q = (decide (((intoL p.n q.n).length : Int) = p.n.length) && decide (((intoL p.e q.e).length : Int) = p.e.length)) := rfl
  have l1 : (intoL p.n q.n).length ≤ p.n.length := sel_len _ _
  have l2 : (intoL p.e q.e).length ≤ p.e.length := sel_len _ _
  rw [hI]
  clear hI
  obtain ⟨pn, pe⟩ := p
  obtain ⟨qn, qe⟩ := q
  simp only [mD] at *
  generalize intoL pn qn = i1 at *
  generalize intoL pe qe = i2 at *
  cases c : decide ((i1.length : Int) = pn.length)
  · simp (config := { maxSteps := 1000000 }) (disch := first | omega | (simp only [go_sem]; omega)) only [go_sem, ↓reduceIte]
    refine call_by r1 ?_
    simp (config := { maxSteps := 1000000 }) (disch := first | omega | (simp only [go_sem]; omega)) only [go_sem, ↓reduceIte, c]
    try simp
  · simp (config := { maxSteps := 1000000 }) (disch := first | omega | (simp only [go_sem]; omega)) only [go_sem, ↓reduceIte]
    refine call_by r1 ?_
    simp (config := { maxSteps := 1000000 }) (disch := first | omega | (simp only [go_sem]; omega)) only [go_sem, ↓reduceIte, c]
    refine call_by r2 ?_
    simp (config := { maxSteps := 1000000 }) (disch := first | omega | (simp only [go_sem]; omega)) only [go_sem, ↓reduceIte]
    try simp
theorem w_l12_ComplementLeast_1 (hc : K_slices_Contains_I P F) (x : Int) (l : List Int) (hl : l.length ≤ maxL) : W P (c_l12_ComplementLeast_1 F) (Done [.t 3] [] (.bool (!decide (x ∈ l))) []) (init [.int .i64 x, .ref [.lst 1 (ints l)]]) := by
  refine W_of ?_
  have r1 := hc l x hl
  simp (config := { maxSteps := 1000000 }) (disch := first | omega | (simp only [go_sem]; omega)) only [go_sem, ↓reduceIte]
  refine call_by r1 ?_
  simp (config := { maxSteps := 1000000 }) (disch := first | omega | (simp only [go_sem]; omega)) only [go_sem, ↓reduceIte]
theorem cxR_zero {x : Cx} (he : cxE x = 0) : (cxR x).2 = 0 ↔ idL x.m.n x.k.n = [] ∧ idL x.m.e x.k.e = [] ∧ cxDan x = [] := by
  unfold cxR
  rw [if_neg (by simp [he])]
  split
  · rename_i h
    constructor
    · intro h'; cases h'
    · rintro ⟨h1, h2, _⟩; rw [h1, h2] at h; simp at h
  · rename_i h
    split
    · rename_i h2
      constructor
      · intro h'; cases h'
      · rintro ⟨_, _, h3⟩; rw [h3] at h2; simp at h2
    · rename_i h2
      exact ⟨fun _ => ⟨List.eq_nil_of_length_eq_zero (by omega), List.eq_nil_of_length_eq_zero (by omega), List.eq_nil_of_length_eq_zero (by omega)⟩, fun _ => rfl⟩
theorem idL_free {im kn : List Int} (h : im.Nodup) : idL im kn = [] := by
  rw [List.eq_nil_iff_forall_not_mem]
  intro p hp
  obtain ⟨i, k, h1, h2, h3, _⟩ := idL_mem.1 hp
  unfold idP at h3
  rw [Bool.and_eq_true, decide_eq_true_eq] at h3
  have he := h3.1
  rw [gt_nat (by omega), gt_nat h2] at he
  have := List.nodup_iff_pairwise_ne.1 h
  rw [List.pairwise_iff_getElem] at this
  exact this i k (by omega) h2 h1 he
theorem danE_iff {g : G} {gone me : List Int} {k : Nat} : danE g gone me k = true ↔ ¬ (k : Int) ∈ me ∧ ((gt g.e k).f ∈ gone ∨ (gt g.e k).o ∈ gone) := by
  unfold danE
  simp
theorem gone_anti {im kn kn' : List Int} (h : ∀ v ∈ kn, v ∈ kn') : ∀ v ∈ goneL im kn', v ∈ goneL im kn := fun v hv => by
  obtain ⟨i, h1, h2, h3⟩ := goneL_mem.1 hv
  exact goneL_mem.2 ⟨i, h1, fun hk => h2 (h _ hk), h3⟩
theorem dan_anti {x : Cx} {p : Mo} (h : ∀ v ∈ x.k.n, v ∈ p.n) : ∀ v ∈ cxDan (x.wk p), v ∈ cxDan x := fun v hv => by
  obtain ⟨k, h1, h2, rfl⟩ := danL_mem.1 hv
  refine danL_mem.2 ⟨k, h1, ?_, rfl⟩
  have h2 := danE_iff.1 h2
  exact danE_iff.2 ⟨h2.1, h2.2.imp (gone_anti h _) (gone_anti h _)⟩
/-- What a part with a complement keeps. -/
theorem next_least {x : Cx} {p : Mo} (he : cxE x = 0) (hp : PK x.l p) (hR : (cxR (x.wk p)).2 = 0) (h1 : ∀ v ∈ x.k.n, v ∈ p.n) (h2 : ∀ v ∈ x.k.e, v ∈ p.e) : (∀ v ∈ (nextP x).n, v ∈ p.n) ∧ ∀ v ∈ (nextP x).e, v ∈ p.e := by
  obtain ⟨hm, hk⟩ := cx_len he
  have he' : cxE (x.wk p) = 0 := by
    unfold cxE Cx.wk
    rw [if_neg (by simp [mok.2 hm])]
    exact validP_ok.2 hp
  obtain ⟨z1, z2, z3⟩ := (cxR_zero he').1 hR
  simp only [Cx.wk] at z1 z2
  have hE : ∀ v ∈ rpE x, v ∈ p.e := fun v hv => by
    unfold rpE at hv
    rw [List.mem_append] at hv
    rcases hv with hv | hv
    · exact h2 v hv
    · obtain ⟨q, hq, h⟩ := flP_memL.1 hv
      obtain ⟨i, k, a1, a2, a3, rfl⟩ := idL_mem.1 hq
      unfold idP at a3
      rw [Bool.and_eq_true, decide_eq_true_eq] at a3
      obtain ⟨b1, b2⟩ := idL_nil z2 a1 a2 a3.1
      rcases h with rfl | rfl <;> assumption
  have hN : ∀ v ∈ rpN x, v ∈ p.n := fun v hv => by
    unfold rpN at hv
    rw [List.mem_append, List.mem_append] at hv
    rcases hv with (hv | hv) | hv
    · exact h1 v hv
    · obtain ⟨q, hq, h⟩ := flP_memL.1 hv
      obtain ⟨i, k, a1, a2, a3, rfl⟩ := idL_mem.1 hq
      unfold idP at a3
      rw [Bool.and_eq_true, decide_eq_true_eq] at a3
      obtain ⟨b1, b2⟩ := idL_nil z1 a1 a2 a3.1
      rcases h with rfl | rfl <;> assumption
    · obtain ⟨i, k, a1, a2, a3, rfl⟩ := dnL_mem.1 hv
      have hd : gt (cxDan x) i ∈ cxDan x := gt_mem (by omega) (by omega)
      obtain ⟨j, c1, c2, c3⟩ := danL_mem.1 hd
      rw [c3] at a3
      refine Decidable.byContradiction fun hk' => ?_
      have hg : gt x.m.n k ∈ goneL x.m.n p.n := goneL_mem.2 ⟨k, a2, hk', rfl⟩
      have : (j : Int) ∈ cxDan (x.wk p) := danL_mem.2 ⟨j, c1, by
        have c2 := danE_iff.1 c2
        refine danE_iff.2 ⟨c2.1, ?_⟩
        rcases a3 with a3 | a3
        · rw [a3] at hg; exact .inl hg
        · rw [a3] at hg; exact .inr hg, rfl⟩
      rw [z3] at this
      simp at this
  constructor
  · intro v hv
    obtain ⟨k, c1, c2, rfl⟩ := sel_mem.1 hv
    simp only [Bool.or_eq_true, decide_eq_true_eq] at c2
    rcases c2 with c2 | c2
    · exact hN _ c2
    · obtain ⟨e, d1, d2⟩ := ends_mem.1 c2
      have := hp.d e (hE e d1)
      rcases d2 with d2 | d2 <;> rw [← d2]
      · exact this.1
      · exact this.2
  · intro v hv
    obtain ⟨k, c1, c2, rfl⟩ := sel_mem.1 hv
    exact hE _ (by simpa using c2)
theorem rep_least {p : Mo} : ∀ (n : Nat) {x : Cx}, cxE x = 0 → PK x.l p → (cxR (x.wk p)).2 = 0 → (∀ v ∈ x.k.n, v ∈ p.n) → (∀ v ∈ x.k.e, v ∈ p.e) → (∀ v ∈ (repGo n x).n, v ∈ p.n) ∧ ∀ v ∈ (repGo n x).e, v ∈ p.e
  | 0, x, _, _, _, h1, h2 => ⟨h1, h2⟩
  | n + 1, x, he, hp, hR, h1, h2 => by
    rw [repGo]
    split
    · exact ⟨h1, h2⟩
    · obtain ⟨q1, q2⟩ := next_least he hp hR h1 h2
      exact rep_least n (x := x.wk (nextP x)) (next_ok he) hp hR q1 q2
theorem sel_full {f : Nat → Bool} : ∀ {n : Nat}, (∀ k, k < n → f k = true) → (sel f n).length = n
  | 0, _ => by rw [sel_zero]; rfl
  | n + 1, h => by rw [sel_succ, if_pos (h n (by omega)), List.length_append, sel_full fun k hk => h k (by omega)]; rfl
theorem into_full {l p : List Int} (h : ∀ v ∈ l, v ∈ p) : (intoL l p).length = l.length :=
  sel_full fun k hk => decide_eq_true (h _ (gt_mem (by omega) (by omega)))
theorem inP_sub {p q : Mo} (h1 : ∀ v ∈ p.n, v ∈ q.n) (h2 : ∀ v ∈ p.e, v ∈ q.e) : inP p q = true := by
  unfold inP
  rw [into_full h1, into_full h2]
  simp
theorem joinP_ok {g : G} {p q : Mo} (h1 : PK g p) (h2 : PK g q) : PK g (joinP p q) := by
  refine ⟨h1.v, ⟨imgs_lt _, fun x hx => ?_⟩, ⟨imgs_lt _, fun x hx => ?_⟩, fun x hx => ?_⟩
  · rcases List.mem_append.1 (imgs_mem.1 hx) with h | h
    · exact h1.n.b x h
    · exact h2.n.b x h
  · rcases List.mem_append.1 (imgs_mem.1 hx) with h | h
    · exact h1.e.b x h
    · exact h2.e.b x h
  · rcases List.mem_append.1 (imgs_mem.1 hx) with h | h
    · have := h1.d x h
      exact ⟨imgs_mem.2 (List.mem_append.2 (.inl this.1)), imgs_mem.2 (List.mem_append.2 (.inl this.2))⟩
    · have := h2.d x h
      exact ⟨imgs_mem.2 (List.mem_append.2 (.inr this.1)), imgs_mem.2 (List.mem_append.2 (.inr this.2))⟩
theorem PK.sm {g : G} {p : Mo} (h : PK g p) : p.sm := by
  have := h.len
  exact ⟨by unfold maxL; omega, by unfold maxL; omega⟩
theorem w_l12_ComplementLeast (hw : K_l12_awake P F) (hm : K_l12_made P F) (hpm : K_r07_Made P F) (hj : K_subgraph_Join P F) (hr : K_complement_Repair P F) (hd : K_complement_Dangling P F) (hcf : K_slices_ContainsFunc_I P F) (hc1 : K_l12_ComplementLeast_1 P F) (ho : K_complement_Of P F) (hi : K_r07_In P F) (hid : K_complement_Identified P F) (hdi : K_r06_Distinct P F)
    (d : Dr) (c : List Int) (s t : Int) (hd0 : d.ok) (d1 : d.n.length ≤ maxL) (d2 : d.e.length ≤ maxL) (c1 : c.length ≤ 2000000) (c2 : ∀ v ∈ c, Byte v) : W P (c_l12_ComplementLeast F) (Done [.t 6] [] (.bool true) []) (init [drD d, .lst 1 (u8s c), .agg [.int .u64 s, .int .u64 t]]) := by
  refine W_of ?_
  have r1 := hm d c s hd0 d1 d2 c1 c2
  have he := cxm_ok (s := s) hd0 c2
  have hv := madeG_valid hd0
  have r2 := hpm (madeCx d c s).l t hv
  have hq : PK (madeCx d c s).l (partP (madeCx d c s).l t) := partP_ok hv
  clear hv
  generalize madeCx d c s = x at *
  generalize partP x.l t = q at *
  obtain ⟨hm1, hk1⟩ := cx_len he
  have hmo := joinP_ok hk1 hq
  have hJ : joinR x.l x.k q = (joinP x.k q, 0) := by
    have : joinE x.l x.k q = 0 := by
      unfold joinE
      rw [if_neg (by simp [validP_ok.2 hk1])]
      have := validP_ok.2 hq
      unfold validP at this
      rw [if_neg (by simp [hk1.v])] at this
      exact this
    unfold joinR
    rw [if_neg (by simp [this])]
  have r3 := hj x.l x.k q hk1.sm hq.sm
  rw [hJ] at r3
  have u1 : ∀ v ∈ x.k.n, v ∈ (joinP x.k q).n := fun v hv => imgs_mem.2 (List.mem_append.2 (.inl hv))
  have u2 : ∀ v ∈ x.k.e, v ∈ (joinP x.k q).e := fun v hv => imgs_mem.2 (List.mem_append.2 (.inl hv))
  generalize joinP x.k q = p at *
  have he' : cxE (x.wk p) = 0 := by
    unfold cxE Cx.wk
    rw [if_neg (by simp [mok.2 hm1])]
    exact validP_ok.2 hmo
  have hR : repR x = (repGo 121 x, 0) := by unfold repR; rw [if_neg (by simp [he])]
  have r4 := hr x hk1.sm
  have l4 := repR_len x
  rw [hR] at r4 l4
  have r5 := hd x hk1.sm
  have r6 := hd (x.wk p) hmo.sm
  have e5 : cxDr x = cxDan x := by unfold cxDr; rw [if_pos he]
  have e6 : cxDr (x.wk p) = cxDan (x.wk p) := by unfold cxDr; rw [if_pos he']
  have ld := fun x => cxDr_len x
  have ld1 := ld x
  have ld2 := ld (x.wk p)
  rw [e5, he] at r5
  rw [e6, he'] at r6
  rw [e5] at ld1
  rw [e6] at ld2
  have hsub := dan_anti u1
  have r7 := hcf (cxDan (x.wk p)) (by unfold maxL; omega) (F "l12.ComplementLeast.1") [.ref [.lst 1 (ints (cxDan x))]] rfl (fun v => !decide (v ∈ cxDan x)) fun v _ => hc1 v _ (by unfold maxL; omega)
  have hany : ((cxDan (x.wk p)).any fun v => !decide (v ∈ cxDan x)) = false := by
    rw [List.any_eq_false]
    intro v hv
    simp [hsub v hv]
  rw [hany] at r7
  clear hany hsub
  have r8 := ho (x.wk p) hmo.sm
  have r9 := hi (repGo 121 x) p (by simp only at l4; omega) (by simp only at l4; omega) hmo.sm
  have h9 : (cxR (x.wk p)).2 = 0 → inP (repGo 121 x) p = true := fun h => by
    obtain ⟨q1, q2⟩ := rep_least 121 he hmo h u1 u2
    exact inP_sub q1 q2
  have r10 := hid x hk1.sm
  rw [he, show cxIn x = idL x.m.n x.k.n by unfold cxIn; rw [if_pos he], show cxIe x = idL x.m.e x.k.e by unfold cxIe; rw [if_pos he]] at r10
  have hva := valid_spec hm1.va
  have r11 := hdi x.m.n (by have := hm1.ln; unfold maxL; omega)
  have r12 := hdi x.m.e (by have := hm1.le; unfold maxL; omega)
  have h11 : distinct x.m.n = true → idL x.m.n x.k.n = [] := fun h => idL_free (by simpa [distinct] using h)
  have h12 : distinct x.m.e = true → idL x.m.e x.k.e = [] := fun h => idL_free (by simpa [distinct] using h)
  clear hJ hR he he' hm1 hk1 hq hmo u1 u2 e5 e6 ld hva l4
  simp only [Cx.wk] at *
  generalize cxDan ⟨x.l, x.g, p, x.m⟩ = dm at *
  generalize cxDan x = dx at *
  generalize cxR ⟨x.l, x.g, p, x.m⟩ = R at *
  generalize repGo 121 x = rp at *
  generalize idL x.m.n x.k.n = i1 at *
  generalize idL x.m.e x.k.e = i2 at *
  generalize inP rp p = b9 at *
  generalize distinct x.m.n = b11 at *
  generalize distinct x.m.e = b12 at *
  obtain ⟨⟨ln, le⟩, ⟨gn, ge⟩, ⟨kn, ke⟩, ⟨mn, me⟩⟩ := x
  obtain ⟨pn, pe⟩ := p
  obtain ⟨qn, qe⟩ := q
  obtain ⟨⟨xn, xe⟩, v⟩ := R
  obtain ⟨rn, re⟩ := rp
  simp only [gD, mD, mA, drD, cxA] at *
  have last : b11 = true → decide ((i1.length : Int) = 0) = true := fun h => by rw [h11 h]; rfl
  have last2 : b12 = true → decide ((i2.length : Int) = 0) = true := fun h => by rw [h12 h]; rfl
  simp (config := { maxSteps := 1000000 }) (disch := first | omega | (simp only [go_sem]; omega)) only [go_sem, ↓reduceIte]
  refine call_by hw ?_
  simp (config := { maxSteps := 1000000 }) (disch := first | omega | (simp only [go_sem]; omega)) only [go_sem, ↓reduceIte]
  refine call_by r1 ?_
  simp (config := { maxSteps := 1000000 }) (disch := first | omega | (simp only [go_sem]; omega)) only [go_sem, ↓reduceIte]
  refine call_by r2 ?_
  simp (config := { maxSteps := 1000000 }) (disch := first | omega | (simp only [go_sem]; omega)) only [go_sem, ↓reduceIte]
  refine call_by r3 ?_
  simp (config := { maxSteps := 1000000 }) (disch := first | omega | (simp only [go_sem]; omega)) only [go_sem, ↓reduceIte]
  refine call_by r4 ?_
  simp (config := { maxSteps := 1000000 }) (disch := first | omega | (simp only [go_sem]; omega)) only [go_sem, ↓reduceIte]
  refine call_by r5 ?_
  simp (config := { maxSteps := 1000000 }) (disch := first | omega | (simp only [go_sem]; omega)) only [go_sem, ↓reduceIte]
  refine call_by r6 ?_
  simp (config := { maxSteps := 1000000 }) (disch := first | omega | (simp only [go_sem]; omega)) only [go_sem, ↓reduceIte]
  refine call_by r7 ?_
  simp (config := { maxSteps := 1000000 }) (disch := first | omega | (simp only [go_sem]; omega)) only [go_sem, ↓reduceIte]
  refine call_by r8 ?_
  by_cases cv : v = 0
  · have h9 := h9 cv
    subst h9
    simp (config := { maxSteps := 1000000 }) (disch := first | omega | (simp only [go_sem]; omega)) only [go_sem, ↓reduceIte, decide_eq_true cv]
    refine call_by r9 ?_
    simp (config := { maxSteps := 1000000 }) (disch := first | omega | (simp only [go_sem]; omega)) only [go_sem, ↓reduceIte]
    cases b11
    · refine call_by r10 ?_
      simp (config := { maxSteps := 1000000 }) (disch := first | omega | (simp only [go_sem]; omega)) only [go_sem, ↓reduceIte]
      refine call_by r11 ?_
      simp (config := { maxSteps := 1000000 }) (disch := first | omega | (simp only [go_sem]; omega)) only [go_sem, ↓reduceIte]
      cases b12
      · refine call_by r12 ?_
        simp (config := { maxSteps := 1000000 }) (disch := first | omega | (simp only [go_sem]; omega)) only [go_sem, ↓reduceIte]
      · have last2 := last2 rfl
        refine call_by r12 ?_
        simp (config := { maxSteps := 1000000 }) (disch := first | omega | (simp only [go_sem]; omega)) only [go_sem, ↓reduceIte, last2]
    · have last := last rfl
      refine call_by r10 ?_
      simp (config := { maxSteps := 1000000 }) (disch := first | omega | (simp only [go_sem]; omega)) only [go_sem, ↓reduceIte]
      refine call_by r11 ?_
      simp (config := { maxSteps := 1000000 }) (disch := first | omega | (simp only [go_sem]; omega)) only [go_sem, ↓reduceIte, last]
      cases b12
      · refine call_by r12 ?_
        simp (config := { maxSteps := 1000000 }) (disch := first | omega | (simp only [go_sem]; omega)) only [go_sem, ↓reduceIte]
      · have last2 := last2 rfl
        refine call_by r12 ?_
        simp (config := { maxSteps := 1000000 }) (disch := first | omega | (simp only [go_sem]; omega)) only [go_sem, ↓reduceIte, last2]
  · have dv : decide (v = 0) = false := decide_eq_false cv
    simp (config := { maxSteps := 1000000 }) (disch := first | omega | (simp only [go_sem]; omega)) only [go_sem, ↓reduceIte, dv]
    cases b11
    · refine call_by r10 ?_
      simp (config := { maxSteps := 1000000 }) (disch := first | omega | (simp only [go_sem]; omega)) only [go_sem, ↓reduceIte]
      refine call_by r11 ?_
      simp (config := { maxSteps := 1000000 }) (disch := first | omega | (simp only [go_sem]; omega)) only [go_sem, ↓reduceIte]
      cases b12
      · refine call_by r12 ?_
        simp (config := { maxSteps := 1000000 }) (disch := first | omega | (simp only [go_sem]; omega)) only [go_sem, ↓reduceIte]
      · have last2 := last2 rfl
        refine call_by r12 ?_
        simp (config := { maxSteps := 1000000 }) (disch := first | omega | (simp only [go_sem]; omega)) only [go_sem, ↓reduceIte, last2]
    · have last := last rfl
      refine call_by r10 ?_
      simp (config := { maxSteps := 1000000 }) (disch := first | omega | (simp only [go_sem]; omega)) only [go_sem, ↓reduceIte]
      refine call_by r11 ?_
      simp (config := { maxSteps := 1000000 }) (disch := first | omega | (simp only [go_sem]; omega)) only [go_sem, ↓reduceIte, last]
      cases b12
      · refine call_by r12 ?_
        simp (config := { maxSteps := 1000000 }) (disch := first | omega | (simp only [go_sem]; omega)) only [go_sem, ↓reduceIte]
      · have last2 := last2 rfl
        refine call_by r12 ?_
        simp (config := { maxSteps := 1000000 }) (disch := first | omega | (simp only [go_sem]; omega)) only [go_sem, ↓reduceIte, last2]
def shU2 : Sh := .cat [shU64, shU64]
theorem rd_u2 {x : D} (h : HasEl shU2 x) : ∃ s t : Int, x = .agg [.int .u64 s, .int .u64 t] := by
  simp only [shU2, HasEl] at h
  obtain ⟨ds, rfl, h⟩ := h
  simp only [shU64, HasShs, HasEl] at h
  obtain ⟨_, _, rfl, ⟨a, rfl, _⟩, _, _, rfl, ⟨b, rfl, _⟩, rfl⟩ := h
  exact ⟨a, b, rfl⟩
theorem x_l12_ComplementLeast (h : K_l12_ComplementLeast P F) (args : List D) (ha : HasEls [shDr, shU8s, shU2] args) (hz : dszS args ≤ 1048576) : FC P (F "l12.ComplementLeast") args (.bool true) [] := by
  simp only [HasEls] at ha
  obtain ⟨_, _, rfl, h1, _, _, rfl, h2, _, _, rfl, h3, rfl⟩ := ha
  obtain ⟨x, rfl, a1, a2, a3⟩ := rd_draft h1
  obtain ⟨c, rfl, c1, c2⟩ := rd_u8s h2
  obtain ⟨s, t, rfl⟩ := rd_u2 h3
  simp only [dszS, dszA, dsz, u8s_length] at hz
  exact h x c s t a1 a2 a3 (by omega) c1
end
end Go.Am
