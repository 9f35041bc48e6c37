/- The graph package and its reference: AddNode, AddEdge, Same; their laws. -/
import Derived.Test.YtfkkngepnnkloaaSjH
namespace Go.Am
open Go
set_option linter.unusedVariables false
set_option linter.unusedSimpArgs false
/- slices.Equal.E -/
def c_slices_Equal_E_r0 (F : String → Nat) : List LI := [⟨some 4, .mov (.k (.bool false)), none⟩]
def c_slices_Equal_E_r1 (F : String → Nat) : List LI := [⟨some 6, .mov (.t 0), none⟩,
  ⟨some 7, .len (.t 6), none⟩,
  ⟨some 8, .mov (.t 1), none⟩,
  ⟨some 9, .len (.t 8), none⟩,
  ⟨some 10, .bin .neq (.t 7) (.t 9), none⟩]
def c_slices_Equal_E_r2 (F : String → Nat) : List LI := [⟨some 4, .mov (.k (.bool false)), none⟩]
def c_slices_Equal_E_r3 (F : String → Nat) : List LI := [⟨some 11, .mov (.t 0), none⟩,
  ⟨some 12, .len (.t 11), none⟩,
  ⟨some 13, .mov (.k (.int .i64 (0))), none⟩]
def c_slices_Equal_E_r4 (F : String → Nat) : List LI := [⟨some 14, .bin .lss (.t 13) (.t 12), none⟩]
def c_slices_Equal_E_r5 (F : String → Nat) : List LI := [⟨some 15, .mov (.t 13), none⟩,
  ⟨some 5, .mov (.t 15), none⟩]
def c_slices_Equal_E_r6 (F : String → Nat) : List LI := [⟨some 16, .mov (.t 0), none⟩,
  ⟨some 17, .mov (.t 5), none⟩,
  ⟨some 18, .iad 3 (.t 16) (.t 17), none⟩,
  ⟨some 19, .load true 3 (.t 18), none⟩,
  ⟨some 20, .mov (.t 1), none⟩,
  ⟨some 21, .mov (.t 5), none⟩,
  ⟨some 22, .iad 3 (.t 20) (.t 21), none⟩,
  ⟨some 23, .load true 3 (.t 22), none⟩,
  ⟨some 24, .eqA 3 true (.t 19) (.t 23), none⟩]
def c_slices_Equal_E_r7 (F : String → Nat) : List LI := [⟨some 4, .mov (.k (.bool false)), none⟩]
def c_slices_Equal_E_r8 (F : String → Nat) : List LI := [⟨some 25, .bin .add (.t 13) (.k (.int .i64 (1))), none⟩,
  ⟨some 13, .mov (.t 25), none⟩]
def c_slices_Equal_E_b9 (F : String → Nat) : LC := (.seq (.reg (c_slices_Equal_E_r4 F) [0, 1, 12, 13, 14]) (.seq (.cond (.t 14) .skip (.exit 0)) (.seq (.block 1 (.seq (.reg (c_slices_Equal_E_r5 F) [0, 1, 5, 12, 13]) (.seq (.dreg [] (c_slices_Equal_E_r6 F) [0, 1, 12, 13, 24]) (.cond (.t 24) (.seq (.reg (c_slices_Equal_E_r7 F) [4]) .ret) .skip)))) (.reg (c_slices_Equal_E_r8 F) [0, 1, 12, 13]))))
def c_slices_Equal_E_r10 (F : String → Nat) : List LI := [⟨some 4, .mov (.k (.bool true)), none⟩]
def c_slices_Equal_E (F : String → Nat) : LC := (.seq (.reg (c_slices_Equal_E_r0 F) [0, 1]) (.seq (.seq (.reg (c_slices_Equal_E_r1 F) [0, 1, 10]) (.cond (.t 10) (.seq (.reg (c_slices_Equal_E_r2 F) [4]) .ret) .skip)) (.seq (.seq (.reg (c_slices_Equal_E_r3 F) [0, 1, 12, 13]) (.block 0 (.loop [0, 1, 12, 13] (c_slices_Equal_E_b9 F)))) (.seq (.reg (c_slices_Equal_E_r10 F) [4]) .ret))))
def h_slices_Equal_E : Hints := ⟨[], fun _ => [], tab [(0, [0, 1]), (1, [0, 1, 10]), (2, [4]), (3, [0, 1, 12, 13]), (4, [0, 1, 12, 13, 14]), (5, [0, 1, 5, 12, 13]), (6, [0, 1, 12, 13, 24]), (7, [4]), (8, [0, 1, 12, 13]), (9, [4])], tab [(4, [0, 1, 12, 13])]⟩

/- graph.Same -/
def c_graph_Same_r0 (F : String → Nat) : List LI := [⟨some 2, .bx (.t 0), none⟩,
  ⟨some 3, .bx (.t 1), none⟩,
  ⟨some 4, .mov (.k (.bool false)), none⟩]
def c_graph_Same_r1 (F : String → Nat) : List LI := [⟨some 5, .fad 0 (.t 2), none⟩,
  ⟨some 6, .load false 1 (.t 5), none⟩,
  ⟨some 7, .fad 0 (.t 3), none⟩,
  ⟨some 8, .load false 1 (.t 7), none⟩,
  ⟨some 9, .call (F "slices.Equal.I") [.t 6, .t 8] [], none⟩,
  ⟨some 10, .mov (.t 9), none⟩,
  ⟨some 11, .fad 1 (.t 2), some (10, true)⟩,
  ⟨some 12, .load false 1 (.t 11), some (10, true)⟩,
  ⟨some 13, .fad 1 (.t 3), some (10, true)⟩,
  ⟨some 14, .load false 1 (.t 13), some (10, true)⟩,
  ⟨some 15, .call (F "slices.Equal.E") [.t 12, .t 14] [], some (10, true)⟩,
  ⟨some 16, .pick (.t 10) (.t 15) (.k (.bool false)), none⟩,
  ⟨some 4, .mov (.t 16), none⟩]
def c_graph_Same (F : String → Nat) : LC := (.seq (.reg (c_graph_Same_r0 F) [2, 3]) (.seq (.reg (c_graph_Same_r1 F) [4]) .ret))
def h_graph_Same : Hints := ⟨[], fun _ => [], tab [(0, [2, 3]), (1, [4])], tab []⟩

/- graph.AddNode -/
def c_graph_AddNode_r0 (F : String → Nat) : List LI := [⟨some 2, .bx (.t 0), none⟩,
  ⟨some 4, .alloc [.nl 1, .nl 3], none⟩,
  ⟨some 5, .mov (.k (.int .i64 (0))), none⟩,
  ⟨some 6, .mov (.k (.int .i64 (0))), none⟩]
def c_graph_AddNode_r1 (F : String → Nat) : List LI := [⟨some 8, .load true 2 (.t 2), none⟩,
  ⟨some 9, .call (F "graph.Valid") [.t 8] [], none⟩,
  ⟨some 7, .mov (.t 9), none⟩]
def c_graph_AddNode_r2 (F : String → Nat) : List LI := [⟨some 10, .mov (.t 7), none⟩,
  ⟨some 11, .bin .neq (.t 10) (.k (.int .i64 (0))), none⟩]
def c_graph_AddNode_r3 (F : String → Nat) : List LI := [⟨some 12, .build [.nl 1, .nl 3] [], none⟩,
  ⟨some 13, .mov (.t 7), none⟩,
  ⟨none, .store 2 (.t 4) (.t 12), none⟩,
  ⟨some 5, .mov (.k (.int .i64 (0))), none⟩,
  ⟨some 6, .mov (.t 13), none⟩]
def c_graph_AddNode_r4 (F : String → Nat) : List LI := [⟨some 14, .mov (.t 1), none⟩,
  ⟨some 15, .call (F "graph.within") [.t 14, .k (.int .i64 (99))] [], none⟩,
  ⟨some 16, .not (.t 15), none⟩]
def c_graph_AddNode_r5 (F : String → Nat) : List LI := [⟨some 17, .build [.nl 1, .nl 3] [], none⟩,
  ⟨none, .store 2 (.t 4) (.t 17), none⟩,
  ⟨some 5, .mov (.k (.int .i64 (0))), none⟩,
  ⟨some 6, .mov (.k (.int .i64 (6))), none⟩]
def c_graph_AddNode_r6 (F : String → Nat) : List LI := [⟨some 18, .fad 0 (.t 2), none⟩,
  ⟨some 19, .load false 1 (.t 18), none⟩,
  ⟨some 20, .len (.t 19), none⟩,
  ⟨some 21, .bin .eql (.t 20) (.k (.int .i64 (40))), none⟩]
def c_graph_AddNode_r7 (F : String → Nat) : List LI := [⟨some 22, .build [.nl 1, .nl 3] [], none⟩,
  ⟨none, .store 2 (.t 4) (.t 22), none⟩,
  ⟨some 5, .mov (.k (.int .i64 (0))), none⟩,
  ⟨some 6, .mov (.k (.int .i64 (3))), none⟩]
def c_graph_AddNode_r8 (F : String → Nat) : List LI := [⟨some 23, .fad 0 (.t 2), none⟩,
  ⟨some 24, .load false 1 (.t 23), none⟩,
  ⟨some 25, .call (F "slices.Clone.I") [.t 24] [], none⟩,
  ⟨some 26, .mov (.t 1), none⟩,
  ⟨some 27, .buildSl 1 8 (.int .i64 (0)) 1 [(0, .t 26)], none⟩,
  ⟨some 28, .app 1 8 (.t 25) (.t 27), none⟩,
  ⟨some 29, .fad 1 (.t 2), none⟩,
  ⟨some 30, .load false 1 (.t 29), none⟩,
  ⟨some 31, .call (F "slices.Clone.E") [.t 30] [], none⟩,
  ⟨some 32, .build [.nl 1, .nl 3] [(0, 1, .t 28), (1, 1, .t 31)], none⟩,
  ⟨some 33, .fad 0 (.t 2), none⟩,
  ⟨some 34, .load false 1 (.t 33), none⟩,
  ⟨some 35, .len (.t 34), none⟩,
  ⟨none, .store 2 (.t 4) (.t 32), none⟩,
  ⟨some 5, .mov (.t 35), none⟩,
  ⟨some 6, .mov (.k (.int .i64 (0))), none⟩]
def c_graph_AddNode (F : String → Nat) : LC := (.seq (.reg (c_graph_AddNode_r0 F) [1, 2, 4]) (.seq (.seq (.reg (c_graph_AddNode_r1 F) [1, 2, 4, 7]) (.seq (.reg (c_graph_AddNode_r2 F) [1, 2, 4, 7, 11]) (.cond (.t 11) (.seq (.reg (c_graph_AddNode_r3 F) [4, 5, 6]) .ret) .skip))) (.seq (.seq (.reg (c_graph_AddNode_r4 F) [1, 2, 4, 16]) (.cond (.t 16) (.seq (.reg (c_graph_AddNode_r5 F) [4, 5, 6]) .ret) .skip)) (.seq (.seq (.reg (c_graph_AddNode_r6 F) [1, 2, 4, 21]) (.cond (.t 21) (.seq (.reg (c_graph_AddNode_r7 F) [4, 5, 6]) .ret) .skip)) (.seq (.dreg [(1, none, [], true), (2, none, [], true), (4, (some 8), [1, 2], true), (5, none, [], true), (7, (some 64), [2, 4, 5], false), (8, none, [], true), (11, (some 1024), [2, 4, 5, 8], true), (13, none, [11], false)] (c_graph_AddNode_r8 F) [4, 5, 6]) .ret)))))
def h_graph_AddNode : Hints := ⟨[], fun _ => [], tab [(0, [1, 2, 4]), (1, [1, 2, 4, 7]), (2, [1, 2, 4, 7, 11]), (3, [4, 5, 6]), (4, [1, 2, 4, 16]), (5, [4, 5, 6]), (6, [1, 2, 4, 21]), (7, [4, 5, 6]), (8, [4, 5, 6])], tab []⟩

/- graph.AddEdge -/
def c_graph_AddEdge_r0 (F : String → Nat) : List LI := [⟨some 2, .bx (.t 0), none⟩,
  ⟨some 3, .bx (.t 1), none⟩,
  ⟨some 4, .alloc [.nl 1, .nl 3], none⟩,
  ⟨some 5, .mov (.k (.int .i64 (0))), none⟩,
  ⟨some 6, .mov (.k (.int .i64 (0))), none⟩]
def c_graph_AddEdge_r1 (F : String → Nat) : List LI := [⟨some 8, .load true 2 (.t 2), none⟩,
  ⟨some 9, .call (F "graph.Valid") [.t 8] [], none⟩,
  ⟨some 7, .mov (.t 9), none⟩]
def c_graph_AddEdge_r2 (F : String → Nat) : List LI := [⟨some 10, .mov (.t 7), none⟩,
  ⟨some 11, .bin .neq (.t 10) (.k (.int .i64 (0))), none⟩]
def c_graph_AddEdge_r3 (F : String → Nat) : List LI := [⟨some 12, .build [.nl 1, .nl 3] [], none⟩,
  ⟨some 13, .mov (.t 7), none⟩,
  ⟨none, .store 2 (.t 4) (.t 12), none⟩,
  ⟨some 5, .mov (.k (.int .i64 (0))), none⟩,
  ⟨some 6, .mov (.t 13), none⟩]
def c_graph_AddEdge_r4 (F : String → Nat) : List LI := [⟨some 14, .load true 3 (.t 3), none⟩,
  ⟨some 15, .fad 0 (.t 2), none⟩,
  ⟨some 16, .load false 1 (.t 15), none⟩,
  ⟨some 17, .len (.t 16), none⟩,
  ⟨some 18, .call (F "graph.fits") [.t 14, .t 17] [], none⟩,
  ⟨some 19, .not (.t 18), none⟩]
def c_graph_AddEdge_r5 (F : String → Nat) : List LI := [⟨some 20, .build [.nl 1, .nl 3] [], none⟩,
  ⟨none, .store 2 (.t 4) (.t 20), none⟩,
  ⟨some 5, .mov (.k (.int .i64 (0))), none⟩,
  ⟨some 6, .mov (.k (.int .i64 (6))), none⟩]
def c_graph_AddEdge_r6 (F : String → Nat) : List LI := [⟨some 21, .fad 1 (.t 2), none⟩,
  ⟨some 22, .load false 1 (.t 21), none⟩,
  ⟨some 23, .len (.t 22), none⟩,
  ⟨some 24, .bin .eql (.t 23) (.k (.int .i64 (80))), none⟩]
def c_graph_AddEdge_r7 (F : String → Nat) : List LI := [⟨some 25, .build [.nl 1, .nl 3] [], none⟩,
  ⟨none, .store 2 (.t 4) (.t 25), none⟩,
  ⟨some 5, .mov (.k (.int .i64 (0))), none⟩,
  ⟨some 6, .mov (.k (.int .i64 (3))), none⟩]
def c_graph_AddEdge_r8 (F : String → Nat) : List LI := [⟨some 26, .fad 0 (.t 2), none⟩,
  ⟨some 27, .load false 1 (.t 26), none⟩,
  ⟨some 28, .call (F "slices.Clone.I") [.t 27] [], none⟩,
  ⟨some 29, .fad 1 (.t 2), none⟩,
  ⟨some 30, .load false 1 (.t 29), none⟩,
  ⟨some 31, .call (F "slices.Clone.E") [.t 30] [], none⟩,
  ⟨some 32, .load true 3 (.t 3), none⟩,
  ⟨some 33, .buildSl 3 24 (.agg [.int .i64 (0), .int .i64 (0), .int .i64 (0)]) 1 [(0, .t 32)], none⟩,
  ⟨some 34, .app 3 24 (.t 31) (.t 33), none⟩,
  ⟨some 35, .build [.nl 1, .nl 3] [(0, 1, .t 28), (1, 1, .t 34)], none⟩,
  ⟨some 36, .fad 1 (.t 2), none⟩,
  ⟨some 37, .load false 1 (.t 36), none⟩,
  ⟨some 38, .len (.t 37), none⟩,
  ⟨none, .store 2 (.t 4) (.t 35), none⟩,
  ⟨some 5, .mov (.t 38), none⟩,
  ⟨some 6, .mov (.k (.int .i64 (0))), none⟩]
def c_graph_AddEdge (F : String → Nat) : LC := (.seq (.reg (c_graph_AddEdge_r0 F) [2, 3, 4]) (.seq (.seq (.reg (c_graph_AddEdge_r1 F) [2, 3, 4, 7]) (.seq (.reg (c_graph_AddEdge_r2 F) [2, 3, 4, 7, 11]) (.cond (.t 11) (.seq (.reg (c_graph_AddEdge_r3 F) [4, 5, 6]) .ret) .skip))) (.seq (.seq (.reg (c_graph_AddEdge_r4 F) [2, 3, 4, 19]) (.cond (.t 19) (.seq (.reg (c_graph_AddEdge_r5 F) [4, 5, 6]) .ret) .skip)) (.seq (.seq (.reg (c_graph_AddEdge_r6 F) [2, 3, 4, 24]) (.cond (.t 24) (.seq (.reg (c_graph_AddEdge_r7 F) [4, 5, 6]) .ret) .skip)) (.seq (.dreg [(1, none, [], true), (2, none, [], true), (4, (some 8), [2], true), (5, none, [], true), (6, (some 0), [2, 5], false), (7, (some 64), [1, 2, 4, 5], true), (8, none, [], true), (11, (some 1024), [2, 5, 7, 8], true), (13, none, [11], false)] (c_graph_AddEdge_r8 F) [4, 5, 6]) .ret)))))
def h_graph_AddEdge : Hints := ⟨[], fun _ => [], tab [(0, [2, 3, 4]), (1, [2, 3, 4, 7]), (2, [2, 3, 4, 7, 11]), (3, [4, 5, 6]), (4, [2, 3, 4, 19]), (5, [4, 5, 6]), (6, [2, 3, 4, 24]), (7, [4, 5, 6]), (8, [4, 5, 6])], tab []⟩

/- r05.AddNode -/
def c_r05_AddNode_r0 (F : String → Nat) : List LI := [⟨some 2, .bx (.t 0), none⟩,
  ⟨some 4, .alloc [.nl 1, .nl 3], none⟩,
  ⟨some 5, .mov (.k (.int .i64 (0))), none⟩,
  ⟨some 6, .mov (.k (.int .i64 (0))), none⟩]
def c_r05_AddNode_r1 (F : String → Nat) : List LI := [⟨some 9, .load true 2 (.t 2), none⟩,
  ⟨some 10, .call (F "r05.Valid") [.t 9] [], none⟩,
  ⟨some 7, .mov (.t 10), none⟩]
def c_r05_AddNode_r2 (F : String → Nat) : List LI := [⟨some 11, .mov (.t 7), none⟩,
  ⟨some 12, .bin .neq (.t 11) (.k (.int .i64 (0))), none⟩]
def c_r05_AddNode_r3 (F : String → Nat) : List LI := [⟨some 13, .build [.nl 1, .nl 3] [], none⟩,
  ⟨some 14, .mov (.t 7), none⟩,
  ⟨none, .store 2 (.t 4) (.t 13), none⟩,
  ⟨some 5, .mov (.k (.int .i64 (0))), none⟩,
  ⟨some 6, .mov (.t 14), none⟩]
def c_r05_AddNode_r4 (F : String → Nat) : List LI := [⟨some 15, .mov (.t 1), none⟩,
  ⟨some 16, .call (F "r05.kind") [.t 15] [], none⟩,
  ⟨some 17, .not (.t 16), none⟩]
def c_r05_AddNode_r5 (F : String → Nat) : List LI := [⟨some 18, .build [.nl 1, .nl 3] [], none⟩,
  ⟨none, .store 2 (.t 4) (.t 18), none⟩,
  ⟨some 5, .mov (.k (.int .i64 (0))), none⟩,
  ⟨some 6, .mov (.k (.int .i64 (6))), none⟩]
def c_r05_AddNode_r6 (F : String → Nat) : List LI := [⟨some 19, .fad 0 (.t 2), none⟩,
  ⟨some 20, .load false 1 (.t 19), none⟩,
  ⟨some 21, .len (.t 20), none⟩,
  ⟨some 22, .bin .eql (.t 21) (.k (.int .i64 (40))), none⟩]
def c_r05_AddNode_r7 (F : String → Nat) : List LI := [⟨some 23, .build [.nl 1, .nl 3] [], none⟩,
  ⟨none, .store 2 (.t 4) (.t 23), none⟩,
  ⟨some 5, .mov (.k (.int .i64 (0))), none⟩,
  ⟨some 6, .mov (.k (.int .i64 (3))), none⟩]
def c_r05_AddNode_r8 (F : String → Nat) : List LI := [⟨some 24, .load true 2 (.t 2), none⟩,
  ⟨some 25, .call (F "r05.Copied") [.t 24] [], none⟩,
  ⟨some 8, .alloc [.nl 1, .nl 3], none⟩,
  ⟨none, .store 2 (.t 8) (.t 25), none⟩]
def c_r05_AddNode_r9 (F : String → Nat) : List LI := [⟨some 26, .fad 0 (.t 8), none⟩,
  ⟨some 27, .load false 1 (.t 26), none⟩,
  ⟨some 28, .mov (.t 1), none⟩,
  ⟨some 29, .buildSl 1 8 (.int .i64 (0)) 1 [(0, .t 28)], none⟩,
  ⟨some 30, .app 1 8 (.t 27) (.t 29), none⟩,
  ⟨some 31, .fad 0 (.t 8), none⟩,
  ⟨none, .store 1 (.t 31) (.t 30), none⟩]
def c_r05_AddNode_r10 (F : String → Nat) : List LI := [⟨some 32, .load true 2 (.t 8), none⟩,
  ⟨some 33, .fad 0 (.t 2), none⟩,
  ⟨some 34, .load false 1 (.t 33), none⟩,
  ⟨some 35, .len (.t 34), none⟩,
  ⟨none, .store 2 (.t 4) (.t 32), none⟩,
  ⟨some 5, .mov (.t 35), none⟩,
  ⟨some 6, .mov (.k (.int .i64 (0))), none⟩]
def c_r05_AddNode (F : String → Nat) : LC := (.seq (.reg (c_r05_AddNode_r0 F) [1, 2, 4]) (.seq (.seq (.reg (c_r05_AddNode_r1 F) [1, 2, 4, 7]) (.seq (.reg (c_r05_AddNode_r2 F) [1, 2, 4, 7, 12]) (.cond (.t 12) (.seq (.reg (c_r05_AddNode_r3 F) [4, 5, 6]) .ret) .skip))) (.seq (.seq (.reg (c_r05_AddNode_r4 F) [1, 2, 4, 17]) (.cond (.t 17) (.seq (.reg (c_r05_AddNode_r5 F) [4, 5, 6]) .ret) .skip)) (.seq (.seq (.reg (c_r05_AddNode_r6 F) [1, 2, 4, 22]) (.cond (.t 22) (.seq (.reg (c_r05_AddNode_r7 F) [4, 5, 6]) .ret) .skip)) (.seq (.reg (c_r05_AddNode_r8 F) [1, 2, 4, 8]) (.seq (.reg (c_r05_AddNode_r9 F) [2, 4, 8]) (.seq (.dreg [(2, none, [], true), (4, none, [2], false)] (c_r05_AddNode_r10 F) [4, 5, 6]) .ret)))))))
def h_r05_AddNode : Hints := ⟨[], fun _ => [], tab [(0, [1, 2, 4]), (1, [1, 2, 4, 7]), (2, [1, 2, 4, 7, 12]), (3, [4, 5, 6]), (4, [1, 2, 4, 17]), (5, [4, 5, 6]), (6, [1, 2, 4, 22]), (7, [4, 5, 6]), (8, [1, 2, 4, 8]), (9, [2, 4, 8]), (10, [4, 5, 6])], tab []⟩

/- r05.AddEdge -/
def c_r05_AddEdge_r0 (F : String → Nat) : List LI := [⟨some 2, .bx (.t 0), none⟩,
  ⟨some 3, .bx (.t 1), none⟩,
  ⟨some 4, .alloc [.nl 1, .nl 3], none⟩,
  ⟨some 5, .mov (.k (.int .i64 (0))), none⟩,
  ⟨some 6, .mov (.k (.int .i64 (0))), none⟩]
def c_r05_AddEdge_r1 (F : String → Nat) : List LI := [⟨some 9, .load true 2 (.t 2), none⟩,
  ⟨some 10, .call (F "r05.Valid") [.t 9] [], none⟩,
  ⟨some 7, .mov (.t 10), none⟩]
def c_r05_AddEdge_r2 (F : String → Nat) : List LI := [⟨some 11, .mov (.t 7), none⟩,
  ⟨some 12, .bin .neq (.t 11) (.k (.int .i64 (0))), none⟩]
def c_r05_AddEdge_r3 (F : String → Nat) : List LI := [⟨some 13, .build [.nl 1, .nl 3] [], none⟩,
  ⟨some 14, .mov (.t 7), none⟩,
  ⟨none, .store 2 (.t 4) (.t 13), none⟩,
  ⟨some 5, .mov (.k (.int .i64 (0))), none⟩,
  ⟨some 6, .mov (.t 14), none⟩]
def c_r05_AddEdge_r4 (F : String → Nat) : List LI := [⟨some 15, .load true 3 (.t 3), none⟩,
  ⟨some 16, .fad 0 (.t 2), none⟩,
  ⟨some 17, .load false 1 (.t 16), none⟩,
  ⟨some 18, .len (.t 17), none⟩,
  ⟨some 19, .call (F "r05.right") [.t 15, .t 18] [], none⟩,
  ⟨some 20, .not (.t 19), none⟩]
def c_r05_AddEdge_r5 (F : String → Nat) : List LI := [⟨some 21, .build [.nl 1, .nl 3] [], none⟩,
  ⟨none, .store 2 (.t 4) (.t 21), none⟩,
  ⟨some 5, .mov (.k (.int .i64 (0))), none⟩,
  ⟨some 6, .mov (.k (.int .i64 (6))), none⟩]
def c_r05_AddEdge_r6 (F : String → Nat) : List LI := [⟨some 22, .fad 1 (.t 2), none⟩,
  ⟨some 23, .load false 1 (.t 22), none⟩,
  ⟨some 24, .len (.t 23), none⟩,
  ⟨some 25, .bin .eql (.t 24) (.k (.int .i64 (80))), none⟩]
def c_r05_AddEdge_r7 (F : String → Nat) : List LI := [⟨some 26, .build [.nl 1, .nl 3] [], none⟩,
  ⟨none, .store 2 (.t 4) (.t 26), none⟩,
  ⟨some 5, .mov (.k (.int .i64 (0))), none⟩,
  ⟨some 6, .mov (.k (.int .i64 (3))), none⟩]
def c_r05_AddEdge_r8 (F : String → Nat) : List LI := [⟨some 27, .load true 2 (.t 2), none⟩,
  ⟨some 28, .call (F "r05.Copied") [.t 27] [], none⟩,
  ⟨some 8, .alloc [.nl 1, .nl 3], none⟩,
  ⟨none, .store 2 (.t 8) (.t 28), none⟩]
def c_r05_AddEdge_r9 (F : String → Nat) : List LI := [⟨some 29, .fad 1 (.t 8), none⟩,
  ⟨some 30, .load false 1 (.t 29), none⟩,
  ⟨some 31, .load true 3 (.t 3), none⟩,
  ⟨some 32, .buildSl 3 24 (.agg [.int .i64 (0), .int .i64 (0), .int .i64 (0)]) 1 [(0, .t 31)], none⟩,
  ⟨some 33, .app 3 24 (.t 30) (.t 32), none⟩,
  ⟨some 34, .fad 1 (.t 8), none⟩,
  ⟨none, .store 1 (.t 34) (.t 33), none⟩]
def c_r05_AddEdge_r10 (F : String → Nat) : List LI := [⟨some 35, .load true 2 (.t 8), none⟩,
  ⟨some 36, .fad 1 (.t 2), none⟩,
  ⟨some 37, .load false 1 (.t 36), none⟩,
  ⟨some 38, .len (.t 37), none⟩,
  ⟨none, .store 2 (.t 4) (.t 35), none⟩,
  ⟨some 5, .mov (.t 38), none⟩,
  ⟨some 6, .mov (.k (.int .i64 (0))), none⟩]
def c_r05_AddEdge (F : String → Nat) : LC := (.seq (.reg (c_r05_AddEdge_r0 F) [2, 3, 4]) (.seq (.seq (.reg (c_r05_AddEdge_r1 F) [2, 3, 4, 7]) (.seq (.reg (c_r05_AddEdge_r2 F) [2, 3, 4, 7, 12]) (.cond (.t 12) (.seq (.reg (c_r05_AddEdge_r3 F) [4, 5, 6]) .ret) .skip))) (.seq (.seq (.reg (c_r05_AddEdge_r4 F) [2, 3, 4, 20]) (.cond (.t 20) (.seq (.reg (c_r05_AddEdge_r5 F) [4, 5, 6]) .ret) .skip)) (.seq (.seq (.reg (c_r05_AddEdge_r6 F) [2, 3, 4, 25]) (.cond (.t 25) (.seq (.reg (c_r05_AddEdge_r7 F) [4, 5, 6]) .ret) .skip)) (.seq (.reg (c_r05_AddEdge_r8 F) [2, 3, 4, 8]) (.seq (.reg (c_r05_AddEdge_r9 F) [2, 4, 8]) (.seq (.dreg [(2, none, [], true), (4, none, [2], false)] (c_r05_AddEdge_r10 F) [4, 5, 6]) .ret)))))))
def h_r05_AddEdge : Hints := ⟨[], fun _ => [], tab [(0, [2, 3, 4]), (1, [2, 3, 4, 7]), (2, [2, 3, 4, 7, 12]), (3, [4, 5, 6]), (4, [2, 3, 4, 20]), (5, [4, 5, 6]), (6, [2, 3, 4, 25]), (7, [4, 5, 6]), (8, [2, 3, 4, 8]), (9, [2, 4, 8]), (10, [4, 5, 6])], tab []⟩

/- l05.GraphAdd -/
def c_l05_GraphAdd_r0 (F : String → Nat) : List LI := [⟨some 2, .bx (.t 0), none⟩,
  ⟨some 4, .mov (.k (.bool false)), none⟩]
def c_l05_GraphAdd_r1 (F : String → Nat) : List LI := [⟨some 11, .call (F "l05.awake") [] [], none⟩,
  ⟨some 12, .not (.t 11), none⟩,
  ⟨some 13, .mov (.t 12), none⟩,
  ⟨some 14, .load true 2 (.t 2), some (13, false)⟩,
  ⟨some 15, .call (F "r05.Few") [.t 14] [], some (13, false)⟩,
  ⟨some 16, .not (.t 15), some (13, false)⟩,
  ⟨some 17, .pick (.t 13) (.k (.bool true)) (.t 16), none⟩]
def c_l05_GraphAdd_r2 (F : String → Nat) : List LI := [⟨some 18, .call (F "l05.awake") [] [], none⟩,
  ⟨some 4, .mov (.t 18), none⟩]
def c_l05_GraphAdd_r3 (F : String → Nat) : List LI := [⟨some 20, .load true 2 (.t 2), none⟩,
  ⟨some 21, .call (F "r05.Copied") [.t 20] [], none⟩,
  ⟨some 22, .mov (.t 1), none⟩,
  ⟨some 23, .call (F "graph.AddNode") [.t 21, .t 22] [], none⟩,
  ⟨some 19, .mov (.t 23), none⟩,
  ⟨some 24, .ext (.t 19) 0, none⟩,
  ⟨some 25, .ext (.t 19) 1, none⟩,
  ⟨some 26, .ext (.t 19) 2, none⟩,
  ⟨some 5, .alloc [.nl 1, .nl 3], none⟩,
  ⟨none, .store 2 (.t 5) (.t 24), none⟩,
  ⟨some 6, .mov (.t 25), none⟩,
  ⟨some 7, .mov (.t 26), none⟩]
def c_l05_GraphAdd_r4 (F : String → Nat) : List LI := [⟨some 28, .load true 2 (.t 2), none⟩,
  ⟨some 29, .mov (.t 1), none⟩,
  ⟨some 30, .call (F "r05.AddNode") [.t 28, .t 29] [], none⟩,
  ⟨some 27, .mov (.t 30), none⟩,
  ⟨some 31, .ext (.t 27) 0, none⟩,
  ⟨some 32, .ext (.t 27) 1, none⟩,
  ⟨some 33, .ext (.t 27) 2, none⟩,
  ⟨some 8, .alloc [.nl 1, .nl 3], none⟩,
  ⟨none, .store 2 (.t 8) (.t 31), none⟩,
  ⟨some 9, .mov (.t 32), none⟩,
  ⟨some 10, .mov (.t 33), none⟩]
def c_l05_GraphAdd_r5 (F : String → Nat) : List LI := [⟨some 34, .load true 2 (.t 2), none⟩,
  ⟨some 35, .call (F "r05.Copied") [.t 34] [], none⟩,
  ⟨some 36, .call (F "graph.Valid") [.t 35] [], none⟩,
  ⟨some 37, .load true 2 (.t 2), none⟩,
  ⟨some 38, .call (F "r05.Valid") [.t 37] [], none⟩,
  ⟨some 39, .bin .eql (.t 36) (.t 38), none⟩,
  ⟨some 40, .mov (.t 39), none⟩,
  ⟨some 41, .mov (.t 7), some (40, true)⟩,
  ⟨some 42, .mov (.t 10), some (40, true)⟩,
  ⟨some 43, .bin .eql (.t 41) (.t 42), some (40, true)⟩,
  ⟨some 44, .pick (.t 40) (.t 43) (.k (.bool false)), none⟩,
  ⟨some 45, .mov (.t 44), none⟩,
  ⟨some 46, .mov (.t 6), some (45, true)⟩,
  ⟨some 47, .mov (.t 9), some (45, true)⟩,
  ⟨some 48, .bin .eql (.t 46) (.t 47), some (45, true)⟩,
  ⟨some 49, .pick (.t 45) (.t 48) (.k (.bool false)), none⟩,
  ⟨some 50, .mov (.t 49), none⟩,
  ⟨some 51, .load true 2 (.t 5), some (50, true)⟩,
  ⟨some 52, .load true 2 (.t 8), some (50, true)⟩,
  ⟨some 53, .call (F "r05.Same") [.t 51, .t 52] [], some (50, true)⟩,
  ⟨some 54, .pick (.t 50) (.t 53) (.k (.bool false)), none⟩,
  ⟨some 55, .mov (.t 54), none⟩,
  ⟨some 56, .load true 2 (.t 2), some (55, true)⟩,
  ⟨some 57, .load true 2 (.t 2), some (55, true)⟩,
  ⟨some 58, .call (F "r05.Copied") [.t 57] [], some (55, true)⟩,
  ⟨some 59, .call (F "graph.Same") [.t 56, .t 58] [], some (55, true)⟩,
  ⟨some 60, .pick (.t 55) (.t 59) (.k (.bool false)), none⟩,
  ⟨some 61, .mov (.t 60), none⟩,
  ⟨some 62, .mov (.t 7), some (61, true)⟩,
  ⟨some 63, .bin .neq (.t 62) (.k (.int .i64 (0))), some (61, true)⟩,
  ⟨some 64, .mov (.t 63), some (61, true)⟩,
  ⟨some 65, .load true 2 (.t 2), some (64, false)⟩,
  ⟨some 66, .load true 2 (.t 5), some (64, false)⟩,
  ⟨some 67, .call (F "graph.Same") [.t 65, .t 66] [], some (64, false)⟩,
  ⟨some 68, .not (.t 67), some (64, false)⟩,
  ⟨some 69, .pick (.t 64) (.k (.bool true)) (.t 68), some (61, true)⟩,
  ⟨some 70, .pick (.t 61) (.t 69) (.k (.bool false)), none⟩,
  ⟨some 4, .mov (.t 70), none⟩]
def c_l05_GraphAdd (F : String → Nat) : LC := (.seq (.reg (c_l05_GraphAdd_r0 F) [1, 2]) (.seq (.seq (.reg (c_l05_GraphAdd_r1 F) [1, 2, 17]) (.cond (.t 17) (.seq (.reg (c_l05_GraphAdd_r2 F) [4]) .ret) .skip)) (.seq (.reg (c_l05_GraphAdd_r3 F) [1, 2, 5, 6, 7]) (.seq (.reg (c_l05_GraphAdd_r4 F) [2, 5, 6, 7, 8, 9, 10]) (.seq (.dreg [(1, none, [], true), (2, none, [], true), (3, (some 0), [1, 2], false), (22, none, [], true), (24, none, [22], false)] (c_l05_GraphAdd_r5 F) [4]) .ret)))))
def h_l05_GraphAdd : Hints := ⟨[], fun _ => [], tab [(0, [1, 2]), (1, [1, 2, 17]), (2, [4]), (3, [1, 2, 5, 6, 7]), (4, [2, 5, 6, 7, 8, 9, 10]), (5, [4])], tab []⟩

/- l05.GraphEdge -/
def c_l05_GraphEdge_r0 (F : String → Nat) : List LI := [⟨some 2, .bx (.t 0), none⟩,
  ⟨some 3, .bx (.t 1), none⟩,
  ⟨some 4, .mov (.k (.bool false)), none⟩]
def c_l05_GraphEdge_r1 (F : String → Nat) : List LI := [⟨some 11, .call (F "l05.awake") [] [], none⟩,
  ⟨some 12, .not (.t 11), none⟩,
  ⟨some 13, .mov (.t 12), none⟩,
  ⟨some 14, .load true 2 (.t 2), some (13, false)⟩,
  ⟨some 15, .call (F "r05.Few") [.t 14] [], some (13, false)⟩,
  ⟨some 16, .not (.t 15), some (13, false)⟩,
  ⟨some 17, .pick (.t 13) (.k (.bool true)) (.t 16), none⟩]
def c_l05_GraphEdge_r2 (F : String → Nat) : List LI := [⟨some 18, .call (F "l05.awake") [] [], none⟩,
  ⟨some 4, .mov (.t 18), none⟩]
def c_l05_GraphEdge_r3 (F : String → Nat) : List LI := [⟨some 20, .load true 2 (.t 2), none⟩,
  ⟨some 21, .call (F "r05.Copied") [.t 20] [], none⟩,
  ⟨some 22, .load true 3 (.t 3), none⟩,
  ⟨some 23, .call (F "graph.AddEdge") [.t 21, .t 22] [], none⟩,
  ⟨some 19, .mov (.t 23), none⟩,
  ⟨some 24, .ext (.t 19) 0, none⟩,
  ⟨some 25, .ext (.t 19) 1, none⟩,
  ⟨some 26, .ext (.t 19) 2, none⟩,
  ⟨some 5, .alloc [.nl 1, .nl 3], none⟩,
  ⟨none, .store 2 (.t 5) (.t 24), none⟩,
  ⟨some 6, .mov (.t 25), none⟩,
  ⟨some 7, .mov (.t 26), none⟩]
def c_l05_GraphEdge_r4 (F : String → Nat) : List LI := [⟨some 28, .load true 2 (.t 2), none⟩,
  ⟨some 29, .load true 3 (.t 3), none⟩,
  ⟨some 30, .call (F "r05.AddEdge") [.t 28, .t 29] [], none⟩,
  ⟨some 27, .mov (.t 30), none⟩,
  ⟨some 31, .ext (.t 27) 0, none⟩,
  ⟨some 32, .ext (.t 27) 1, none⟩,
  ⟨some 33, .ext (.t 27) 2, none⟩,
  ⟨some 8, .alloc [.nl 1, .nl 3], none⟩,
  ⟨none, .store 2 (.t 8) (.t 31), none⟩,
  ⟨some 9, .mov (.t 32), none⟩,
  ⟨some 10, .mov (.t 33), none⟩]
def c_l05_GraphEdge_r5 (F : String → Nat) : List LI := [⟨some 34, .mov (.t 7), none⟩,
  ⟨some 35, .mov (.t 10), none⟩,
  ⟨some 36, .bin .eql (.t 34) (.t 35), none⟩,
  ⟨some 37, .mov (.t 36), none⟩,
  ⟨some 38, .mov (.t 6), some (37, true)⟩,
  ⟨some 39, .mov (.t 9), some (37, true)⟩,
  ⟨some 40, .bin .eql (.t 38) (.t 39), some (37, true)⟩,
  ⟨some 41, .pick (.t 37) (.t 40) (.k (.bool false)), none⟩,
  ⟨some 42, .mov (.t 41), none⟩,
  ⟨some 43, .load true 2 (.t 5), some (42, true)⟩,
  ⟨some 44, .load true 2 (.t 8), some (42, true)⟩,
  ⟨some 45, .call (F "r05.Same") [.t 43, .t 44] [], some (42, true)⟩,
  ⟨some 46, .pick (.t 42) (.t 45) (.k (.bool false)), none⟩,
  ⟨some 47, .mov (.t 46), none⟩,
  ⟨some 48, .mov (.t 7), some (47, true)⟩,
  ⟨some 49, .bin .neq (.t 48) (.k (.int .i64 (0))), some (47, true)⟩,
  ⟨some 50, .mov (.t 49), some (47, true)⟩,
  ⟨some 51, .load true 2 (.t 5), some (50, false)⟩,
  ⟨some 52, .load true 2 (.t 2), some (50, false)⟩,
  ⟨some 53, .call (F "graph.Same") [.t 51, .t 52] [], some (50, false)⟩,
  ⟨some 54, .not (.t 53), some (50, false)⟩,
  ⟨some 55, .mov (.t 54), some (50, false)⟩,
  ⟨some 56, .load true 2 (.t 5), some (55, true)⟩,
  ⟨some 57, .load true 2 (.t 8), some (55, true)⟩,
  ⟨some 58, .call (F "graph.Same") [.t 56, .t 57] [], some (55, true)⟩,
  ⟨some 59, .pick (.t 55) (.t 58) (.k (.bool false)), some (50, false)⟩,
  ⟨some 60, .pick (.t 50) (.k (.bool true)) (.t 59), some (47, true)⟩,
  ⟨some 61, .pick (.t 47) (.t 60) (.k (.bool false)), none⟩,
  ⟨some 4, .mov (.t 61), none⟩]
def c_l05_GraphEdge (F : String → Nat) : LC := (.seq (.reg (c_l05_GraphEdge_r0 F) [2, 3]) (.seq (.seq (.reg (c_l05_GraphEdge_r1 F) [2, 3, 17]) (.cond (.t 17) (.seq (.reg (c_l05_GraphEdge_r2 F) [4]) .ret) .skip)) (.seq (.dreg [(1, none, [], true), (2, (some 0), [1], false)] (c_l05_GraphEdge_r3 F) [2, 3, 5, 6, 7]) (.seq (.reg (c_l05_GraphEdge_r4 F) [2, 5, 6, 7, 8, 9, 10]) (.seq (.reg (c_l05_GraphEdge_r5 F) [4]) .ret)))))
def h_l05_GraphEdge : Hints := ⟨[], fun _ => [], tab [(0, [2, 3]), (1, [2, 3, 17]), (2, [4]), (3, [2, 3, 5, 6, 7]), (4, [2, 5, 6, 7, 8, 9, 10]), (5, [4])], tab []⟩

attribute [go_sem] c_slices_Equal_E_r0 c_slices_Equal_E_r1 c_slices_Equal_E_r2 c_slices_Equal_E_r3 c_slices_Equal_E_r4 c_slices_Equal_E_r5 c_slices_Equal_E_r6 c_slices_Equal_E_r7 c_slices_Equal_E_r8 c_slices_Equal_E_r10 c_slices_Equal_E c_graph_Same_r0 c_graph_Same_r1 c_graph_Same c_graph_AddNode_r0 c_graph_AddNode_r1 c_graph_AddNode_r2 c_graph_AddNode_r3 c_graph_AddNode_r4 c_graph_AddNode_r5 c_graph_AddNode_r6 c_graph_AddNode_r7 c_graph_AddNode_r8 c_graph_AddNode c_graph_AddEdge_r0 c_graph_AddEdge_r1 c_graph_AddEdge_r2 c_graph_AddEdge_r3 c_graph_AddEdge_r4 c_graph_AddEdge_r5 c_graph_AddEdge_r6 c_graph_AddEdge_r7 c_graph_AddEdge_r8 c_graph_AddEdge c_r05_AddNode_r0 c_r05_AddNode_r1 c_r05_AddNode_r2 c_r05_AddNode_r3 c_r05_AddNode_r4 c_r05_AddNode_r5 c_r05_AddNode_r6 c_r05_AddNode_r7 c_r05_AddNode_r8 c_r05_AddNode_r9 c_r05_AddNode_r10 c_r05_AddNode c_r05_AddEdge_r0 c_r05_AddEdge_r1 c_r05_AddEdge_r2 c_r05_AddEdge_r3 c_r05_AddEdge_r4 c_r05_AddEdge_r5 c_r05_AddEdge_r6 c_r05_AddEdge_r7 c_r05_AddEdge_r8 c_r05_AddEdge_r9 c_r05_AddEdge_r10 c_r05_AddEdge c_l05_GraphAdd_r0 c_l05_GraphAdd_r1 c_l05_GraphAdd_r2 c_l05_GraphAdd_r3 c_l05_GraphAdd_r4 c_l05_GraphAdd_r5 c_l05_GraphAdd c_l05_GraphEdge_r0 c_l05_GraphEdge_r1 c_l05_GraphEdge_r2 c_l05_GraphEdge_r3 c_l05_GraphEdge_r4 c_l05_GraphEdge_r5 c_l05_GraphEdge
def addNG (g : G) (k : Int) : G × Int × Int :=
  if validG g ≠ 0 then (⟨[], []⟩, 0, validG g) else if ¬ (0 ≤ k ∧ k ≤ 99) then (⟨[], []⟩, 0, 6) else if g.n.length = 40 then (⟨[], []⟩, 0, 3) else (⟨g.n ++ [k], g.e⟩, g.n.length, 0)
def addEG (g : G) (x : E) : G × Int × Int :=
  if validG g ≠ 0 then (⟨[], []⟩, 0, validG g) else if fitsE g.n.length x = false then (⟨[], []⟩, 0, 6) else if g.e.length = 80 then (⟨[], []⟩, 0, 3) else (⟨g.n, g.e ++ [x]⟩, g.e.length, 0)
def addD (r : G × Int × Int) : D := .tup [gA r.1, .int .i64 r.2.1, .int .i64 r.2.2]
section
variable (P : Program) (F : String → Nat)
def K_slices_Equal_E : Prop := ∀ a b : List E, a.length ≤ maxL → FC P (F "slices.Equal.E") [.lst 3 (eds a), .lst 3 (eds b)] (.bool (decide (a = b))) []
def K_graph_Same : Prop := ∀ a b : G, a.n.length ≤ maxL → a.e.length ≤ maxL → FC P (F "graph.Same") [gD a, gD b] (.bool (decide (a = b))) []
def K_graph_AddNode : Prop := ∀ (g : G) (k : Int), FC P (F "graph.AddNode") [gD g, .int .i64 k] (addD (addNG g k)) []
def K_r05_AddNode : Prop := ∀ (g : G) (k : Int), FC P (F "r05.AddNode") [gD g, .int .i64 k] (addD (addNG g k)) []
def K_graph_AddEdge : Prop := ∀ (g : G) (x : E), FC P (F "graph.AddEdge") [gD g, edD x] (addD (addEG g x)) []
def K_r05_AddEdge : Prop := ∀ (g : G) (x : E), FC P (F "r05.AddEdge") [gD g, edD x] (addD (addEG g x)) []
def K_l05_GraphAdd : Prop := ∀ (g : G) (k : Int), FC P (F "l05.GraphAdd") [gD g, .int .i64 k] (.bool true) []
def K_l05_GraphEdge : Prop := ∀ (g : G) (x : E), FC P (F "l05.GraphEdge") [gD g, edD x] (.bool true) []
end
section
variable {P : Program} {F : String → Nat} {α : Type}
theorem w_slices_Equal_E (a b : List E) (hl : a.length ≤ maxL) : W P (c_slices_Equal_E F) (Done [.t 4] [] (.bool (decide (a = b))) []) (init [.lst 3 (eds a), .lst 3 (eds b)]) := by
  refine W_of ?_
  unfold maxL at hl
  simp (config := { maxSteps := 1000000 }) (disch := first | omega | (simp only [List.length_set, List.length_append, List.length_cons, List.length_nil, List.length_replicate]; omega)) only [go_sem, Nat.reduceEqDiff, Nat.reduceBEq, Nat.reduceAdd, Nat.reduceSub, Nat.reduceMul, Nat.reduceLT, Nat.reduceLeDiff, ↓reduceIte, reduceCtorEq, Nat.reduceDiv, Nat.reducePow, Nat.reduceMod]
  refine bran_ndec (fun h => ?_) (fun h => ?_)
  · simp (config := { maxSteps := 1000000 }) (disch := first | omega | (simp only [List.length_set, List.length_append, List.length_cons, List.length_nil, List.length_replicate]; omega)) only [go_sem, Nat.reduceEqDiff, Nat.reduceBEq, Nat.reduceAdd, Nat.reduceSub, Nat.reduceMul, Nat.reduceLT, Nat.reduceLeDiff, ↓reduceIte, reduceCtorEq, Nat.reduceDiv, Nat.reducePow, Nat.reduceMod]
    have : a ≠ b := fun e => h (by rw [e])
    simp [this]
  · have h' : a.length = b.length := by omega
    simp (config := { maxSteps := 1000000 }) (disch := first | omega | (simp only [List.length_set, List.length_append, List.length_cons, List.length_nil, List.length_replicate]; omega)) only [go_sem, Nat.reduceEqDiff, Nat.reduceBEq, Nat.reduceAdd, Nat.reduceSub, Nat.reduceMul, Nat.reduceLT, Nat.reduceLeDiff, ↓reduceIte, reduceCtorEq, Nat.reduceDiv, Nat.reducePow, Nat.reduceMod]
    refine W_loop (fun i : Nat => ⟨[(0, .lst 3 (eds a)), (1, .lst 3 (eds b)), (12, .int .i64 a.length), (13, .int .i64 i)], [], 0⟩) (fun i => i ≤ a.length ∧ a.take i = b.take i) (fun i => a.length - i) 0 ?_ ?_ ?_
    · simp (config := { maxSteps := 1000000 }) (disch := first | omega | (simp only [List.length_set, List.length_append, List.length_cons, List.length_nil, List.length_replicate]; omega)) only [go_sem, Nat.reduceEqDiff, Nat.reduceBEq, Nat.reduceAdd, Nat.reduceSub, Nat.reduceMul, Nat.reduceLT, Nat.reduceLeDiff, ↓reduceIte, reduceCtorEq, Nat.reduceDiv, Nat.reducePow, Nat.reduceMod]
      rfl
    · simp
    · intro i hi
      simp (config := { maxSteps := 1000000 }) (disch := first | omega | (simp only [List.length_set, List.length_append, List.length_cons, List.length_nil, List.length_replicate]; omega)) only [go_sem, Nat.reduceEqDiff, Nat.reduceBEq, Nat.reduceAdd, Nat.reduceSub, Nat.reduceMul, Nat.reduceLT, Nat.reduceLeDiff, ↓reduceIte, reduceCtorEq, Nat.reduceDiv, Nat.reducePow, Nat.reduceMod, c_slices_Equal_E_b9]
      refine bran_dec (fun c => ?_) (fun c => ?_)
      · have he : (decide ((gt a i).t = (gt b i).t) && (decide ((gt a i).f = (gt b i).f) && decide ((gt a i).o = (gt b i).o))) = decide (gt a i = gt b i) := by
          rw [Bool.eq_iff_iff]; simp [eqE]
        simp (config := { maxSteps := 1000000 }) (disch := first | omega | (simp only [List.length_set, List.length_append, List.length_cons, List.length_nil, List.length_replicate]; omega)) only [go_sem, Nat.reduceEqDiff, Nat.reduceBEq, Nat.reduceAdd, Nat.reduceSub, Nat.reduceMul, Nat.reduceLT, Nat.reduceLeDiff, ↓reduceIte, reduceCtorEq, Nat.reduceDiv, Nat.reducePow, Nat.reduceMod, he]
        refine bran_ndec (fun d => ?_) (fun d => ?_)
        · simp (config := { maxSteps := 1000000 }) (disch := first | omega | (simp only [List.length_set, List.length_append, List.length_cons, List.length_nil, List.length_replicate]; omega)) only [go_sem, Nat.reduceEqDiff, Nat.reduceBEq, Nat.reduceAdd, Nat.reduceSub, Nat.reduceMul, Nat.reduceLT, Nat.reduceLeDiff, ↓reduceIte, reduceCtorEq, Nat.reduceDiv, Nat.reducePow, Nat.reduceMod]
          have : a ≠ b := fun e => d (by rw [e])
          simp [this]
        · simp (config := { maxSteps := 1000000 }) (disch := first | omega | (simp only [List.length_set, List.length_append, List.length_cons, List.length_nil, List.length_replicate]; omega)) only [go_sem, Nat.reduceEqDiff, Nat.reduceBEq, Nat.reduceAdd, Nat.reduceSub, Nat.reduceMul, Nat.reduceLT, Nat.reduceLeDiff, ↓reduceIte, reduceCtorEq, Nat.reduceDiv, Nat.reducePow, Nat.reduceMod]
          exact ⟨i + 1, by simp, ⟨by omega, by rw [take_gt (by omega), take_gt (by omega), hi.2, d]⟩, by omega⟩
      · simp (config := { maxSteps := 1000000 }) (disch := first | omega | (simp only [List.length_set, List.length_append, List.length_cons, List.length_nil, List.length_replicate]; omega)) only [go_sem, Nat.reduceEqDiff, Nat.reduceBEq, Nat.reduceAdd, Nat.reduceSub, Nat.reduceMul, Nat.reduceLT, Nat.reduceLeDiff, ↓reduceIte, reduceCtorEq, Nat.reduceDiv, Nat.reducePow, Nat.reduceMod]
        obtain rfl : i = a.length := by omega
        have := hi.2
        rw [List.take_length, List.take_of_length_le (by omega)] at this
        simp [this]
theorem w_graph_Same (h1 : K_slices_Equal_I P F) (h2 : K_slices_Equal_E P F) (a b : G) (h3 : a.n.length ≤ maxL) (h4 : a.e.length ≤ maxL) : W P (c_graph_Same F) (Done [.t 4] [] (.bool (decide (a = b))) []) (init [gD a, gD b]) := by
  refine W_of ?_
  obtain ⟨an, ae⟩ := a
  obtain ⟨bn, be⟩ := b
  simp only at h3 h4
  simp (config := { maxSteps := 1000000 }) (disch := first | omega | (simp only [List.length_set, List.length_append, List.length_cons, List.length_nil, List.length_replicate]; omega)) only [go_sem, Nat.reduceEqDiff, Nat.reduceBEq, Nat.reduceAdd, Nat.reduceSub, Nat.reduceMul, Nat.reduceLT, Nat.reduceLeDiff, ↓reduceIte, reduceCtorEq, Nat.reduceDiv, Nat.reducePow, Nat.reduceMod, gD]
  refine call_by (h1 _ _ h3) ?_
  simp (config := { maxSteps := 1000000 }) (disch := first | omega | (simp only [List.length_set, List.length_append, List.length_cons, List.length_nil, List.length_replicate]; omega)) only [go_sem, Nat.reduceEqDiff, Nat.reduceBEq, Nat.reduceAdd, Nat.reduceSub, Nat.reduceMul, Nat.reduceLT, Nat.reduceLeDiff, ↓reduceIte, reduceCtorEq, Nat.reduceDiv, Nat.reducePow, Nat.reduceMod]
  refine bran_dec (fun c => ?_) (fun c => ?_)
  · subst c
    simp (config := { maxSteps := 1000000 }) (disch := first | omega | (simp only [List.length_set, List.length_append, List.length_cons, List.length_nil, List.length_replicate]; omega)) only [go_sem, Nat.reduceEqDiff, Nat.reduceBEq, Nat.reduceAdd, Nat.reduceSub, Nat.reduceMul, Nat.reduceLT, Nat.reduceLeDiff, ↓reduceIte, reduceCtorEq, Nat.reduceDiv, Nat.reducePow, Nat.reduceMod]
    refine call_by (h2 _ _ h4) ?_
    simp (config := { maxSteps := 1000000 }) (disch := first | omega | (simp only [List.length_set, List.length_append, List.length_cons, List.length_nil, List.length_replicate]; omega)) only [go_sem, Nat.reduceEqDiff, Nat.reduceBEq, Nat.reduceAdd, Nat.reduceSub, Nat.reduceMul, Nat.reduceLT, Nat.reduceLeDiff, ↓reduceIte, reduceCtorEq, Nat.reduceDiv, Nat.reducePow, Nat.reduceMod]
    simp
  · simp (config := { maxSteps := 1000000 }) (disch := first | omega | (simp only [List.length_set, List.length_append, List.length_cons, List.length_nil, List.length_replicate]; omega)) only [go_sem, Nat.reduceEqDiff, Nat.reduceBEq, Nat.reduceAdd, Nat.reduceSub, Nat.reduceMul, Nat.reduceLT, Nat.reduceLeDiff, ↓reduceIte, reduceCtorEq, Nat.reduceDiv, Nat.reducePow, Nat.reduceMod, c]
    simp [c]
theorem w_graph_AddNode (hv : K_graph_Valid P F) (hw : K_graph_within P F) (h1 : K_slices_Clone_I P F) (h2 : K_slices_Clone_E P F) (g : G) (k : Int) : W P (c_graph_AddNode F) (Done [.c 4 true 2, .t 5, .t 6] [] (addD (addNG g k)) []) (init [gD g, .int .i64 k]) := by
  refine W_of ?_
  obtain ⟨gn, ge⟩ := g
  simp (config := { maxSteps := 1000000 }) (disch := first | omega | (simp only [List.length_set, List.length_append, List.length_cons, List.length_nil, List.length_replicate]; omega)) only [go_sem, Nat.reduceEqDiff, Nat.reduceBEq, Nat.reduceAdd, Nat.reduceSub, Nat.reduceMul, Nat.reduceLT, Nat.reduceLeDiff, ↓reduceIte, reduceCtorEq, Nat.reduceDiv, Nat.reducePow, Nat.reduceMod, gD]
  refine call_by (hv ⟨gn, ge⟩) ?_
  simp (config := { maxSteps := 1000000 }) (disch := first | omega | (simp only [List.length_set, List.length_append, List.length_cons, List.length_nil, List.length_replicate]; omega)) only [go_sem, Nat.reduceEqDiff, Nat.reduceBEq, Nat.reduceAdd, Nat.reduceSub, Nat.reduceMul, Nat.reduceLT, Nat.reduceLeDiff, ↓reduceIte, reduceCtorEq, Nat.reduceDiv, Nat.reducePow, Nat.reduceMod]
  refine bran_ndec (fun c1 => ?_) (fun c1 => ?_)
  · simp (config := { maxSteps := 1000000 }) (disch := first | omega | (simp only [List.length_set, List.length_append, List.length_cons, List.length_nil, List.length_replicate]; omega)) only [go_sem, Nat.reduceEqDiff, Nat.reduceBEq, Nat.reduceAdd, Nat.reduceSub, Nat.reduceMul, Nat.reduceLT, Nat.reduceLeDiff, ↓reduceIte, reduceCtorEq, Nat.reduceDiv, Nat.reducePow, Nat.reduceMod]
    simp [addNG, c1, addD, gA, ints, eds]
  · obtain ⟨v1, v2, v3, v4⟩ := valid_spec c1
    simp only at v1 v2 v3 v4
    simp (config := { maxSteps := 1000000 }) (disch := first | omega | (simp only [List.length_set, List.length_append, List.length_cons, List.length_nil, List.length_replicate]; omega)) only [go_sem, Nat.reduceEqDiff, Nat.reduceBEq, Nat.reduceAdd, Nat.reduceSub, Nat.reduceMul, Nat.reduceLT, Nat.reduceLeDiff, ↓reduceIte, reduceCtorEq, Nat.reduceDiv, Nat.reducePow, Nat.reduceMod]
    refine call_by (hw _ _) ?_
    simp (config := { maxSteps := 1000000 }) (disch := first | omega | (simp only [List.length_set, List.length_append, List.length_cons, List.length_nil, List.length_replicate]; omega)) only [go_sem, Nat.reduceEqDiff, Nat.reduceBEq, Nat.reduceAdd, Nat.reduceSub, Nat.reduceMul, Nat.reduceLT, Nat.reduceLeDiff, ↓reduceIte, reduceCtorEq, Nat.reduceDiv, Nat.reducePow, Nat.reduceMod]
    refine bran_ndec (fun c2 => ?_) (fun c2 => ?_)
    · simp (config := { maxSteps := 1000000 }) (disch := first | omega | (simp only [List.length_set, List.length_append, List.length_cons, List.length_nil, List.length_replicate]; omega)) only [go_sem, Nat.reduceEqDiff, Nat.reduceBEq, Nat.reduceAdd, Nat.reduceSub, Nat.reduceMul, Nat.reduceLT, Nat.reduceLeDiff, ↓reduceIte, reduceCtorEq, Nat.reduceDiv, Nat.reducePow, Nat.reduceMod]
      simp only [addNG, c1, ne_eq, not_true_eq_false, if_false, if_pos c2]
      simp [addD, gA, ints, eds]
    · simp (config := { maxSteps := 1000000 }) (disch := first | omega | (simp only [List.length_set, List.length_append, List.length_cons, List.length_nil, List.length_replicate]; omega)) only [go_sem, Nat.reduceEqDiff, Nat.reduceBEq, Nat.reduceAdd, Nat.reduceSub, Nat.reduceMul, Nat.reduceLT, Nat.reduceLeDiff, ↓reduceIte, reduceCtorEq, Nat.reduceDiv, Nat.reducePow, Nat.reduceMod]
      refine bran_dec (fun c3 => ?_) (fun c3 => ?_)
      · simp (config := { maxSteps := 1000000 }) (disch := first | omega | (simp only [List.length_set, List.length_append, List.length_cons, List.length_nil, List.length_replicate]; omega)) only [go_sem, Nat.reduceEqDiff, Nat.reduceBEq, Nat.reduceAdd, Nat.reduceSub, Nat.reduceMul, Nat.reduceLT, Nat.reduceLeDiff, ↓reduceIte, reduceCtorEq, Nat.reduceDiv, Nat.reducePow, Nat.reduceMod]
        have c3' : gn.length = 40 := by omega
        simp [addNG, c1, c2, c3', addD, gA, ints, eds]
      · simp (config := { maxSteps := 1000000 }) (disch := first | omega | (simp only [List.length_set, List.length_append, List.length_cons, List.length_nil, List.length_replicate]; omega)) only [go_sem, Nat.reduceEqDiff, Nat.reduceBEq, Nat.reduceAdd, Nat.reduceSub, Nat.reduceMul, Nat.reduceLT, Nat.reduceLeDiff, ↓reduceIte, reduceCtorEq, Nat.reduceDiv, Nat.reducePow, Nat.reduceMod]
        refine call_by (h1 _ (by omega)) ?_
        simp (config := { maxSteps := 1000000 }) (disch := first | omega | (simp only [List.length_set, List.length_append, List.length_cons, List.length_nil, List.length_replicate]; omega)) only [go_sem, Nat.reduceEqDiff, Nat.reduceBEq, Nat.reduceAdd, Nat.reduceSub, Nat.reduceMul, Nat.reduceLT, Nat.reduceLeDiff, ↓reduceIte, reduceCtorEq, Nat.reduceDiv, Nat.reducePow, Nat.reduceMod]
        refine call_by (h2 _ (by omega)) ?_
        simp (config := { maxSteps := 1000000 }) (disch := first | omega | (simp only [List.length_set, List.length_append, List.length_cons, List.length_nil, List.length_replicate]; omega)) only [go_sem, Nat.reduceEqDiff, Nat.reduceBEq, Nat.reduceAdd, Nat.reduceSub, Nat.reduceMul, Nat.reduceLT, Nat.reduceLeDiff, ↓reduceIte, reduceCtorEq, Nat.reduceDiv, Nat.reducePow, Nat.reduceMod]
        have c3' : ¬ gn.length = 40 := by omega
        simp [addNG, c1, c2, c3', addD, gA, ints, eds]
theorem w_graph_AddEdge (hv : K_graph_Valid P F) (hw : K_graph_fits P F) (h1 : K_slices_Clone_I P F) (h2 : K_slices_Clone_E P F) (g : G) (x : E) : W P (c_graph_AddEdge F) (Done [.c 4 true 2, .t 5, .t 6] [] (addD (addEG g x)) []) (init [gD g, edD x]) := by
  refine W_of ?_
  obtain ⟨gn, ge⟩ := g
  obtain ⟨xt, xf, xo⟩ := x
  simp (config := { maxSteps := 1000000 }) (disch := first | omega | (simp only [List.length_set, List.length_append, List.length_cons, List.length_nil, List.length_replicate]; omega)) only [go_sem, Nat.reduceEqDiff, Nat.reduceBEq, Nat.reduceAdd, Nat.reduceSub, Nat.reduceMul, Nat.reduceLT, Nat.reduceLeDiff, ↓reduceIte, reduceCtorEq, Nat.reduceDiv, Nat.reducePow, Nat.reduceMod, gD, edD]
  refine call_by (hv ⟨gn, ge⟩) ?_
  simp (config := { maxSteps := 1000000 }) (disch := first | omega | (simp only [List.length_set, List.length_append, List.length_cons, List.length_nil, List.length_replicate]; omega)) only [go_sem, Nat.reduceEqDiff, Nat.reduceBEq, Nat.reduceAdd, Nat.reduceSub, Nat.reduceMul, Nat.reduceLT, Nat.reduceLeDiff, ↓reduceIte, reduceCtorEq, Nat.reduceDiv, Nat.reducePow, Nat.reduceMod]
  refine bran_ndec (fun c1 => ?_) (fun c1 => ?_)
  · simp (config := { maxSteps := 1000000 }) (disch := first | omega | (simp only [List.length_set, List.length_append, List.length_cons, List.length_nil, List.length_replicate]; omega)) only [go_sem, Nat.reduceEqDiff, Nat.reduceBEq, Nat.reduceAdd, Nat.reduceSub, Nat.reduceMul, Nat.reduceLT, Nat.reduceLeDiff, ↓reduceIte, reduceCtorEq, Nat.reduceDiv, Nat.reducePow, Nat.reduceMod]
    simp [addEG, c1, addD, gA, ints, eds]
  · obtain ⟨v1, v2, v3, v4⟩ := valid_spec c1
    simp only at v1 v2 v3 v4
    simp (config := { maxSteps := 1000000 }) (disch := first | omega | (simp only [List.length_set, List.length_append, List.length_cons, List.length_nil, List.length_replicate]; omega)) only [go_sem, Nat.reduceEqDiff, Nat.reduceBEq, Nat.reduceAdd, Nat.reduceSub, Nat.reduceMul, Nat.reduceLT, Nat.reduceLeDiff, ↓reduceIte, reduceCtorEq, Nat.reduceDiv, Nat.reducePow, Nat.reduceMod]
    refine call_by (hw ⟨xt, xf, xo⟩ _ (by omega)) ?_
    simp (config := { maxSteps := 1000000 }) (disch := first | omega | (simp only [List.length_set, List.length_append, List.length_cons, List.length_nil, List.length_replicate]; omega)) only [go_sem, Nat.reduceEqDiff, Nat.reduceBEq, Nat.reduceAdd, Nat.reduceSub, Nat.reduceMul, Nat.reduceLT, Nat.reduceLeDiff, ↓reduceIte, reduceCtorEq, Nat.reduceDiv, Nat.reducePow, Nat.reduceMod]
    refine bran_nby (fun c2 => ?_) (fun c2 => ?_)
    · simp (config := { maxSteps := 1000000 }) (disch := first | omega | (simp only [List.length_set, List.length_append, List.length_cons, List.length_nil, List.length_replicate]; omega)) only [go_sem, Nat.reduceEqDiff, Nat.reduceBEq, Nat.reduceAdd, Nat.reduceSub, Nat.reduceMul, Nat.reduceLT, Nat.reduceLeDiff, ↓reduceIte, reduceCtorEq, Nat.reduceDiv, Nat.reducePow, Nat.reduceMod, c2]
      simp [addEG, c1, c2, addD, gA, ints, eds]
    · simp (config := { maxSteps := 1000000 }) (disch := first | omega | (simp only [List.length_set, List.length_append, List.length_cons, List.length_nil, List.length_replicate]; omega)) only [go_sem, Nat.reduceEqDiff, Nat.reduceBEq, Nat.reduceAdd, Nat.reduceSub, Nat.reduceMul, Nat.reduceLT, Nat.reduceLeDiff, ↓reduceIte, reduceCtorEq, Nat.reduceDiv, Nat.reducePow, Nat.reduceMod, c2]
      refine bran_dec (fun c3 => ?_) (fun c3 => ?_)
      · simp (config := { maxSteps := 1000000 }) (disch := first | omega | (simp only [List.length_set, List.length_append, List.length_cons, List.length_nil, List.length_replicate]; omega)) only [go_sem, Nat.reduceEqDiff, Nat.reduceBEq, Nat.reduceAdd, Nat.reduceSub, Nat.reduceMul, Nat.reduceLT, Nat.reduceLeDiff, ↓reduceIte, reduceCtorEq, Nat.reduceDiv, Nat.reducePow, Nat.reduceMod]
        have c3' : ge.length = 80 := by omega
        simp [addEG, c1, c2, c3', addD, gA, ints, eds]
      · simp (config := { maxSteps := 1000000 }) (disch := first | omega | (simp only [List.length_set, List.length_append, List.length_cons, List.length_nil, List.length_replicate]; omega)) only [go_sem, Nat.reduceEqDiff, Nat.reduceBEq, Nat.reduceAdd, Nat.reduceSub, Nat.reduceMul, Nat.reduceLT, Nat.reduceLeDiff, ↓reduceIte, reduceCtorEq, Nat.reduceDiv, Nat.reducePow, Nat.reduceMod]
        refine call_by (h1 _ (by omega)) ?_
        simp (config := { maxSteps := 1000000 }) (disch := first | omega | (simp only [List.length_set, List.length_append, List.length_cons, List.length_nil, List.length_replicate]; omega)) only [go_sem, Nat.reduceEqDiff, Nat.reduceBEq, Nat.reduceAdd, Nat.reduceSub, Nat.reduceMul, Nat.reduceLT, Nat.reduceLeDiff, ↓reduceIte, reduceCtorEq, Nat.reduceDiv, Nat.reducePow, Nat.reduceMod]
        refine call_by (h2 _ (by omega)) ?_
        simp (config := { maxSteps := 1000000 }) (disch := first | omega | (simp only [List.length_set, List.length_append, List.length_cons, List.length_nil, List.length_replicate]; omega)) only [go_sem, Nat.reduceEqDiff, Nat.reduceBEq, Nat.reduceAdd, Nat.reduceSub, Nat.reduceMul, Nat.reduceLT, Nat.reduceLeDiff, ↓reduceIte, reduceCtorEq, Nat.reduceDiv, Nat.reducePow, Nat.reduceMod]
        have c3' : ¬ ge.length = 80 := by omega
        simp [addEG, c1, c2, c3', addD, gA, ints, eds, edD]
theorem w_r05_AddNode (hv : K_r05_Valid P F) (hw : K_r05_kind P F) (h1 : K_r05_Copied P F) (g : G) (k : Int) : W P (c_r05_AddNode F) (Done [.c 4 true 2, .t 5, .t 6] [] (addD (addNG g k)) []) (init [gD g, .int .i64 k]) := by
  refine W_of ?_
  obtain ⟨gn, ge⟩ := g
  simp (config := { maxSteps := 1000000 }) (disch := first | omega | (simp only [List.length_set, List.length_append, List.length_cons, List.length_nil, List.length_replicate]; omega)) only [go_sem, Nat.reduceEqDiff, Nat.reduceBEq, Nat.reduceAdd, Nat.reduceSub, Nat.reduceMul, Nat.reduceLT, Nat.reduceLeDiff, ↓reduceIte, reduceCtorEq, Nat.reduceDiv, Nat.reducePow, Nat.reduceMod, gD]
  refine call_by (hv ⟨gn, ge⟩) ?_
  simp (config := { maxSteps := 1000000 }) (disch := first | omega | (simp only [List.length_set, List.length_append, List.length_cons, List.length_nil, List.length_replicate]; omega)) only [go_sem, Nat.reduceEqDiff, Nat.reduceBEq, Nat.reduceAdd, Nat.reduceSub, Nat.reduceMul, Nat.reduceLT, Nat.reduceLeDiff, ↓reduceIte, reduceCtorEq, Nat.reduceDiv, Nat.reducePow, Nat.reduceMod]
  refine bran_ndec (fun c1 => ?_) (fun c1 => ?_)
  · simp (config := { maxSteps := 1000000 }) (disch := first | omega | (simp only [List.length_set, List.length_append, List.length_cons, List.length_nil, List.length_replicate]; omega)) only [go_sem, Nat.reduceEqDiff, Nat.reduceBEq, Nat.reduceAdd, Nat.reduceSub, Nat.reduceMul, Nat.reduceLT, Nat.reduceLeDiff, ↓reduceIte, reduceCtorEq, Nat.reduceDiv, Nat.reducePow, Nat.reduceMod]
    simp [addNG, c1, addD, gA, ints, eds]
  · obtain ⟨v1, v2, v3, v4⟩ := valid_spec c1
    simp only at v1 v2 v3 v4
    simp (config := { maxSteps := 1000000 }) (disch := first | omega | (simp only [List.length_set, List.length_append, List.length_cons, List.length_nil, List.length_replicate]; omega)) only [go_sem, Nat.reduceEqDiff, Nat.reduceBEq, Nat.reduceAdd, Nat.reduceSub, Nat.reduceMul, Nat.reduceLT, Nat.reduceLeDiff, ↓reduceIte, reduceCtorEq, Nat.reduceDiv, Nat.reducePow, Nat.reduceMod]
    refine call_by (hw _) ?_
    simp (config := { maxSteps := 1000000 }) (disch := first | omega | (simp only [List.length_set, List.length_append, List.length_cons, List.length_nil, List.length_replicate]; omega)) only [go_sem, Nat.reduceEqDiff, Nat.reduceBEq, Nat.reduceAdd, Nat.reduceSub, Nat.reduceMul, Nat.reduceLT, Nat.reduceLeDiff, ↓reduceIte, reduceCtorEq, Nat.reduceDiv, Nat.reducePow, Nat.reduceMod, okN]
    refine bran_ndec (fun c2 => ?_) (fun c2 => ?_)
    · simp (config := { maxSteps := 1000000 }) (disch := first | omega | (simp only [List.length_set, List.length_append, List.length_cons, List.length_nil, List.length_replicate]; omega)) only [go_sem, Nat.reduceEqDiff, Nat.reduceBEq, Nat.reduceAdd, Nat.reduceSub, Nat.reduceMul, Nat.reduceLT, Nat.reduceLeDiff, ↓reduceIte, reduceCtorEq, Nat.reduceDiv, Nat.reducePow, Nat.reduceMod]
      simp only [addNG, c1, ne_eq, not_true_eq_false, if_false, if_pos c2]
      simp [addD, gA, ints, eds]
    · simp (config := { maxSteps := 1000000 }) (disch := first | omega | (simp only [List.length_set, List.length_append, List.length_cons, List.length_nil, List.length_replicate]; omega)) only [go_sem, Nat.reduceEqDiff, Nat.reduceBEq, Nat.reduceAdd, Nat.reduceSub, Nat.reduceMul, Nat.reduceLT, Nat.reduceLeDiff, ↓reduceIte, reduceCtorEq, Nat.reduceDiv, Nat.reducePow, Nat.reduceMod]
      refine bran_dec (fun c3 => ?_) (fun c3 => ?_)
      · simp (config := { maxSteps := 1000000 }) (disch := first | omega | (simp only [List.length_set, List.length_append, List.length_cons, List.length_nil, List.length_replicate]; omega)) only [go_sem, Nat.reduceEqDiff, Nat.reduceBEq, Nat.reduceAdd, Nat.reduceSub, Nat.reduceMul, Nat.reduceLT, Nat.reduceLeDiff, ↓reduceIte, reduceCtorEq, Nat.reduceDiv, Nat.reducePow, Nat.reduceMod]
        have c3' : gn.length = 40 := by omega
        simp [addNG, c1, c2, c3', addD, gA, ints, eds]
      · have r := h1 ⟨gn, ge⟩ (by simp only; omega) (by simp only; omega)
        simp only [gA, gD] at r
        simp (config := { maxSteps := 1000000 }) (disch := first | omega | (simp only [List.length_set, List.length_append, List.length_cons, List.length_nil, List.length_replicate]; omega)) only [go_sem, Nat.reduceEqDiff, Nat.reduceBEq, Nat.reduceAdd, Nat.reduceSub, Nat.reduceMul, Nat.reduceLT, Nat.reduceLeDiff, ↓reduceIte, reduceCtorEq, Nat.reduceDiv, Nat.reducePow, Nat.reduceMod]
        refine call_by r ?_
        simp (config := { maxSteps := 1000000 }) (disch := first | omega | (simp only [List.length_set, List.length_append, List.length_cons, List.length_nil, List.length_replicate]; omega)) only [go_sem, Nat.reduceEqDiff, Nat.reduceBEq, Nat.reduceAdd, Nat.reduceSub, Nat.reduceMul, Nat.reduceLT, Nat.reduceLeDiff, ↓reduceIte, reduceCtorEq, Nat.reduceDiv, Nat.reducePow, Nat.reduceMod]
        have c3' : ¬ gn.length = 40 := by omega
        simp [addNG, c1, c2, c3', addD, gA, ints, eds]
theorem w_r05_AddEdge (hv : K_r05_Valid P F) (hw : K_r05_right P F) (h1 : K_r05_Copied P F) (g : G) (x : E) : W P (c_r05_AddEdge F) (Done [.c 4 true 2, .t 5, .t 6] [] (addD (addEG g x)) []) (init [gD g, edD x]) := by
  refine W_of ?_
  obtain ⟨gn, ge⟩ := g
  obtain ⟨xt, xf, xo⟩ := x
  simp (config := { maxSteps := 1000000 }) (disch := first | omega | (simp only [List.length_set, List.length_append, List.length_cons, List.length_nil, List.length_replicate]; omega)) only [go_sem, Nat.reduceEqDiff, Nat.reduceBEq, Nat.reduceAdd, Nat.reduceSub, Nat.reduceMul, Nat.reduceLT, Nat.reduceLeDiff, ↓reduceIte, reduceCtorEq, Nat.reduceDiv, Nat.reducePow, Nat.reduceMod, gD, edD]
  refine call_by (hv ⟨gn, ge⟩) ?_
  simp (config := { maxSteps := 1000000 }) (disch := first | omega | (simp only [List.length_set, List.length_append, List.length_cons, List.length_nil, List.length_replicate]; omega)) only [go_sem, Nat.reduceEqDiff, Nat.reduceBEq, Nat.reduceAdd, Nat.reduceSub, Nat.reduceMul, Nat.reduceLT, Nat.reduceLeDiff, ↓reduceIte, reduceCtorEq, Nat.reduceDiv, Nat.reducePow, Nat.reduceMod]
  refine bran_ndec (fun c1 => ?_) (fun c1 => ?_)
  · simp (config := { maxSteps := 1000000 }) (disch := first | omega | (simp only [List.length_set, List.length_append, List.length_cons, List.length_nil, List.length_replicate]; omega)) only [go_sem, Nat.reduceEqDiff, Nat.reduceBEq, Nat.reduceAdd, Nat.reduceSub, Nat.reduceMul, Nat.reduceLT, Nat.reduceLeDiff, ↓reduceIte, reduceCtorEq, Nat.reduceDiv, Nat.reducePow, Nat.reduceMod]
    simp [addEG, c1, addD, gA, ints, eds]
  · obtain ⟨v1, v2, v3, v4⟩ := valid_spec c1
    simp only at v1 v2 v3 v4
    simp (config := { maxSteps := 1000000 }) (disch := first | omega | (simp only [List.length_set, List.length_append, List.length_cons, List.length_nil, List.length_replicate]; omega)) only [go_sem, Nat.reduceEqDiff, Nat.reduceBEq, Nat.reduceAdd, Nat.reduceSub, Nat.reduceMul, Nat.reduceLT, Nat.reduceLeDiff, ↓reduceIte, reduceCtorEq, Nat.reduceDiv, Nat.reducePow, Nat.reduceMod]
    refine call_by (hw ⟨xt, xf, xo⟩ _) ?_
    simp (config := { maxSteps := 1000000 }) (disch := first | omega | (simp only [List.length_set, List.length_append, List.length_cons, List.length_nil, List.length_replicate]; omega)) only [go_sem, Nat.reduceEqDiff, Nat.reduceBEq, Nat.reduceAdd, Nat.reduceSub, Nat.reduceMul, Nat.reduceLT, Nat.reduceLeDiff, ↓reduceIte, reduceCtorEq, Nat.reduceDiv, Nat.reducePow, Nat.reduceMod]
    refine bran_nby (fun c2 => ?_) (fun c2 => ?_)
    · simp (config := { maxSteps := 1000000 }) (disch := first | omega | (simp only [List.length_set, List.length_append, List.length_cons, List.length_nil, List.length_replicate]; omega)) only [go_sem, Nat.reduceEqDiff, Nat.reduceBEq, Nat.reduceAdd, Nat.reduceSub, Nat.reduceMul, Nat.reduceLT, Nat.reduceLeDiff, ↓reduceIte, reduceCtorEq, Nat.reduceDiv, Nat.reducePow, Nat.reduceMod, c2]
      simp [addEG, c1, c2, addD, gA, ints, eds]
    · simp (config := { maxSteps := 1000000 }) (disch := first | omega | (simp only [List.length_set, List.length_append, List.length_cons, List.length_nil, List.length_replicate]; omega)) only [go_sem, Nat.reduceEqDiff, Nat.reduceBEq, Nat.reduceAdd, Nat.reduceSub, Nat.reduceMul, Nat.reduceLT, Nat.reduceLeDiff, ↓reduceIte, reduceCtorEq, Nat.reduceDiv, Nat.reducePow, Nat.reduceMod, c2]
      refine bran_dec (fun c3 => ?_) (fun c3 => ?_)
      · simp (config := { maxSteps := 1000000 }) (disch := first | omega | (simp only [List.length_set, List.length_append, List.length_cons, List.length_nil, List.length_replicate]; omega)) only [go_sem, Nat.reduceEqDiff, Nat.reduceBEq, Nat.reduceAdd, Nat.reduceSub, Nat.reduceMul, Nat.reduceLT, Nat.reduceLeDiff, ↓reduceIte, reduceCtorEq, Nat.reduceDiv, Nat.reducePow, Nat.reduceMod]
        have c3' : ge.length = 80 := by omega
        simp [addEG, c1, c2, c3', addD, gA, ints, eds]
      · have r := h1 ⟨gn, ge⟩ (by simp only; omega) (by simp only; omega)
        simp only [gA, gD] at r
        simp (config := { maxSteps := 1000000 }) (disch := first | omega | (simp only [List.length_set, List.length_append, List.length_cons, List.length_nil, List.length_replicate]; omega)) only [go_sem, Nat.reduceEqDiff, Nat.reduceBEq, Nat.reduceAdd, Nat.reduceSub, Nat.reduceMul, Nat.reduceLT, Nat.reduceLeDiff, ↓reduceIte, reduceCtorEq, Nat.reduceDiv, Nat.reducePow, Nat.reduceMod]
        refine call_by r ?_
        simp (config := { maxSteps := 1000000 }) (disch := first | omega | (simp only [List.length_set, List.length_append, List.length_cons, List.length_nil, List.length_replicate]; omega)) only [go_sem, Nat.reduceEqDiff, Nat.reduceBEq, Nat.reduceAdd, Nat.reduceSub, Nat.reduceMul, Nat.reduceLT, Nat.reduceLeDiff, ↓reduceIte, reduceCtorEq, Nat.reduceDiv, Nat.reducePow, Nat.reduceMod]
        have c3' : ¬ ge.length = 80 := by omega
        simp [addEG, c1, c2, c3', addD, gA, ints, eds, edD]
theorem addNG_len (g : G) (k : Int) : (addNG g k).1.n.length ≤ 41 ∧ (addNG g k).1.e.length ≤ 80 := by
  unfold addNG
  split
  · simp
  · rename_i c1
    obtain ⟨v1, v2, v3, v4⟩ := valid_spec (g := g) (by simpa using c1)
    split
    · simp
    · split
      · simp
      · simp only [List.length_append, List.length_cons, List.length_nil]; omega
theorem addEG_len (g : G) (x : E) : (addEG g x).1.n.length ≤ 40 ∧ (addEG g x).1.e.length ≤ 81 := by
  unfold addEG
  split
  · simp
  · rename_i c1
    obtain ⟨v1, v2, v3, v4⟩ := valid_spec (g := g) (by simpa using c1)
    split
    · simp
    · split
      · simp
      · simp only [List.length_append, List.length_cons, List.length_nil]; omega
theorem addNG_ne {g a : G} {k i : Int} (h : addNG g k = (a, i, 0)) : g ≠ a := by
  unfold addNG at h
  split at h
  · rename_i c; simp only [Prod.mk.injEq] at h; exact absurd h.2.2 c
  · split at h
    · simp at h
    · split at h
      · simp at h
      · simp only [Prod.mk.injEq] at h
        obtain ⟨rfl, _⟩ := h
        intro e
        have := congrArg (fun g => g.n.length) e
        simp at this
theorem addEG_ne {g a : G} {x : E} {i : Int} (h : addEG g x = (a, i, 0)) : a ≠ g := by
  unfold addEG at h
  split at h
  · rename_i c; simp only [Prod.mk.injEq] at h; exact absurd h.2.2 c
  · split at h
    · simp at h
    · split at h
      · simp at h
      · simp only [Prod.mk.injEq] at h
        obtain ⟨rfl, _⟩ := h
        intro e
        have := congrArg (fun g => g.e.length) e
        simp at this
theorem w_l05_GraphAdd (hw : K_l05_awake P F) (hf : K_r05_Few P F) (hcp : K_r05_Copied P F) (h1 : K_graph_AddNode P F) (h2 : K_r05_AddNode P F) (h3 : K_graph_Valid P F) (h4 : K_r05_Valid P F) (hs : K_r05_Same P F) (hgs : K_graph_Same P F) (g : G) (k : Int) :
    W P (c_l05_GraphAdd F) (Done [.t 4] [] (.bool true) []) (init [gD g, .int .i64 k]) := by
  refine W_of ?_
  obtain ⟨gn, ge⟩ := g
  simp (config := { maxSteps := 1000000 }) (disch := first | omega | (simp only [List.length_set, List.length_append, List.length_cons, List.length_nil, List.length_replicate]; omega)) only [go_sem, Nat.reduceEqDiff, Nat.reduceBEq, Nat.reduceAdd, Nat.reduceSub, Nat.reduceMul, Nat.reduceLT, Nat.reduceLeDiff, ↓reduceIte, reduceCtorEq, Nat.reduceDiv, Nat.reducePow, Nat.reduceMod, gD]
  refine call_by hw ?_
  simp (config := { maxSteps := 1000000 }) (disch := first | omega | (simp only [List.length_set, List.length_append, List.length_cons, List.length_nil, List.length_replicate]; omega)) only [go_sem, Nat.reduceEqDiff, Nat.reduceBEq, Nat.reduceAdd, Nat.reduceSub, Nat.reduceMul, Nat.reduceLT, Nat.reduceLeDiff, ↓reduceIte, reduceCtorEq, Nat.reduceDiv, Nat.reducePow, Nat.reduceMod]
  refine call_by (hf ⟨gn, ge⟩) ?_
  simp (config := { maxSteps := 1000000 }) (disch := first | omega | (simp only [List.length_set, List.length_append, List.length_cons, List.length_nil, List.length_replicate]; omega)) only [go_sem, Nat.reduceEqDiff, Nat.reduceBEq, Nat.reduceAdd, Nat.reduceSub, Nat.reduceMul, Nat.reduceLT, Nat.reduceLeDiff, ↓reduceIte, reduceCtorEq, Nat.reduceDiv, Nat.reducePow, Nat.reduceMod]
  refine bran_nby (fun c1 => ?_) (fun c1 => ?_)
  · simp (config := { maxSteps := 1000000 }) (disch := first | omega | (simp only [List.length_set, List.length_append, List.length_cons, List.length_nil, List.length_replicate]; omega)) only [go_sem, Nat.reduceEqDiff, Nat.reduceBEq, Nat.reduceAdd, Nat.reduceSub, Nat.reduceMul, Nat.reduceLT, Nat.reduceLeDiff, ↓reduceIte, reduceCtorEq, Nat.reduceDiv, Nat.reducePow, Nat.reduceMod, c1]
    refine call_by hw ?_
    simp (config := { maxSteps := 1000000 }) (disch := first | omega | (simp only [List.length_set, List.length_append, List.length_cons, List.length_nil, List.length_replicate]; omega)) only [go_sem, Nat.reduceEqDiff, Nat.reduceBEq, Nat.reduceAdd, Nat.reduceSub, Nat.reduceMul, Nat.reduceLT, Nat.reduceLeDiff, ↓reduceIte, reduceCtorEq, Nat.reduceDiv, Nat.reducePow, Nat.reduceMod]
  · obtain ⟨f1, f2⟩ : gn.length ≤ 45 ∧ ge.length ≤ 90 := by simpa [few] using c1
    have r1 := h1 ⟨gn, ge⟩ k
    have r2 := h2 ⟨gn, ge⟩ k
    have r3 := hcp ⟨gn, ge⟩ (by simp only; omega) (by simp only; omega)
    have hlen := addNG_len ⟨gn, ge⟩ k
    have hne := @addNG_ne ⟨gn, ge⟩
    generalize hrm : addNG ⟨gn, ge⟩ k = r at r1 r2 hlen
    obtain ⟨⟨an, ae⟩, i, e⟩ := r
    simp only [addD, gA, gD] at r1 r2 r3 hlen
    have q1 := hs ⟨an, ae⟩ ⟨an, ae⟩ (by unfold maxL; simp only; omega) (by unfold maxL; simp only; omega)
    have q2 := hgs ⟨gn, ge⟩ ⟨gn, ge⟩ (by unfold maxL; simp only; omega) (by unfold maxL; simp only; omega)
    have q3 := hgs ⟨gn, ge⟩ ⟨an, ae⟩ (by unfold maxL; simp only; omega) (by unfold maxL; simp only; omega)
    have q4 := h3 ⟨gn, ge⟩
    have q5 := h4 ⟨gn, ge⟩
    simp only [gD] at q1 q2 q3 q4 q5
    simp (config := { maxSteps := 1000000 }) (disch := first | omega | (simp only [List.length_set, List.length_append, List.length_cons, List.length_nil, List.length_replicate]; omega)) only [go_sem, Nat.reduceEqDiff, Nat.reduceBEq, Nat.reduceAdd, Nat.reduceSub, Nat.reduceMul, Nat.reduceLT, Nat.reduceLeDiff, ↓reduceIte, reduceCtorEq, Nat.reduceDiv, Nat.reducePow, Nat.reduceMod, c1]
    refine call_by r3 ?_
    simp (config := { maxSteps := 1000000 }) (disch := first | omega | (simp only [List.length_set, List.length_append, List.length_cons, List.length_nil, List.length_replicate]; omega)) only [go_sem, Nat.reduceEqDiff, Nat.reduceBEq, Nat.reduceAdd, Nat.reduceSub, Nat.reduceMul, Nat.reduceLT, Nat.reduceLeDiff, ↓reduceIte, reduceCtorEq, Nat.reduceDiv, Nat.reducePow, Nat.reduceMod]
    refine call_by r1 ?_
    simp (config := { maxSteps := 1000000 }) (disch := first | omega | (simp only [List.length_set, List.length_append, List.length_cons, List.length_nil, List.length_replicate]; omega)) only [go_sem, Nat.reduceEqDiff, Nat.reduceBEq, Nat.reduceAdd, Nat.reduceSub, Nat.reduceMul, Nat.reduceLT, Nat.reduceLeDiff, ↓reduceIte, reduceCtorEq, Nat.reduceDiv, Nat.reducePow, Nat.reduceMod]
    refine call_by r2 ?_
    simp (config := { maxSteps := 1000000 }) (disch := first | omega | (simp only [List.length_set, List.length_append, List.length_cons, List.length_nil, List.length_replicate]; omega)) only [go_sem, Nat.reduceEqDiff, Nat.reduceBEq, Nat.reduceAdd, Nat.reduceSub, Nat.reduceMul, Nat.reduceLT, Nat.reduceLeDiff, ↓reduceIte, reduceCtorEq, Nat.reduceDiv, Nat.reducePow, Nat.reduceMod]
    refine call_by r3 ?_
    simp (config := { maxSteps := 1000000 }) (disch := first | omega | (simp only [List.length_set, List.length_append, List.length_cons, List.length_nil, List.length_replicate]; omega)) only [go_sem, Nat.reduceEqDiff, Nat.reduceBEq, Nat.reduceAdd, Nat.reduceSub, Nat.reduceMul, Nat.reduceLT, Nat.reduceLeDiff, ↓reduceIte, reduceCtorEq, Nat.reduceDiv, Nat.reducePow, Nat.reduceMod]
    refine call_by q4 ?_
    simp (config := { maxSteps := 1000000 }) (disch := first | omega | (simp only [List.length_set, List.length_append, List.length_cons, List.length_nil, List.length_replicate]; omega)) only [go_sem, Nat.reduceEqDiff, Nat.reduceBEq, Nat.reduceAdd, Nat.reduceSub, Nat.reduceMul, Nat.reduceLT, Nat.reduceLeDiff, ↓reduceIte, reduceCtorEq, Nat.reduceDiv, Nat.reducePow, Nat.reduceMod]
    refine call_by q5 ?_
    simp (config := { maxSteps := 1000000 }) (disch := first | omega | (simp only [List.length_set, List.length_append, List.length_cons, List.length_nil, List.length_replicate]; omega)) only [go_sem, Nat.reduceEqDiff, Nat.reduceBEq, Nat.reduceAdd, Nat.reduceSub, Nat.reduceMul, Nat.reduceLT, Nat.reduceLeDiff, ↓reduceIte, reduceCtorEq, Nat.reduceDiv, Nat.reducePow, Nat.reduceMod]
    refine call_by q1 ?_
    simp (config := { maxSteps := 1000000 }) (disch := first | omega | (simp only [List.length_set, List.length_append, List.length_cons, List.length_nil, List.length_replicate]; omega)) only [go_sem, Nat.reduceEqDiff, Nat.reduceBEq, Nat.reduceAdd, Nat.reduceSub, Nat.reduceMul, Nat.reduceLT, Nat.reduceLeDiff, ↓reduceIte, reduceCtorEq, Nat.reduceDiv, Nat.reducePow, Nat.reduceMod]
    refine call_by r3 ?_
    simp (config := { maxSteps := 1000000 }) (disch := first | omega | (simp only [List.length_set, List.length_append, List.length_cons, List.length_nil, List.length_replicate]; omega)) only [go_sem, Nat.reduceEqDiff, Nat.reduceBEq, Nat.reduceAdd, Nat.reduceSub, Nat.reduceMul, Nat.reduceLT, Nat.reduceLeDiff, ↓reduceIte, reduceCtorEq, Nat.reduceDiv, Nat.reducePow, Nat.reduceMod]
    refine call_by q2 ?_
    simp (config := { maxSteps := 1000000 }) (disch := first | omega | (simp only [List.length_set, List.length_append, List.length_cons, List.length_nil, List.length_replicate]; omega)) only [go_sem, Nat.reduceEqDiff, Nat.reduceBEq, Nat.reduceAdd, Nat.reduceSub, Nat.reduceMul, Nat.reduceLT, Nat.reduceLeDiff, ↓reduceIte, reduceCtorEq, Nat.reduceDiv, Nat.reducePow, Nat.reduceMod]
    refine bran_nby (fun c2 => ?_) (fun c2 => ?_)
    · simp (config := { maxSteps := 1000000 }) (disch := first | omega | (simp only [List.length_set, List.length_append, List.length_cons, List.length_nil, List.length_replicate]; omega)) only [go_sem, Nat.reduceEqDiff, Nat.reduceBEq, Nat.reduceAdd, Nat.reduceSub, Nat.reduceMul, Nat.reduceLT, Nat.reduceLeDiff, ↓reduceIte, reduceCtorEq, Nat.reduceDiv, Nat.reducePow, Nat.reduceMod, c2]
    · obtain rfl : e = 0 := by simpa using c2
      have := hne hrm
      simp (config := { maxSteps := 1000000 }) (disch := first | omega | (simp only [List.length_set, List.length_append, List.length_cons, List.length_nil, List.length_replicate]; omega)) only [go_sem, Nat.reduceEqDiff, Nat.reduceBEq, Nat.reduceAdd, Nat.reduceSub, Nat.reduceMul, Nat.reduceLT, Nat.reduceLeDiff, ↓reduceIte, reduceCtorEq, Nat.reduceDiv, Nat.reducePow, Nat.reduceMod, c2]
      refine call_by q3 ?_
      simp (config := { maxSteps := 1000000 }) (disch := first | omega | (simp only [List.length_set, List.length_append, List.length_cons, List.length_nil, List.length_replicate]; omega)) only [go_sem, Nat.reduceEqDiff, Nat.reduceBEq, Nat.reduceAdd, Nat.reduceSub, Nat.reduceMul, Nat.reduceLT, Nat.reduceLeDiff, ↓reduceIte, reduceCtorEq, Nat.reduceDiv, Nat.reducePow, Nat.reduceMod]
      simp [this]
theorem w_l05_GraphEdge (hw : K_l05_awake P F) (hf : K_r05_Few P F) (hcp : K_r05_Copied P F) (h1 : K_graph_AddEdge P F) (h2 : K_r05_AddEdge P F) (hs : K_r05_Same P F) (hgs : K_graph_Same P F) (g : G) (x : E) :
    W P (c_l05_GraphEdge F) (Done [.t 4] [] (.bool true) []) (init [gD g, edD x]) := by
  refine W_of ?_
  obtain ⟨gn, ge⟩ := g
  simp (config := { maxSteps := 1000000 }) (disch := first | omega | (simp only [List.length_set, List.length_append, List.length_cons, List.length_nil, List.length_replicate]; omega)) only [go_sem, Nat.reduceEqDiff, Nat.reduceBEq, Nat.reduceAdd, Nat.reduceSub, Nat.reduceMul, Nat.reduceLT, Nat.reduceLeDiff, ↓reduceIte, reduceCtorEq, Nat.reduceDiv, Nat.reducePow, Nat.reduceMod, gD, edD]
  refine call_by hw ?_
  simp (config := { maxSteps := 1000000 }) (disch := first | omega | (simp only [List.length_set, List.length_append, List.length_cons, List.length_nil, List.length_replicate]; omega)) only [go_sem, Nat.reduceEqDiff, Nat.reduceBEq, Nat.reduceAdd, Nat.reduceSub, Nat.reduceMul, Nat.reduceLT, Nat.reduceLeDiff, ↓reduceIte, reduceCtorEq, Nat.reduceDiv, Nat.reducePow, Nat.reduceMod]
  refine call_by (hf ⟨gn, ge⟩) ?_
  simp (config := { maxSteps := 1000000 }) (disch := first | omega | (simp only [List.length_set, List.length_append, List.length_cons, List.length_nil, List.length_replicate]; omega)) only [go_sem, Nat.reduceEqDiff, Nat.reduceBEq, Nat.reduceAdd, Nat.reduceSub, Nat.reduceMul, Nat.reduceLT, Nat.reduceLeDiff, ↓reduceIte, reduceCtorEq, Nat.reduceDiv, Nat.reducePow, Nat.reduceMod]
  refine bran_nby (fun c1 => ?_) (fun c1 => ?_)
  · simp (config := { maxSteps := 1000000 }) (disch := first | omega | (simp only [List.length_set, List.length_append, List.length_cons, List.length_nil, List.length_replicate]; omega)) only [go_sem, Nat.reduceEqDiff, Nat.reduceBEq, Nat.reduceAdd, Nat.reduceSub, Nat.reduceMul, Nat.reduceLT, Nat.reduceLeDiff, ↓reduceIte, reduceCtorEq, Nat.reduceDiv, Nat.reducePow, Nat.reduceMod, c1]
    refine call_by hw ?_
    simp (config := { maxSteps := 1000000 }) (disch := first | omega | (simp only [List.length_set, List.length_append, List.length_cons, List.length_nil, List.length_replicate]; omega)) only [go_sem, Nat.reduceEqDiff, Nat.reduceBEq, Nat.reduceAdd, Nat.reduceSub, Nat.reduceMul, Nat.reduceLT, Nat.reduceLeDiff, ↓reduceIte, reduceCtorEq, Nat.reduceDiv, Nat.reducePow, Nat.reduceMod]
  · obtain ⟨f1, f2⟩ : gn.length ≤ 45 ∧ ge.length ≤ 90 := by simpa [few] using c1
    have r1 := h1 ⟨gn, ge⟩ x
    have r2 := h2 ⟨gn, ge⟩ x
    have r3 := hcp ⟨gn, ge⟩ (by simp only; omega) (by simp only; omega)
    have hlen := addEG_len ⟨gn, ge⟩ x
    have hne := @addEG_ne ⟨gn, ge⟩
    generalize hrm : addEG ⟨gn, ge⟩ x = r at r1 r2 hlen
    obtain ⟨⟨an, ae⟩, i, e⟩ := r
    simp only [addD, gA, gD, edD] at r1 r2 r3 hlen
    have q1 := hs ⟨an, ae⟩ ⟨an, ae⟩ (by unfold maxL; simp only; omega) (by unfold maxL; simp only; omega)
    have q2 := hgs ⟨an, ae⟩ ⟨gn, ge⟩ (by unfold maxL; simp only; omega) (by unfold maxL; simp only; omega)
    have q3 := hgs ⟨an, ae⟩ ⟨an, ae⟩ (by unfold maxL; simp only; omega) (by unfold maxL; simp only; omega)
    simp only [gD] at q1 q2 q3
    simp (config := { maxSteps := 1000000 }) (disch := first | omega | (simp only [List.length_set, List.length_append, List.length_cons, List.length_nil, List.length_replicate]; omega)) only [go_sem, Nat.reduceEqDiff, Nat.reduceBEq, Nat.reduceAdd, Nat.reduceSub, Nat.reduceMul, Nat.reduceLT, Nat.reduceLeDiff, ↓reduceIte, reduceCtorEq, Nat.reduceDiv, Nat.reducePow, Nat.reduceMod, c1]
    refine call_by r3 ?_
    simp (config := { maxSteps := 1000000 }) (disch := first | omega | (simp only [List.length_set, List.length_append, List.length_cons, List.length_nil, List.length_replicate]; omega)) only [go_sem, Nat.reduceEqDiff, Nat.reduceBEq, Nat.reduceAdd, Nat.reduceSub, Nat.reduceMul, Nat.reduceLT, Nat.reduceLeDiff, ↓reduceIte, reduceCtorEq, Nat.reduceDiv, Nat.reducePow, Nat.reduceMod]
    refine call_by r1 ?_
    simp (config := { maxSteps := 1000000 }) (disch := first | omega | (simp only [List.length_set, List.length_append, List.length_cons, List.length_nil, List.length_replicate]; omega)) only [go_sem, Nat.reduceEqDiff, Nat.reduceBEq, Nat.reduceAdd, Nat.reduceSub, Nat.reduceMul, Nat.reduceLT, Nat.reduceLeDiff, ↓reduceIte, reduceCtorEq, Nat.reduceDiv, Nat.reducePow, Nat.reduceMod]
    refine call_by r2 ?_
    simp (config := { maxSteps := 1000000 }) (disch := first | omega | (simp only [List.length_set, List.length_append, List.length_cons, List.length_nil, List.length_replicate]; omega)) only [go_sem, Nat.reduceEqDiff, Nat.reduceBEq, Nat.reduceAdd, Nat.reduceSub, Nat.reduceMul, Nat.reduceLT, Nat.reduceLeDiff, ↓reduceIte, reduceCtorEq, Nat.reduceDiv, Nat.reducePow, Nat.reduceMod]
    refine call_by q1 ?_
    simp (config := { maxSteps := 1000000 }) (disch := first | omega | (simp only [List.length_set, List.length_append, List.length_cons, List.length_nil, List.length_replicate]; omega)) only [go_sem, Nat.reduceEqDiff, Nat.reduceBEq, Nat.reduceAdd, Nat.reduceSub, Nat.reduceMul, Nat.reduceLT, Nat.reduceLeDiff, ↓reduceIte, reduceCtorEq, Nat.reduceDiv, Nat.reducePow, Nat.reduceMod]
    refine bran_nby (fun c2 => ?_) (fun c2 => ?_)
    · simp (config := { maxSteps := 1000000 }) (disch := first | omega | (simp only [List.length_set, List.length_append, List.length_cons, List.length_nil, List.length_replicate]; omega)) only [go_sem, Nat.reduceEqDiff, Nat.reduceBEq, Nat.reduceAdd, Nat.reduceSub, Nat.reduceMul, Nat.reduceLT, Nat.reduceLeDiff, ↓reduceIte, reduceCtorEq, Nat.reduceDiv, Nat.reducePow, Nat.reduceMod, c2]
    · obtain rfl : e = 0 := by simpa using c2
      have := hne hrm
      simp (config := { maxSteps := 1000000 }) (disch := first | omega | (simp only [List.length_set, List.length_append, List.length_cons, List.length_nil, List.length_replicate]; omega)) only [go_sem, Nat.reduceEqDiff, Nat.reduceBEq, Nat.reduceAdd, Nat.reduceSub, Nat.reduceMul, Nat.reduceLT, Nat.reduceLeDiff, ↓reduceIte, reduceCtorEq, Nat.reduceDiv, Nat.reducePow, Nat.reduceMod, c2]
      refine call_by q2 ?_
      simp (config := { maxSteps := 1000000 }) (disch := first | omega | (simp only [List.length_set, List.length_append, List.length_cons, List.length_nil, List.length_replicate]; omega)) only [go_sem, Nat.reduceEqDiff, Nat.reduceBEq, Nat.reduceAdd, Nat.reduceSub, Nat.reduceMul, Nat.reduceLT, Nat.reduceLeDiff, ↓reduceIte, reduceCtorEq, Nat.reduceDiv, Nat.reducePow, Nat.reduceMod, decide_eq_false this]
      refine call_by q3 ?_
      simp (config := { maxSteps := 1000000 }) (disch := first | omega | (simp only [List.length_set, List.length_append, List.length_cons, List.length_nil, List.length_replicate]; omega)) only [go_sem, Nat.reduceEqDiff, Nat.reduceBEq, Nat.reduceAdd, Nat.reduceSub, Nat.reduceMul, Nat.reduceLT, Nat.reduceLeDiff, ↓reduceIte, reduceCtorEq, Nat.reduceDiv, Nat.reducePow, Nat.reduceMod]
theorem x_l05_GraphAdd (h : K_l05_GraphAdd P F) (args : List D) (ha : HasEls [shG, shI] args) : FC P (F "l05.GraphAdd") args (.bool true) [] := by
  simp only [HasEls] at ha
  obtain ⟨_, _, rfl, h1, _, _, rfl, h2, rfl⟩ := ha
  obtain ⟨g, rfl⟩ := rd_graph h1
  obtain ⟨k, rfl, _⟩ := rd_int h2
  exact h g k
theorem x_l05_GraphEdge (h : K_l05_GraphEdge P F) (args : List D) (ha : HasEls [shG, shE] args) : FC P (F "l05.GraphEdge") args (.bool true) [] := by
  simp only [HasEls] at ha
  obtain ⟨_, _, rfl, h1, _, _, rfl, h2, rfl⟩ := ha
  obtain ⟨g, rfl⟩ := rd_graph h1
  obtain ⟨x, rfl⟩ := rd_edge h2
  exact h g x
end
end Go.Am
