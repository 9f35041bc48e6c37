/- All morphisms: the search of the program. -/
import Derived.Test.YtpdjpdfkacpnnaaSkV
import Derived.Test.YtpdjpdfkacpnnaaSkC
namespace Go.Am
open Go
set_option linter.unusedVariables false
set_option linter.unusedSimpArgs false
/- morphism.search.options -/
def c_morphism_search_options_r0 (F : String → Nat) : List LI := [⟨some 4, .mov (.k (.nl 1)), none⟩]
def c_morphism_search_options_r1 (F : String → Nat) : List LI := [⟨some 9, .mov (.t 0), none⟩,
  ⟨some 10, .fad 0 (.t 9), none⟩,
  ⟨some 11, .fad 0 (.t 10), none⟩,
  ⟨some 12, .fad 1 (.t 11), none⟩,
  ⟨some 13, .load false 1 (.t 12), none⟩,
  ⟨some 14, .mov (.t 1), none⟩,
  ⟨some 15, .iad 3 (.t 13) (.t 14), none⟩,
  ⟨some 16, .load true 3 (.t 15), none⟩,
  ⟨some 5, .alloc [.int .i64 (0), .int .i64 (0), .int .i64 (0)], none⟩,
  ⟨none, .store 3 (.t 5) (.t 16), none⟩]
def c_morphism_search_options_r2 (F : String → Nat) : List LI := [⟨some 6, .mov (.k (.nl 1)), none⟩]
def c_morphism_search_options_r3 (F : String → Nat) : List LI := [⟨some 17, .mov (.t 0), none⟩,
  ⟨some 18, .fad 0 (.t 17), none⟩,
  ⟨some 19, .fad 2 (.t 18), none⟩,
  ⟨some 20, .fad 1 (.t 19), none⟩,
  ⟨some 21, .load false 1 (.t 20), none⟩,
  ⟨some 22, .len (.t 21), none⟩,
  ⟨some 23, .mov (.k (.int .i64 (0))), none⟩]
def c_morphism_search_options_r4 (F : String → Nat) : List LI := [⟨some 24, .bin .lss (.t 23) (.t 22), none⟩]
def c_morphism_search_options_r5 (F : String → Nat) : List LI := [⟨some 25, .mov (.t 23), none⟩,
  ⟨some 26, .iad 3 (.t 21) (.t 23), none⟩,
  ⟨some 27, .load true 3 (.t 26), none⟩,
  ⟨some 8, .alloc [.int .i64 (0), .int .i64 (0), .int .i64 (0)], none⟩,
  ⟨some 7, .mov (.t 25), none⟩,
  ⟨none, .store 3 (.t 8) (.t 27), none⟩]
def c_morphism_search_options_r6 (F : String → Nat) : List LI := [⟨some 28, .fad 0 (.t 8), none⟩,
  ⟨some 29, .load false 1 (.t 28), none⟩,
  ⟨some 30, .fad 0 (.t 5), none⟩,
  ⟨some 31, .load false 1 (.t 30), none⟩,
  ⟨some 32, .bin .eql (.t 29) (.t 31), none⟩,
  ⟨some 33, .mov (.t 32), none⟩,
  ⟨some 34, .fad 1 (.t 8), some (33, true)⟩,
  ⟨some 35, .load false 1 (.t 34), some (33, true)⟩,
  ⟨some 36, .mov (.t 0), some (33, true)⟩,
  ⟨some 37, .fad 0 (.t 36), some (33, true)⟩,
  ⟨some 38, .fad 4 (.t 37), some (33, true)⟩,
  ⟨some 39, .load false 1 (.t 38), some (33, true)⟩,
  ⟨some 40, .fad 1 (.t 5), some (33, true)⟩,
  ⟨some 41, .load false 1 (.t 40), some (33, true)⟩,
  ⟨some 42, .iad 1 (.t 39) (.t 41), some (33, true)⟩,
  ⟨some 43, .load false 1 (.t 42), some (33, true)⟩,
  ⟨some 44, .bin .eql (.t 35) (.t 43), some (33, true)⟩,
  ⟨some 45, .pick (.t 33) (.t 44) (.k (.bool false)), none⟩,
  ⟨some 46, .mov (.t 45), none⟩,
  ⟨some 47, .fad 2 (.t 8), some (46, true)⟩,
  ⟨some 48, .load false 1 (.t 47), some (46, true)⟩,
  ⟨some 49, .mov (.t 0), some (46, true)⟩,
  ⟨some 50, .fad 0 (.t 49), some (46, true)⟩,
  ⟨some 51, .fad 4 (.t 50), some (46, true)⟩,
  ⟨some 52, .load false 1 (.t 51), some (46, true)⟩,
  ⟨some 53, .fad 2 (.t 5), some (46, true)⟩,
  ⟨some 54, .load false 1 (.t 53), some (46, true)⟩,
  ⟨some 55, .iad 1 (.t 52) (.t 54), some (46, true)⟩,
  ⟨some 56, .load false 1 (.t 55), some (46, true)⟩,
  ⟨some 57, .bin .eql (.t 48) (.t 56), some (46, true)⟩,
  ⟨some 58, .pick (.t 46) (.t 57) (.k (.bool false)), none⟩]
def c_morphism_search_options_r7 (F : String → Nat) : List LI := [⟨some 59, .mov (.t 6), none⟩,
  ⟨some 60, .mov (.t 7), none⟩,
  ⟨some 61, .buildSl 1 8 (.int .i64 (0)) 1 [(0, .t 60)], none⟩,
  ⟨some 62, .app 1 8 (.t 59) (.t 61), none⟩,
  ⟨some 6, .mov (.t 62), none⟩]
def c_morphism_search_options_r8 (F : String → Nat) : List LI := [⟨some 63, .bin .add (.t 23) (.k (.int .i64 (1))), none⟩,
  ⟨some 23, .mov (.t 63), none⟩]
def c_morphism_search_options_b9 (F : String → Nat) : LC := (.seq (.reg (c_morphism_search_options_r4 F) [0, 5, 6, 21, 22, 23, 24]) (.seq (.cond (.t 24) .skip (.exit 0)) (.seq (.block 1 (.seq (.reg (c_morphism_search_options_r5 F) [0, 5, 6, 7, 8, 21, 22, 23]) (.seq (.dreg [] (c_morphism_search_options_r6 F) [0, 5, 6, 7, 21, 22, 23, 58]) (.cond (.t 58) (.reg (c_morphism_search_options_r7 F) [0, 5, 6, 21, 22, 23]) .skip)))) (.reg (c_morphism_search_options_r8 F) [0, 5, 6, 21, 22, 23]))))
def c_morphism_search_options_r10 (F : String → Nat) : List LI := [⟨some 64, .mov (.t 6), none⟩,
  ⟨some 4, .mov (.t 64), none⟩]
def c_morphism_search_options (F : String → Nat) : LC := (.seq (.reg (c_morphism_search_options_r0 F) [0, 1]) (.seq (.reg (c_morphism_search_options_r1 F) [0, 5]) (.seq (.reg (c_morphism_search_options_r2 F) [0, 5, 6]) (.seq (.seq (.reg (c_morphism_search_options_r3 F) [0, 5, 6, 21, 22, 23]) (.block 0 (.loop [0, 5, 6, 21, 22, 23] (c_morphism_search_options_b9 F)))) (.seq (.reg (c_morphism_search_options_r10 F) [4]) .ret)))))
def h_morphism_search_options : Hints := ⟨[], fun _ => [], tab [(0, [0, 1]), (1, [0, 5]), (2, [0, 5, 6]), (3, [0, 5, 6, 21, 22, 23]), (4, [0, 5, 6, 21, 22, 23, 24]), (5, [0, 5, 6, 7, 8, 21, 22, 23]), (6, [0, 5, 6, 7, 21, 22, 23, 58]), (7, [0, 5, 6, 21, 22, 23]), (8, [0, 5, 6, 21, 22, 23]), (9, [4])], tab [(4, [0, 5, 6, 21, 22, 23])]⟩

/- morphism.search.addEdges -/
def c_morphism_search_addEdges_r0 (F : String → Nat) : List LI := [⟨some 5, .mov (.t 0), none⟩,
  ⟨some 6, .fad 0 (.t 5), none⟩,
  ⟨some 7, .fad 6 (.t 6), none⟩,
  ⟨some 8, .load false 1 (.t 7), none⟩,
  ⟨some 9, .len (.t 8), none⟩,
  ⟨some 10, .bin .gtr (.t 9) (.k (.int .i64 (2000))), none⟩]
def c_morphism_search_addEdges_r1 (F : String → Nat) : List LI := [⟨some 11, .mov (.t 0), none⟩,
  ⟨some 12, .fad 0 (.t 11), none⟩,
  ⟨some 13, .fad 5 (.t 12), none⟩,
  ⟨some 14, .load false 1 (.t 13), none⟩,
  ⟨some 15, .len (.t 14), none⟩,
  ⟨some 2, .mov (.t 15), none⟩]
def c_morphism_search_addEdges_r2 (F : String → Nat) : List LI := [⟨some 16, .mov (.t 2), none⟩,
  ⟨some 17, .mov (.t 0), none⟩,
  ⟨some 18, .fad 0 (.t 17), none⟩,
  ⟨some 19, .fad 0 (.t 18), none⟩,
  ⟨some 20, .fad 1 (.t 19), none⟩,
  ⟨some 21, .load false 1 (.t 20), none⟩,
  ⟨some 22, .len (.t 21), none⟩,
  ⟨some 23, .bin .eql (.t 16) (.t 22), none⟩]
def c_morphism_search_addEdges_r3 (F : String → Nat) : List LI := [⟨some 24, .mov (.t 0), none⟩,
  ⟨some 25, .mov (.t 0), none⟩,
  ⟨some 26, .fad 0 (.t 25), none⟩,
  ⟨some 27, .fad 6 (.t 26), none⟩,
  ⟨some 28, .load false 1 (.t 27), none⟩,
  ⟨some 29, .mov (.t 0), none⟩,
  ⟨some 30, .fad 0 (.t 29), none⟩,
  ⟨some 31, .fad 4 (.t 30), none⟩,
  ⟨some 32, .load false 1 (.t 31), none⟩,
  ⟨some 33, .call (F "slices.Clone.I") [.t 32] [], none⟩,
  ⟨some 34, .mov (.t 0), none⟩,
  ⟨some 35, .fad 0 (.t 34), none⟩,
  ⟨some 36, .fad 5 (.t 35), none⟩,
  ⟨some 37, .load false 1 (.t 36), none⟩,
  ⟨some 38, .call (F "slices.Clone.I") [.t 37] [], none⟩,
  ⟨some 39, .build [.nl 1, .nl 1] [(0, 1, .t 33), (1, 1, .t 38)], none⟩,
  ⟨some 40, .buildSl 2 48 (.agg [.lst 1 [], .lst 1 []]) 1 [(0, .t 39)], none⟩,
  ⟨some 41, .app 2 48 (.t 28) (.t 40), none⟩,
  ⟨some 42, .fad 0 (.t 24), none⟩,
  ⟨some 43, .fad 6 (.t 42), none⟩,
  ⟨none, .store 1 (.t 43) (.t 41), none⟩]
def c_morphism_search_addEdges_r4 (F : String → Nat) : List LI := [⟨some 44, .mov (.t 0), none⟩,
  ⟨some 45, .mov (.t 2), none⟩,
  ⟨some 46, .call (F "morphism.search.options") [.t 44, .t 45] [], none⟩,
  ⟨some 47, .len (.t 46), none⟩,
  ⟨some 48, .mov (.k (.int .i64 (0))), none⟩]
def c_morphism_search_addEdges_r5 (F : String → Nat) : List LI := [⟨some 49, .bin .lss (.t 48) (.t 47), none⟩]
def c_morphism_search_addEdges_r6 (F : String → Nat) : List LI := [⟨some 50, .iad 1 (.t 46) (.t 48), none⟩,
  ⟨some 51, .load false 1 (.t 50), none⟩,
  ⟨some 4, .mov (.t 51), none⟩]
def c_morphism_search_addEdges_r7 (F : String → Nat) : List LI := [⟨some 52, .mov (.t 0), none⟩,
  ⟨some 53, .mov (.t 0), none⟩,
  ⟨some 54, .fad 0 (.t 53), none⟩,
  ⟨some 55, .fad 5 (.t 54), none⟩,
  ⟨some 56, .load false 1 (.t 55), none⟩,
  ⟨some 57, .mov (.t 4), none⟩,
  ⟨some 58, .buildSl 1 8 (.int .i64 (0)) 1 [(0, .t 57)], none⟩,
  ⟨some 59, .app 1 8 (.t 56) (.t 58), none⟩,
  ⟨some 60, .fad 0 (.t 52), none⟩,
  ⟨some 61, .fad 5 (.t 60), none⟩,
  ⟨none, .store 1 (.t 61) (.t 59), none⟩]
def c_morphism_search_addEdges_r8 (F : String → Nat) : List LI := [⟨some 62, .mov (.t 0), none⟩,
  ⟨some 63, .call (F "morphism.search.addEdges") [.t 62] [.mp], none⟩]
def c_morphism_search_addEdges_r9 (F : String → Nat) : List LI := [⟨some 64, .mov (.t 0), none⟩,
  ⟨some 65, .mov (.t 0), none⟩,
  ⟨some 66, .fad 0 (.t 65), none⟩,
  ⟨some 67, .fad 5 (.t 66), none⟩,
  ⟨some 68, .load false 1 (.t 67), none⟩,
  ⟨some 69, .mov (.t 2), none⟩,
  ⟨some 70, .slc 1 (.t 68) none (some (.t 69)), none⟩,
  ⟨some 71, .fad 0 (.t 64), none⟩,
  ⟨some 72, .fad 5 (.t 71), none⟩,
  ⟨none, .store 1 (.t 72) (.t 70), none⟩]
def c_morphism_search_addEdges_r10 (F : String → Nat) : List LI := [⟨some 73, .bin .add (.t 48) (.k (.int .i64 (1))), none⟩,
  ⟨some 48, .mov (.t 73), none⟩]
def c_morphism_search_addEdges_b11 (F : String → Nat) : LC := (.seq (.reg (c_morphism_search_addEdges_r5 F) [0, 2, 46, 47, 48, 49]) (.seq (.cond (.t 49) .skip (.exit 0)) (.seq (.block 1 (.seq (.reg (c_morphism_search_addEdges_r6 F) [0, 2, 4, 46, 47, 48]) (.seq (.reg (c_morphism_search_addEdges_r7 F) [0, 2, 46, 47, 48]) (.seq (.reg (c_morphism_search_addEdges_r8 F) [0, 2, 46, 47, 48]) (.reg (c_morphism_search_addEdges_r9 F) [0, 2, 46, 47, 48]))))) (.reg (c_morphism_search_addEdges_r10 F) [0, 2, 46, 47, 48]))))
def c_morphism_search_addEdges (F : String → Nat) : LC := (.seq (.seq (.reg (c_morphism_search_addEdges_r0 F) [0, 10]) (.cond (.t 10) .ret .skip)) (.seq (.reg (c_morphism_search_addEdges_r1 F) [0, 2]) (.seq (.seq (.reg (c_morphism_search_addEdges_r2 F) [0, 2, 23]) (.cond (.t 23) (.seq (.dreg [(4, none, [], true), (9, none, [4], true), (13, (some 7168), [9], false), (14, none, [4], false), (16, none, [4], false)] (c_morphism_search_addEdges_r3 F) [0]) .ret) .skip)) (.seq (.reg (c_morphism_search_addEdges_r4 F) [0, 2, 46, 47, 48]) (.block 0 (.loop [0, 2, 46, 47, 48] (c_morphism_search_addEdges_b11 F)))))))
def h_morphism_search_addEdges : Hints := ⟨[0], fun _ => [], tab [(0, [0, 10]), (1, [0, 2]), (2, [0, 2, 23]), (3, [0]), (4, [0, 2, 46, 47, 48]), (5, [0, 2, 46, 47, 48, 49]), (6, [0, 2, 4, 46, 47, 48]), (7, [0, 2, 46, 47, 48]), (8, [0, 2, 46, 47, 48]), (9, [0, 2, 46, 47, 48]), (10, [0, 2, 46, 47, 48])], tab [(5, [0, 2, 46, 47, 48])]⟩

/- morphism.search.possible -/
def c_morphism_search_possible_r0 (F : String → Nat) : List LI := [⟨some 2, .mov (.k (.bool false)), none⟩]
def c_morphism_search_possible_r1 (F : String → Nat) : List LI := [⟨some 6, .mov (.t 0), none⟩,
  ⟨some 7, .fad 0 (.t 6), none⟩,
  ⟨some 8, .fad 4 (.t 7), none⟩,
  ⟨some 9, .load false 1 (.t 8), none⟩,
  ⟨some 10, .len (.t 9), none⟩,
  ⟨some 11, .bin .sub (.t 10) (.k (.int .i64 (1))), none⟩,
  ⟨some 3, .mov (.t 11), none⟩]
def c_morphism_search_possible_r2 (F : String → Nat) : List LI := [⟨some 12, .mov (.t 0), none⟩,
  ⟨some 13, .fad 0 (.t 12), none⟩,
  ⟨some 14, .fad 0 (.t 13), none⟩,
  ⟨some 15, .fad 1 (.t 14), none⟩,
  ⟨some 16, .load false 1 (.t 15), none⟩,
  ⟨some 17, .len (.t 16), none⟩,
  ⟨some 18, .mov (.k (.int .i64 (0))), none⟩]
def c_morphism_search_possible_r3 (F : String → Nat) : List LI := [⟨some 19, .bin .lss (.t 18) (.t 17), none⟩]
def c_morphism_search_possible_r4 (F : String → Nat) : List LI := [⟨some 20, .mov (.t 18), none⟩,
  ⟨some 21, .iad 3 (.t 16) (.t 18), none⟩,
  ⟨some 22, .load true 3 (.t 21), none⟩,
  ⟨some 5, .alloc [.int .i64 (0), .int .i64 (0), .int .i64 (0)], none⟩,
  ⟨some 4, .mov (.t 20), none⟩,
  ⟨none, .store 3 (.t 5) (.t 22), none⟩]
def c_morphism_search_possible_r5 (F : String → Nat) : List LI := [⟨some 23, .fad 1 (.t 5), none⟩,
  ⟨some 24, .load false 1 (.t 23), none⟩,
  ⟨some 25, .fad 2 (.t 5), none⟩,
  ⟨some 26, .load false 1 (.t 25), none⟩,
  ⟨some 27, .mx [.t 24, .t 26], none⟩,
  ⟨some 28, .mov (.t 3), none⟩,
  ⟨some 29, .bin .eql (.t 27) (.t 28), none⟩,
  ⟨some 30, .mov (.t 29), none⟩,
  ⟨some 31, .mov (.t 0), some (30, true)⟩,
  ⟨some 32, .mov (.t 4), some (30, true)⟩,
  ⟨some 33, .call (F "morphism.search.options") [.t 31, .t 32] [], some (30, true)⟩,
  ⟨some 34, .len (.t 33), some (30, true)⟩,
  ⟨some 35, .bin .eql (.t 34) (.k (.int .i64 (0))), some (30, true)⟩,
  ⟨some 36, .pick (.t 30) (.t 35) (.k (.bool false)), none⟩]
def c_morphism_search_possible_r6 (F : String → Nat) : List LI := [⟨some 2, .mov (.k (.bool false)), none⟩]
def c_morphism_search_possible_r7 (F : String → Nat) : List LI := [⟨some 37, .bin .add (.t 18) (.k (.int .i64 (1))), none⟩,
  ⟨some 18, .mov (.t 37), none⟩]
def c_morphism_search_possible_b8 (F : String → Nat) : LC := (.seq (.reg (c_morphism_search_possible_r3 F) [0, 3, 16, 17, 18, 19]) (.seq (.cond (.t 19) .skip (.exit 0)) (.seq (.block 1 (.seq (.reg (c_morphism_search_possible_r4 F) [0, 3, 4, 5, 16, 17, 18]) (.seq (.reg (c_morphism_search_possible_r5 F) [0, 3, 16, 17, 18, 36]) (.cond (.t 36) (.seq (.reg (c_morphism_search_possible_r6 F) [2]) .ret) .skip)))) (.reg (c_morphism_search_possible_r7 F) [0, 3, 16, 17, 18]))))
def c_morphism_search_possible_r9 (F : String → Nat) : List LI := [⟨some 2, .mov (.k (.bool true)), none⟩]
def c_morphism_search_possible (F : String → Nat) : LC := (.seq (.reg (c_morphism_search_possible_r0 F) [0]) (.seq (.reg (c_morphism_search_possible_r1 F) [0, 3]) (.seq (.seq (.reg (c_morphism_search_possible_r2 F) [0, 3, 16, 17, 18]) (.block 0 (.loop [0, 3, 16, 17, 18] (c_morphism_search_possible_b8 F)))) (.seq (.reg (c_morphism_search_possible_r9 F) [2]) .ret))))
def h_morphism_search_possible : Hints := ⟨[], fun _ => [], tab [(0, [0]), (1, [0, 3]), (2, [0, 3, 16, 17, 18]), (3, [0, 3, 16, 17, 18, 19]), (4, [0, 3, 4, 5, 16, 17, 18]), (5, [0, 3, 16, 17, 18, 36]), (6, [2]), (7, [0, 3, 16, 17, 18]), (8, [2])], tab [(3, [0, 3, 16, 17, 18])]⟩

/- morphism.search.addNodes -/
def c_morphism_search_addNodes_r0 (F : String → Nat) : List LI := [⟨some 5, .mov (.t 0), none⟩,
  ⟨some 6, .fad 0 (.t 5), none⟩,
  ⟨some 7, .fad 6 (.t 6), none⟩,
  ⟨some 8, .load false 1 (.t 7), none⟩,
  ⟨some 9, .len (.t 8), none⟩,
  ⟨some 10, .bin .gtr (.t 9) (.k (.int .i64 (2000))), none⟩]
def c_morphism_search_addNodes_r1 (F : String → Nat) : List LI := [⟨some 11, .mov (.t 0), none⟩,
  ⟨some 12, .fad 0 (.t 11), none⟩,
  ⟨some 13, .fad 4 (.t 12), none⟩,
  ⟨some 14, .load false 1 (.t 13), none⟩,
  ⟨some 15, .len (.t 14), none⟩,
  ⟨some 2, .mov (.t 15), none⟩]
def c_morphism_search_addNodes_r2 (F : String → Nat) : List LI := [⟨some 16, .mov (.t 2), none⟩,
  ⟨some 17, .mov (.t 0), none⟩,
  ⟨some 18, .fad 0 (.t 17), none⟩,
  ⟨some 19, .fad 0 (.t 18), none⟩,
  ⟨some 20, .fad 0 (.t 19), none⟩,
  ⟨some 21, .load false 1 (.t 20), none⟩,
  ⟨some 22, .len (.t 21), none⟩,
  ⟨some 23, .bin .eql (.t 16) (.t 22), none⟩]
def c_morphism_search_addNodes_r3 (F : String → Nat) : List LI := [⟨some 24, .mov (.t 0), none⟩,
  ⟨some 25, .call (F "morphism.search.addEdges") [.t 24] [.mp], none⟩]
def c_morphism_search_addNodes_r4 (F : String → Nat) : List LI := [⟨some 26, .mov (.t 0), none⟩,
  ⟨some 27, .fad 0 (.t 26), none⟩,
  ⟨some 28, .fad 2 (.t 27), none⟩,
  ⟨some 29, .fad 0 (.t 28), none⟩,
  ⟨some 30, .load false 1 (.t 29), none⟩,
  ⟨some 31, .len (.t 30), none⟩,
  ⟨some 32, .mov (.k (.int .i64 (0))), none⟩]
def c_morphism_search_addNodes_r5 (F : String → Nat) : List LI := [⟨some 33, .bin .lss (.t 32) (.t 31), none⟩]
def c_morphism_search_addNodes_r6 (F : String → Nat) : List LI := [⟨some 34, .mov (.t 32), none⟩,
  ⟨some 35, .iad 1 (.t 30) (.t 32), none⟩,
  ⟨some 36, .load false 1 (.t 35), none⟩,
  ⟨some 3, .mov (.t 34), none⟩,
  ⟨some 4, .mov (.t 36), none⟩]
def c_morphism_search_addNodes_r7 (F : String → Nat) : List LI := [⟨some 37, .mov (.t 4), none⟩,
  ⟨some 38, .mov (.t 0), none⟩,
  ⟨some 39, .fad 0 (.t 38), none⟩,
  ⟨some 40, .fad 0 (.t 39), none⟩,
  ⟨some 41, .fad 0 (.t 40), none⟩,
  ⟨some 42, .load false 1 (.t 41), none⟩,
  ⟨some 43, .mov (.t 2), none⟩,
  ⟨some 44, .iad 1 (.t 42) (.t 43), none⟩,
  ⟨some 45, .load false 1 (.t 44), none⟩,
  ⟨some 46, .bin .neq (.t 37) (.t 45), none⟩]
def c_morphism_search_addNodes_r8 (F : String → Nat) : List LI := [⟨some 47, .mov (.t 0), none⟩,
  ⟨some 48, .mov (.t 0), none⟩,
  ⟨some 49, .fad 0 (.t 48), none⟩,
  ⟨some 50, .fad 4 (.t 49), none⟩,
  ⟨some 51, .load false 1 (.t 50), none⟩,
  ⟨some 52, .mov (.t 3), none⟩,
  ⟨some 53, .buildSl 1 8 (.int .i64 (0)) 1 [(0, .t 52)], none⟩,
  ⟨some 54, .app 1 8 (.t 51) (.t 53), none⟩,
  ⟨some 55, .fad 0 (.t 47), none⟩,
  ⟨some 56, .fad 4 (.t 55), none⟩,
  ⟨none, .store 1 (.t 56) (.t 54), none⟩]
def c_morphism_search_addNodes_r9 (F : String → Nat) : List LI := [⟨some 57, .mov (.t 0), none⟩,
  ⟨some 58, .call (F "morphism.search.possible") [.t 57] [], none⟩]
def c_morphism_search_addNodes_r10 (F : String → Nat) : List LI := [⟨some 59, .mov (.t 0), none⟩,
  ⟨some 60, .call (F "morphism.search.addNodes") [.t 59] [.mp], none⟩]
def c_morphism_search_addNodes_r11 (F : String → Nat) : List LI := [⟨some 61, .mov (.t 0), none⟩,
  ⟨some 62, .mov (.t 0), none⟩,
  ⟨some 63, .fad 0 (.t 62), none⟩,
  ⟨some 64, .fad 4 (.t 63), none⟩,
  ⟨some 65, .load false 1 (.t 64), none⟩,
  ⟨some 66, .mov (.t 2), none⟩,
  ⟨some 67, .slc 1 (.t 65) none (some (.t 66)), none⟩,
  ⟨some 68, .fad 0 (.t 61), none⟩,
  ⟨some 69, .fad 4 (.t 68), none⟩,
  ⟨none, .store 1 (.t 69) (.t 67), none⟩]
def c_morphism_search_addNodes_r12 (F : String → Nat) : List LI := [⟨some 70, .bin .add (.t 32) (.k (.int .i64 (1))), none⟩,
  ⟨some 32, .mov (.t 70), none⟩]
def c_morphism_search_addNodes_b13 (F : String → Nat) : LC := (.seq (.reg (c_morphism_search_addNodes_r5 F) [0, 2, 30, 31, 32, 33]) (.seq (.cond (.t 33) .skip (.exit 0)) (.seq (.block 1 (.seq (.reg (c_morphism_search_addNodes_r6 F) [0, 2, 3, 4, 30, 31, 32]) (.seq (.seq (.reg (c_morphism_search_addNodes_r7 F) [0, 2, 3, 30, 31, 32, 46]) (.cond (.t 46) (.exit 1) .skip)) (.seq (.reg (c_morphism_search_addNodes_r8 F) [0, 2, 30, 31, 32]) (.seq (.seq (.reg (c_morphism_search_addNodes_r9 F) [0, 2, 30, 31, 32, 58]) (.cond (.t 58) (.reg (c_morphism_search_addNodes_r10 F) [0, 2, 30, 31, 32]) .skip)) (.reg (c_morphism_search_addNodes_r11 F) [0, 2, 30, 31, 32])))))) (.reg (c_morphism_search_addNodes_r12 F) [0, 2, 30, 31, 32]))))
def c_morphism_search_addNodes (F : String → Nat) : LC := (.seq (.seq (.reg (c_morphism_search_addNodes_r0 F) [0, 10]) (.cond (.t 10) .ret .skip)) (.seq (.reg (c_morphism_search_addNodes_r1 F) [0, 2]) (.seq (.seq (.reg (c_morphism_search_addNodes_r2 F) [0, 2, 23]) (.cond (.t 23) (.seq (.reg (c_morphism_search_addNodes_r3 F) [0]) .ret) .skip)) (.seq (.reg (c_morphism_search_addNodes_r4 F) [0, 2, 30, 31, 32]) (.block 0 (.loop [0, 2, 30, 31, 32] (c_morphism_search_addNodes_b13 F)))))))
def h_morphism_search_addNodes : Hints := ⟨[0], fun _ => [], tab [(0, [0, 10]), (1, [0, 2]), (2, [0, 2, 23]), (3, [0]), (4, [0, 2, 30, 31, 32]), (5, [0, 2, 30, 31, 32, 33]), (6, [0, 2, 3, 4, 30, 31, 32]), (7, [0, 2, 3, 30, 31, 32, 46]), (8, [0, 2, 30, 31, 32]), (9, [0, 2, 30, 31, 32, 58]), (10, [0, 2, 30, 31, 32]), (11, [0, 2, 30, 31, 32]), (12, [0, 2, 30, 31, 32])], tab [(5, [0, 2, 30, 31, 32])]⟩

/- morphism.All -/
def c_morphism_All_r0 (F : String → Nat) : List LI := [⟨some 2, .bx (.t 0), none⟩,
  ⟨some 3, .bx (.t 1), none⟩,
  ⟨some 4, .mov (.k (.nl 2)), none⟩,
  ⟨some 5, .mov (.k (.int .i64 (0))), none⟩]
def c_morphism_All_r1 (F : String → Nat) : List LI := [⟨some 9, .load true 2 (.t 2), none⟩,
  ⟨some 10, .call (F "graph.Valid") [.t 9] [], none⟩,
  ⟨some 6, .mov (.t 10), none⟩]
def c_morphism_All_r2 (F : String → Nat) : List LI := [⟨some 11, .mov (.t 6), none⟩,
  ⟨some 12, .bin .neq (.t 11) (.k (.int .i64 (0))), none⟩]
def c_morphism_All_r3 (F : String → Nat) : List LI := [⟨some 13, .mov (.t 6), none⟩,
  ⟨some 4, .mov (.k (.nl 2)), none⟩,
  ⟨some 5, .mov (.t 13), none⟩]
def c_morphism_All_r4 (F : String → Nat) : List LI := [⟨some 14, .load true 2 (.t 3), none⟩,
  ⟨some 15, .call (F "graph.Valid") [.t 14] [], none⟩,
  ⟨some 7, .mov (.t 15), none⟩]
def c_morphism_All_r5 (F : String → Nat) : List LI := [⟨some 16, .mov (.t 7), none⟩,
  ⟨some 17, .bin .neq (.t 16) (.k (.int .i64 (0))), none⟩]
def c_morphism_All_r6 (F : String → Nat) : List LI := [⟨some 18, .mov (.t 7), none⟩,
  ⟨some 4, .mov (.k (.nl 2)), none⟩,
  ⟨some 5, .mov (.t 18), none⟩]
def c_morphism_All_r7 (F : String → Nat) : List LI := [⟨some 19, .load true 2 (.t 2), none⟩,
  ⟨some 20, .load true 2 (.t 3), none⟩,
  ⟨some 21, .build [.nl 1, .nl 3, .nl 1, .nl 3, .nl 1, .nl 1, .nl 2] [(0, 2, .t 19), (2, 2, .t 20)], none⟩,
  ⟨some 8, .alloc [.nl 1, .nl 3, .nl 1, .nl 3, .nl 1, .nl 1, .nl 2], none⟩,
  ⟨none, .store 7 (.t 8) (.t 21), none⟩]
def c_morphism_All_r8 (F : String → Nat) : List LI := [⟨some 22, .call (F "morphism.search.addNodes") [.t 8] [.mp], none⟩]
def c_morphism_All_r9 (F : String → Nat) : List LI := [⟨some 23, .fad 6 (.t 8), none⟩,
  ⟨some 24, .load false 1 (.t 23), none⟩,
  ⟨some 25, .len (.t 24), none⟩,
  ⟨some 26, .bin .gtr (.t 25) (.k (.int .i64 (2000))), none⟩]
def c_morphism_All_r10 (F : String → Nat) : List LI := [⟨some 4, .mov (.k (.nl 2)), none⟩,
  ⟨some 5, .mov (.k (.int .i64 (3))), none⟩]
def c_morphism_All_r11 (F : String → Nat) : List LI := [⟨some 27, .fad 6 (.t 8), none⟩,
  ⟨some 28, .load false 1 (.t 27), none⟩,
  ⟨some 4, .mov (.t 28), none⟩,
  ⟨some 5, .mov (.k (.int .i64 (0))), none⟩]
def c_morphism_All (F : String → Nat) : LC := (.seq (.reg (c_morphism_All_r0 F) [2, 3]) (.seq (.seq (.reg (c_morphism_All_r1 F) [2, 3, 6]) (.seq (.reg (c_morphism_All_r2 F) [2, 3, 6, 12]) (.cond (.t 12) (.seq (.reg (c_morphism_All_r3 F) [4, 5]) .ret) .skip))) (.seq (.seq (.reg (c_morphism_All_r4 F) [2, 3, 7]) (.seq (.reg (c_morphism_All_r5 F) [2, 3, 7, 17]) (.cond (.t 17) (.seq (.reg (c_morphism_All_r6 F) [4, 5]) .ret) .skip))) (.seq (.reg (c_morphism_All_r7 F) [8]) (.seq (.reg (c_morphism_All_r8 F) [8]) (.seq (.seq (.reg (c_morphism_All_r9 F) [8, 26]) (.cond (.t 26) (.seq (.reg (c_morphism_All_r10 F) [4, 5]) .ret) .skip)) (.seq (.reg (c_morphism_All_r11 F) [4, 5]) .ret)))))))
def h_morphism_All : Hints := ⟨[], fun _ => [], tab [(0, [2, 3]), (1, [2, 3, 6]), (2, [2, 3, 6, 12]), (3, [4, 5]), (4, [2, 3, 7]), (5, [2, 3, 7, 17]), (6, [4, 5]), (7, [8]), (8, [8]), (9, [8, 26]), (10, [4, 5]), (11, [4, 5])], tab []⟩

attribute [go_sem] c_morphism_search_options_r0 c_morphism_search_options_r1 c_morphism_search_options_r2 c_morphism_search_options_r3 c_morphism_search_options_r4 c_morphism_search_options_r5 c_morphism_search_options_r6 c_morphism_search_options_r7 c_morphism_search_options_r8 c_morphism_search_options_r10 c_morphism_search_options c_morphism_search_addEdges_r0 c_morphism_search_addEdges_r1 c_morphism_search_addEdges_r2 c_morphism_search_addEdges_r3 c_morphism_search_addEdges_r4 c_morphism_search_addEdges_r5 c_morphism_search_addEdges_r6 c_morphism_search_addEdges_r7 c_morphism_search_addEdges_r8 c_morphism_search_addEdges_r9 c_morphism_search_addEdges_r10 c_morphism_search_addEdges c_morphism_search_possible_r0 c_morphism_search_possible_r1 c_morphism_search_possible_r2 c_morphism_search_possible_r3 c_morphism_search_possible_r4 c_morphism_search_possible_r5 c_morphism_search_possible_r6 c_morphism_search_possible_r7 c_morphism_search_possible_r9 c_morphism_search_possible c_morphism_search_addNodes_r0 c_morphism_search_addNodes_r1 c_morphism_search_addNodes_r2 c_morphism_search_addNodes_r3 c_morphism_search_addNodes_r4 c_morphism_search_addNodes_r5 c_morphism_search_addNodes_r6 c_morphism_search_addNodes_r7 c_morphism_search_addNodes_r8 c_morphism_search_addNodes_r9 c_morphism_search_addNodes_r10 c_morphism_search_addNodes_r11 c_morphism_search_addNodes_r12 c_morphism_search_addNodes c_morphism_All_r0 c_morphism_All_r1 c_morphism_All_r2 c_morphism_All_r3 c_morphism_All_r4 c_morphism_All_r5 c_morphism_All_r6 c_morphism_All_r7 c_morphism_All_r8 c_morphism_All_r9 c_morphism_All_r10 c_morphism_All_r11 c_morphism_All
/-- Can an edge go to an edge? -/
def fitO (ns : List Int) (x y : E) : Bool := decide (y.t = x.t) && (decide (y.f = gt ns x.f) && decide (y.o = gt ns x.o))
def optL (a b : G) (ns : List Int) (e : Int) : List Int := sel (fun k : Nat => fitO ns (gt a.e e) (gt b.e k)) b.e.length
/-- The search for edges: `n` are left. -/
def aE (a b : G) (ns : List Int) : Nat → List Int → List Mo → List Mo
  | 0, es, out => if 2000 < out.length then out else out ++ [⟨ns, es⟩]
  | n + 1, es, out => if 2000 < out.length then out else (optL a b ns es.length).foldl (fun o x => aE a b ns n (es ++ [x]) o) out
/-- Can all edges, of which the last node is an end, go somewhere? -/
def mxE (x : E) : Int := if x.f < x.o then x.o else x.f
def possE (b : G) (ns : List Int) (x : E) : Bool := !(decide (mxE x = (ns.length : Int) - 1)) || (List.range b.e.length).any fun k : Nat => fitO ns x (gt b.e k)
def possL (a b : G) (ns : List Int) : Bool := a.e.all (possE b ns)
def aN (a b : G) : Nat → List Int → List Mo → List Mo
  | 0, ns, out => if 2000 < out.length then out else aE a b ns a.e.length [] out
  | n + 1, ns, out => if 2000 < out.length then out else
    (List.range b.n.length).foldl (fun o (i : Nat) => if gt b.n i = gt a.n ns.length ∧ possL a b (ns ++ [(i : Int)]) = true then aN a b n (ns ++ [(i : Int)]) o else o) out
def allErr (a b : G) : Int := if validG a ≠ 0 then validG a else if validG b ≠ 0 then validG b else if 2000 < (aN a b a.n.length [] []).length then 3 else 0
def allM (a b : G) : List Mo := if allErr a b = 0 then aN a b a.n.length [] [] else []
def seBox (a b : G) (ns es : List Int) (out : List Mo) : D := .box [.lst 1 (ints a.n), .lst 3 (eds a.e), .lst 1 (ints b.n), .lst 3 (eds b.e), .arr 1 (ints ns), .arr 1 (ints es), .arr 2 (pts out)]
def seRef (a b : G) (ns es : List Int) (out : List Mo) : D := .ref [.lst 1 (ints a.n), .lst 3 (eds a.e), .lst 1 (ints b.n), .lst 3 (eds b.e), .lst 1 (ints ns), .lst 1 (ints es), .lst 2 (pts out)]
section
variable (P : Program) (F : String → Nat)
def K_morphism_search_options : Prop := ∀ (a b : G) (ns es : List Int) (out : List Mo) (e : Nat), b.e.length ≤ 80 → e < a.e.length → (∀ x, x ∈ a.e → 0 ≤ x.f ∧ 0 ≤ x.o) → (gt a.e e).f < ns.length → (gt a.e e).o < ns.length →
  FC P (F "morphism.search.options") [seRef a b ns es out, .int .i64 e] (.arr 1 (ints (optL a b ns e))) []
def KA_morphism_search_addEdges (n : Nat) : Prop := ∀ (a b : G) (ns es : List Int) (out : List Mo), validG a = 0 → validG b = 0 → ns.length = a.n.length → es.length + n = a.e.length → out.length ≤ 2001 →
  FC P (F "morphism.search.addEdges") [seBox a b ns es out] (.tup []) [(0, seBox a b ns es (aE a b ns n es out))]
def K_morphism_search_addEdges : Prop := ∀ n, KA_morphism_search_addEdges P F n
def K_morphism_search_possible : Prop := ∀ (a b : G) (ns : List Int) (out : List Mo), validG a = 0 → validG b = 0 → ns.length ≤ a.n.length → 0 < ns.length →
  FC P (F "morphism.search.possible") [seRef a b ns [] out] (.bool (possL a b ns)) []
def KA_morphism_search_addNodes (n : Nat) : Prop := ∀ (a b : G) (ns : List Int) (out : List Mo), validG a = 0 → validG b = 0 → ns.length + n = a.n.length → out.length ≤ 2001 →
  FC P (F "morphism.search.addNodes") [seBox a b ns [] out] (.tup []) [(0, seBox a b ns [] (aN a b n ns out))]
def K_morphism_search_addNodes : Prop := ∀ n, KA_morphism_search_addNodes P F n
def K_morphism_All : Prop := ∀ (a b : G), FC P (F "morphism.All") [gD a, gD b] (.tup [.arr 2 (pts (allM a b)), .int .i64 (allErr a b)]) []
end
section
variable {P : Program} {F : String → Nat} {α : Type}
theorem optL_len (a b : G) (ns : List Int) (e : Int) : (optL a b ns e).length ≤ b.e.length := sel_len _ _
theorem foldl_len {β : Type} {f : List Mo → β → List Mo} (hf : ∀ o x, o.length ≤ 2001 → (f o x).length ≤ 2001) : ∀ (l : List β) (o : List Mo), o.length ≤ 2001 → (l.foldl f o).length ≤ 2001
  | [], o, h => h
  | x :: l, o, h => by rw [List.foldl_cons]; exact foldl_len hf l _ (hf o x h)
theorem aE_len (a b : G) (ns : List Int) : ∀ (n : Nat) (es : List Int) (out : List Mo), out.length ≤ 2001 → (aE a b ns n es out).length ≤ 2001
  | 0, es, out, h => by
    rw [aE]; split
    · exact h
    · simp; omega
  | n + 1, es, out, h => by
    rw [aE]; split
    · exact h
    · exact foldl_len (fun o x ho => aE_len a b ns n _ o ho) _ _ h
theorem aN_len (a b : G) : ∀ (n : Nat) (ns : List Int) (out : List Mo), out.length ≤ 2001 → (aN a b n ns out).length ≤ 2001
  | 0, ns, out, h => by
    rw [aN]; split
    · exact h
    · exact aE_len _ _ _ _ _ _ h
  | n + 1, ns, out, h => by
    rw [aN]; split
    · exact h
    · refine foldl_len (fun o x ho => ?_) _ _ h
      split
      · exact aN_len a b n _ o ho
      · exact ho
theorem w_morphism_search_options (a b : G) (ns es : List Int) (out : List Mo) (e : Nat) (h1 : b.e.length ≤ 80) (h2 : e < a.e.length) (h3 : ∀ x, x ∈ a.e → 0 ≤ x.f ∧ 0 ≤ x.o) (h4 : (gt a.e e).f < ns.length) (h5 : (gt a.e e).o < ns.length) :
    W P (c_morphism_search_options F) (Done [.t 4] [] (.arr 1 (ints (optL a b ns e))) []) (init [seRef a b ns es out, .int .i64 e]) := by
  refine W_of ?_
  have hopt : optL a b ns e = sel (fun k : Nat => fitO ns (gt a.e e) (gt b.e k)) b.e.length := rfl
  rw [hopt]
  obtain ⟨an, ae⟩ := a
  obtain ⟨bn, be⟩ := b
  simp only at h1 h2 h3 h4 h5
  have hx := h3 _ (gt_mem (l := ae) (j := e) (by omega) (by omega))
  have hl := sel_len (fun k : Nat => fitO ns (gt ae e) (gt be k))
  have hsu := sel_succ (fun k : Nat => fitO ns (gt ae e) (gt be k))
  generalize hS : sel (fun k : Nat => fitO ns (gt ae e) (gt be k)) = S at *
  have hz : S 0 = [] := by rw [← hS]; rfl
  have hsu : ∀ n : Nat, S (n + 1) = if fitO ns (gt ae e) (gt be n) = true then S n ++ [(n : Int)] else S n := hsu
  simp only [fitO] at hsu
  generalize hxx : gt ae (e : Int) = x at *
  simp only [seRef]
  simp (config := { maxSteps := 1000000 }) (disch := first | omega | (simp only [go_sem]; omega)) only [go_sem, ↓reduceIte, hxx]
  refine W_loop (fun i : Nat => ⟨[(0, D.ref [D.lst 1 (ints an), D.lst 3 (eds ae), D.lst 1 (ints bn), D.lst 3 (eds be), D.lst 1 (ints ns), D.lst 1 (ints es), D.lst 2 (pts out)]), (5, D.pt 0 0), (6, D.sl 1 0 (S i).length), (21, D.lst 3 (eds be)), (22, D.int IntKind.i64 be.length), (23, D.int IntKind.i64 i)],
    [(0, Ent.box [D.int IntKind.i64 x.t, D.int IntKind.i64 x.f, D.int IntKind.i64 x.o]), (1, Ent.arr 1 (ints (S i)))], 2⟩) (fun i => i ≤ be.length) (fun i => be.length - i) 0 ?_ ?_ ?_
  · simp (config := { maxSteps := 1000000 }) (disch := first | omega | (simp only [go_sem]; omega)) only [go_sem, ↓reduceIte, hz]
    rfl
  · simp
  · intro i hi
    have w1 := hl i
    have w2 := hsu i
    simp (config := { maxSteps := 1000000 }) (disch := first | omega | (simp only [go_sem]; omega)) only [go_sem, ↓reduceIte, c_morphism_search_options_b9]
    refine bran_dec (fun c => ?_) (fun c => ?_)
    · simp (config := { maxSteps := 1000000 }) (disch := first | omega | (simp only [go_sem]; omega)) only [go_sem, ↓reduceIte]
      refine bran_dec (fun d1 => ?_) (fun d1 => ?_)
      · simp (config := { maxSteps := 1000000 }) (disch := first | omega | (simp only [go_sem]; omega)) only [go_sem, ↓reduceIte, d1]
        refine bran_dec (fun d2 => ?_) (fun d2 => ?_)
        · simp (config := { maxSteps := 1000000 }) (disch := first | omega | (simp only [go_sem]; omega)) only [go_sem, ↓reduceIte, d1, d2]
          refine bran_dec (fun d3 => ?_) (fun d3 => ?_)
          · replace w2 : S (i + 1) = S i ++ [(i : Int)] := by rw [w2]; simp [d1, d2, d3]
            simp (config := { maxSteps := 1000000 }) (disch := first | omega | (simp only [go_sem]; omega)) only [go_sem, ↓reduceIte, d1, d2, d3]
            exact ⟨i + 1, by rw [w2]; simp, by omega, by omega⟩
          · replace w2 : S (i + 1) = S i := by rw [w2]; simp [d3]
            simp (config := { maxSteps := 1000000 }) (disch := first | omega | (simp only [go_sem]; omega)) only [go_sem, ↓reduceIte, d1, d2, d3]
            exact ⟨i + 1, by rw [w2]; simp, by omega, by omega⟩
        · replace w2 : S (i + 1) = S i := by rw [w2]; simp [d2]
          simp (config := { maxSteps := 1000000 }) (disch := first | omega | (simp only [go_sem]; omega)) only [go_sem, ↓reduceIte, d1, d2]
          exact ⟨i + 1, by rw [w2]; simp, by omega, by omega⟩
      · replace w2 : S (i + 1) = S i := by rw [w2]; simp [d1]
        simp (config := { maxSteps := 1000000 }) (disch := first | omega | (simp only [go_sem]; omega)) only [go_sem, ↓reduceIte, d1]
        exact ⟨i + 1, by rw [w2]; simp, by omega, by omega⟩
    · obtain rfl : i = be.length := by omega
      simp (config := { maxSteps := 1000000 }) (disch := first | omega | (simp only [go_sem]; omega)) only [go_sem, ↓reduceIte]
end
end Go.Am
