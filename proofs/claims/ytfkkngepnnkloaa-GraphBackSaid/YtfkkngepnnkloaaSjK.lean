/- Incident, the reference's Components, and their law. -/
import Derived.Test.YtfkkngepnnkloaaSjJ
namespace Go.Am
open Go
set_option linter.unusedVariables false
set_option linter.unusedSimpArgs false
/- graph.Incident -/
def c_graph_Incident_r0 (F : String → Nat) : List LI := [⟨some 2, .bx (.t 0), none⟩,
  ⟨some 4, .mov (.k (.nl 1)), none⟩,
  ⟨some 5, .mov (.k (.nl 1)), none⟩,
  ⟨some 6, .mov (.k (.int .i64 (0))), none⟩]
def c_graph_Incident_r1 (F : String → Nat) : List LI := [⟨some 12, .load true 2 (.t 2), none⟩,
  ⟨some 13, .call (F "graph.Valid") [.t 12] [], none⟩,
  ⟨some 7, .mov (.t 13), none⟩]
def c_graph_Incident_r2 (F : String → Nat) : List LI := [⟨some 14, .mov (.t 7), none⟩,
  ⟨some 15, .bin .neq (.t 14) (.k (.int .i64 (0))), none⟩]
def c_graph_Incident_r3 (F : String → Nat) : List LI := [⟨some 16, .mov (.t 7), none⟩,
  ⟨some 4, .mov (.k (.nl 1)), none⟩,
  ⟨some 5, .mov (.k (.nl 1)), none⟩,
  ⟨some 6, .mov (.t 16), none⟩]
def c_graph_Incident_r4 (F : String → Nat) : List LI := [⟨some 17, .mov (.t 1), none⟩,
  ⟨some 18, .fad 0 (.t 2), none⟩,
  ⟨some 19, .load false 1 (.t 18), none⟩,
  ⟨some 20, .len (.t 19), none⟩,
  ⟨some 21, .bin .sub (.t 20) (.k (.int .i64 (1))), none⟩,
  ⟨some 22, .call (F "graph.within") [.t 17, .t 21] [], none⟩,
  ⟨some 23, .not (.t 22), none⟩]
def c_graph_Incident_r5 (F : String → Nat) : List LI := [⟨some 4, .mov (.k (.nl 1)), none⟩,
  ⟨some 5, .mov (.k (.nl 1)), none⟩,
  ⟨some 6, .mov (.k (.int .i64 (6))), none⟩]
def c_graph_Incident_r6 (F : String → Nat) : List LI := [⟨some 8, .mov (.k (.nl 1)), none⟩,
  ⟨some 9, .mov (.k (.nl 1)), none⟩]
def c_graph_Incident_r7 (F : String → Nat) : List LI := [⟨some 24, .fad 1 (.t 2), none⟩,
  ⟨some 25, .load false 1 (.t 24), none⟩,
  ⟨some 26, .len (.t 25), none⟩,
  ⟨some 27, .mov (.k (.int .i64 (0))), none⟩]
def c_graph_Incident_r8 (F : String → Nat) : List LI := [⟨some 28, .bin .lss (.t 27) (.t 26), none⟩]
def c_graph_Incident_r9 (F : String → Nat) : List LI := [⟨some 29, .mov (.t 27), none⟩,
  ⟨some 30, .iad 3 (.t 25) (.t 27), none⟩,
  ⟨some 31, .load true 3 (.t 30), none⟩,
  ⟨some 11, .alloc [.int .i64 (0), .int .i64 (0), .int .i64 (0)], none⟩,
  ⟨some 10, .mov (.t 29), none⟩,
  ⟨none, .store 3 (.t 11) (.t 31), none⟩]
def c_graph_Incident_r10 (F : String → Nat) : List LI := [⟨some 32, .fad 2 (.t 11), none⟩,
  ⟨some 33, .load false 1 (.t 32), none⟩,
  ⟨some 34, .mov (.t 1), none⟩,
  ⟨some 35, .bin .eql (.t 33) (.t 34), none⟩]
def c_graph_Incident_r11 (F : String → Nat) : List LI := [⟨some 36, .mov (.t 8), none⟩,
  ⟨some 37, .mov (.t 10), none⟩,
  ⟨some 38, .buildSl 1 8 (.int .i64 (0)) 1 [(0, .t 37)], none⟩,
  ⟨some 39, .app 1 8 (.t 36) (.t 38), none⟩,
  ⟨some 8, .mov (.t 39), none⟩]
def c_graph_Incident_r12 (F : String → Nat) : List LI := [⟨some 40, .fad 1 (.t 11), none⟩,
  ⟨some 41, .load false 1 (.t 40), none⟩,
  ⟨some 42, .mov (.t 1), none⟩,
  ⟨some 43, .bin .eql (.t 41) (.t 42), none⟩]
def c_graph_Incident_r13 (F : String → Nat) : List LI := [⟨some 44, .mov (.t 9), none⟩,
  ⟨some 45, .mov (.t 10), none⟩,
  ⟨some 46, .buildSl 1 8 (.int .i64 (0)) 1 [(0, .t 45)], none⟩,
  ⟨some 47, .app 1 8 (.t 44) (.t 46), none⟩,
  ⟨some 9, .mov (.t 47), none⟩]
def c_graph_Incident_r14 (F : String → Nat) : List LI := [⟨some 48, .bin .add (.t 27) (.k (.int .i64 (1))), none⟩,
  ⟨some 27, .mov (.t 48), none⟩]
def c_graph_Incident_b15 (F : String → Nat) : LC := (.seq (.reg (c_graph_Incident_r8 F) [1, 8, 9, 25, 26, 27, 28]) (.seq (.cond (.t 28) .skip (.exit 0)) (.seq (.block 1 (.seq (.reg (c_graph_Incident_r9 F) [1, 8, 9, 10, 11, 25, 26, 27]) (.seq (.seq (.reg (c_graph_Incident_r10 F) [1, 8, 9, 10, 11, 25, 26, 27, 35]) (.cond (.t 35) (.reg (c_graph_Incident_r11 F) [1, 8, 9, 10, 11, 25, 26, 27]) .skip)) (.seq (.reg (c_graph_Incident_r12 F) [1, 8, 9, 10, 25, 26, 27, 43]) (.cond (.t 43) (.reg (c_graph_Incident_r13 F) [1, 8, 9, 25, 26, 27]) .skip))))) (.reg (c_graph_Incident_r14 F) [1, 8, 9, 25, 26, 27]))))
def c_graph_Incident_r16 (F : String → Nat) : List LI := [⟨some 49, .mov (.t 8), none⟩,
  ⟨some 50, .mov (.t 9), none⟩,
  ⟨some 4, .mov (.t 49), none⟩,
  ⟨some 5, .mov (.t 50), none⟩,
  ⟨some 6, .mov (.k (.int .i64 (0))), none⟩]
def c_graph_Incident (F : String → Nat) : LC := (.seq (.reg (c_graph_Incident_r0 F) [1, 2]) (.seq (.seq (.reg (c_graph_Incident_r1 F) [1, 2, 7]) (.seq (.reg (c_graph_Incident_r2 F) [1, 2, 7, 15]) (.cond (.t 15) (.seq (.reg (c_graph_Incident_r3 F) [4, 5, 6]) .ret) .skip))) (.seq (.seq (.reg (c_graph_Incident_r4 F) [1, 2, 23]) (.cond (.t 23) (.seq (.reg (c_graph_Incident_r5 F) [4, 5, 6]) .ret) .skip)) (.seq (.reg (c_graph_Incident_r6 F) [1, 2, 8, 9]) (.seq (.seq (.reg (c_graph_Incident_r7 F) [1, 8, 9, 25, 26, 27]) (.block 0 (.loop [1, 8, 9, 25, 26, 27] (c_graph_Incident_b15 F)))) (.seq (.reg (c_graph_Incident_r16 F) [4, 5, 6]) .ret))))))
def h_graph_Incident : Hints := ⟨[], fun _ => [], tab [(0, [1, 2]), (1, [1, 2, 7]), (2, [1, 2, 7, 15]), (3, [4, 5, 6]), (4, [1, 2, 23]), (5, [4, 5, 6]), (6, [1, 2, 8, 9]), (7, [1, 8, 9, 25, 26, 27]), (8, [1, 8, 9, 25, 26, 27, 28]), (9, [1, 8, 9, 10, 11, 25, 26, 27]), (10, [1, 8, 9, 10, 11, 25, 26, 27, 35]), (11, [1, 8, 9, 10, 11, 25, 26, 27]), (12, [1, 8, 9, 10, 25, 26, 27, 43]), (13, [1, 8, 9, 25, 26, 27]), (14, [1, 8, 9, 25, 26, 27]), (15, [4, 5, 6])], tab [(8, [1, 8, 9, 25, 26, 27])]⟩

/- r05.Incident -/
def c_r05_Incident_r0 (F : String → Nat) : List LI := [⟨some 2, .bx (.t 0), none⟩,
  ⟨some 4, .mov (.k (.nl 1)), none⟩,
  ⟨some 5, .mov (.k (.nl 1)), none⟩,
  ⟨some 6, .mov (.k (.int .i64 (0))), none⟩]
def c_r05_Incident_r1 (F : String → Nat) : List LI := [⟨some 11, .load true 2 (.t 2), none⟩,
  ⟨some 12, .call (F "r05.Valid") [.t 11] [], none⟩,
  ⟨some 7, .mov (.t 12), none⟩]
def c_r05_Incident_r2 (F : String → Nat) : List LI := [⟨some 13, .mov (.t 7), none⟩,
  ⟨some 14, .bin .neq (.t 13) (.k (.int .i64 (0))), none⟩]
def c_r05_Incident_r3 (F : String → Nat) : List LI := [⟨some 15, .mov (.t 7), none⟩,
  ⟨some 4, .mov (.k (.nl 1)), none⟩,
  ⟨some 5, .mov (.k (.nl 1)), none⟩,
  ⟨some 6, .mov (.t 15), none⟩]
def c_r05_Incident_r4 (F : String → Nat) : List LI := [⟨some 16, .mov (.t 1), none⟩,
  ⟨some 17, .bin .lss (.t 16) (.k (.int .i64 (0))), none⟩,
  ⟨some 18, .mov (.t 17), none⟩,
  ⟨some 19, .mov (.t 1), some (18, false)⟩,
  ⟨some 20, .fad 0 (.t 2), some (18, false)⟩,
  ⟨some 21, .load false 1 (.t 20), some (18, false)⟩,
  ⟨some 22, .len (.t 21), some (18, false)⟩,
  ⟨some 23, .bin .geq (.t 19) (.t 22), some (18, false)⟩,
  ⟨some 24, .pick (.t 18) (.k (.bool true)) (.t 23), none⟩]
def c_r05_Incident_r5 (F : String → Nat) : List LI := [⟨some 4, .mov (.k (.nl 1)), none⟩,
  ⟨some 5, .mov (.k (.nl 1)), none⟩,
  ⟨some 6, .mov (.k (.int .i64 (6))), none⟩]
def c_r05_Incident_r6 (F : String → Nat) : List LI := [⟨some 8, .mov (.k (.nl 1)), none⟩,
  ⟨some 9, .mov (.k (.nl 1)), none⟩]
def c_r05_Incident_r7 (F : String → Nat) : List LI := [⟨some 10, .mov (.k (.int .i64 (0))), none⟩]
def c_r05_Incident_r8 (F : String → Nat) : List LI := [⟨some 25, .mov (.t 10), none⟩,
  ⟨some 26, .fad 1 (.t 2), none⟩,
  ⟨some 27, .load false 1 (.t 26), none⟩,
  ⟨some 28, .len (.t 27), none⟩,
  ⟨some 29, .bin .lss (.t 25) (.t 28), none⟩]
def c_r05_Incident_r9 (F : String → Nat) : List LI := [⟨some 32, .fad 1 (.t 2), none⟩,
  ⟨some 33, .load false 1 (.t 32), none⟩,
  ⟨some 34, .mov (.t 10), none⟩,
  ⟨some 35, .iad 3 (.t 33) (.t 34), none⟩,
  ⟨some 36, .fad 2 (.t 35), none⟩,
  ⟨some 37, .load false 1 (.t 36), none⟩,
  ⟨some 38, .mov (.t 1), none⟩,
  ⟨some 39, .bin .eql (.t 37) (.t 38), none⟩]
def c_r05_Incident_r10 (F : String → Nat) : List LI := [⟨some 40, .mov (.t 8), none⟩,
  ⟨some 41, .mov (.t 10), none⟩,
  ⟨some 42, .buildSl 1 8 (.int .i64 (0)) 1 [(0, .t 41)], none⟩,
  ⟨some 43, .app 1 8 (.t 40) (.t 42), none⟩,
  ⟨some 8, .mov (.t 43), none⟩]
def c_r05_Incident_r11 (F : String → Nat) : List LI := [⟨some 44, .fad 1 (.t 2), none⟩,
  ⟨some 45, .load false 1 (.t 44), none⟩,
  ⟨some 46, .mov (.t 10), none⟩,
  ⟨some 47, .iad 3 (.t 45) (.t 46), none⟩,
  ⟨some 48, .fad 1 (.t 47), none⟩,
  ⟨some 49, .load false 1 (.t 48), none⟩,
  ⟨some 50, .mov (.t 1), none⟩,
  ⟨some 51, .bin .eql (.t 49) (.t 50), none⟩]
def c_r05_Incident_r12 (F : String → Nat) : List LI := [⟨some 52, .mov (.t 9), none⟩,
  ⟨some 53, .mov (.t 10), none⟩,
  ⟨some 54, .buildSl 1 8 (.int .i64 (0)) 1 [(0, .t 53)], none⟩,
  ⟨some 55, .app 1 8 (.t 52) (.t 54), none⟩,
  ⟨some 9, .mov (.t 55), none⟩]
def c_r05_Incident_r13 (F : String → Nat) : List LI := [⟨some 30, .mov (.t 10), none⟩,
  ⟨some 31, .bin .add (.t 30) (.k (.int .i64 (1))), none⟩,
  ⟨some 10, .mov (.t 31), none⟩]
def c_r05_Incident_b14 (F : String → Nat) : LC := (.seq (.seq (.reg (c_r05_Incident_r8 F) [1, 2, 8, 9, 10, 29]) (.cond (.t 29) .skip (.exit 0))) (.seq (.block 1 (.seq (.seq (.reg (c_r05_Incident_r9 F) [1, 2, 8, 9, 10, 39]) (.cond (.t 39) (.reg (c_r05_Incident_r10 F) [1, 2, 8, 9, 10]) .skip)) (.seq (.reg (c_r05_Incident_r11 F) [1, 2, 8, 9, 10, 51]) (.cond (.t 51) (.reg (c_r05_Incident_r12 F) [1, 2, 8, 9, 10]) .skip)))) (.reg (c_r05_Incident_r13 F) [1, 2, 8, 9, 10])))
def c_r05_Incident_r15 (F : String → Nat) : List LI := [⟨some 56, .mov (.t 8), none⟩,
  ⟨some 57, .mov (.t 9), none⟩,
  ⟨some 4, .mov (.t 56), none⟩,
  ⟨some 5, .mov (.t 57), none⟩,
  ⟨some 6, .mov (.k (.int .i64 (0))), none⟩]
def c_r05_Incident (F : String → Nat) : LC := (.seq (.reg (c_r05_Incident_r0 F) [1, 2]) (.seq (.seq (.reg (c_r05_Incident_r1 F) [1, 2, 7]) (.seq (.reg (c_r05_Incident_r2 F) [1, 2, 7, 14]) (.cond (.t 14) (.seq (.reg (c_r05_Incident_r3 F) [4, 5, 6]) .ret) .skip))) (.seq (.seq (.reg (c_r05_Incident_r4 F) [1, 2, 24]) (.cond (.t 24) (.seq (.reg (c_r05_Incident_r5 F) [4, 5, 6]) .ret) .skip)) (.seq (.reg (c_r05_Incident_r6 F) [1, 2, 8, 9]) (.seq (.seq (.reg (c_r05_Incident_r7 F) [1, 2, 8, 9, 10]) (.block 0 (.loop [1, 2, 8, 9, 10] (c_r05_Incident_b14 F)))) (.seq (.reg (c_r05_Incident_r15 F) [4, 5, 6]) .ret))))))
def h_r05_Incident : Hints := ⟨[], fun _ => [], tab [(0, [1, 2]), (1, [1, 2, 7]), (2, [1, 2, 7, 14]), (3, [4, 5, 6]), (4, [1, 2, 24]), (5, [4, 5, 6]), (6, [1, 2, 8, 9]), (7, [1, 2, 8, 9, 10]), (8, [1, 2, 8, 9, 10, 29]), (9, [1, 2, 8, 9, 10]), (10, [1, 2, 8, 9, 10, 39]), (11, [1, 2, 8, 9, 10]), (12, [1, 2, 8, 9, 10, 51]), (13, [1, 2, 8, 9, 10]), (14, [4, 5, 6])], tab [(8, [1, 2, 8, 9, 10])]⟩

/- r05.Components -/
def c_r05_Components_r0 (F : String → Nat) : List LI := [⟨some 1, .bx (.t 0), none⟩,
  ⟨some 2, .mov (.k (.nl 2)), none⟩,
  ⟨some 3, .mov (.k (.int .i64 (0))), none⟩]
def c_r05_Components_r1 (F : String → Nat) : List LI := [⟨some 16, .load true 2 (.t 1), none⟩,
  ⟨some 17, .call (F "r05.Valid") [.t 16] [], none⟩,
  ⟨some 4, .mov (.t 17), none⟩]
def c_r05_Components_r2 (F : String → Nat) : List LI := [⟨some 18, .mov (.t 4), none⟩,
  ⟨some 19, .bin .neq (.t 18) (.k (.int .i64 (0))), none⟩]
def c_r05_Components_r3 (F : String → Nat) : List LI := [⟨some 20, .mov (.t 4), none⟩,
  ⟨some 2, .mov (.k (.nl 2)), none⟩,
  ⟨some 3, .mov (.t 20), none⟩]
def c_r05_Components_r4 (F : String → Nat) : List LI := [⟨some 21, .fad 0 (.t 1), none⟩,
  ⟨some 22, .load false 1 (.t 21), none⟩,
  ⟨some 23, .len (.t 22), none⟩,
  ⟨some 24, .call (F "r05.Numbers") [.k (.int .i64 (0)), .t 23] [], none⟩,
  ⟨some 5, .mov (.t 24), none⟩]
def c_r05_Components_r5 (F : String → Nat) : List LI := [⟨some 6, .mov (.k (.int .i64 (0))), none⟩]
def c_r05_Components_r6 (F : String → Nat) : List LI := [⟨some 25, .mov (.t 6), none⟩,
  ⟨some 26, .fad 0 (.t 1), none⟩,
  ⟨some 27, .load false 1 (.t 26), none⟩,
  ⟨some 28, .len (.t 27), none⟩,
  ⟨some 29, .bin .lss (.t 25) (.t 28), none⟩]
def c_r05_Components_r7 (F : String → Nat) : List LI := [⟨some 7, .mov (.k (.int .i64 (0))), none⟩]
def c_r05_Components_r8 (F : String → Nat) : List LI := [⟨some 32, .mov (.t 7), none⟩,
  ⟨some 33, .fad 1 (.t 1), none⟩,
  ⟨some 34, .load false 1 (.t 33), none⟩,
  ⟨some 35, .len (.t 34), none⟩,
  ⟨some 36, .bin .lss (.t 32) (.t 35), none⟩]
def c_r05_Components_r9 (F : String → Nat) : List LI := [⟨some 39, .fad 1 (.t 1), none⟩,
  ⟨some 40, .load false 1 (.t 39), none⟩,
  ⟨some 41, .mov (.t 7), none⟩,
  ⟨some 42, .iad 3 (.t 40) (.t 41), none⟩,
  ⟨some 43, .fad 1 (.t 42), none⟩,
  ⟨some 44, .load false 1 (.t 43), none⟩,
  ⟨some 45, .fad 1 (.t 1), none⟩,
  ⟨some 46, .load false 1 (.t 45), none⟩,
  ⟨some 47, .mov (.t 7), none⟩,
  ⟨some 48, .iad 3 (.t 46) (.t 47), none⟩,
  ⟨some 49, .fad 2 (.t 48), none⟩,
  ⟨some 50, .load false 1 (.t 49), none⟩,
  ⟨some 8, .mov (.t 44), none⟩,
  ⟨some 9, .mov (.t 50), none⟩]
def c_r05_Components_r10 (F : String → Nat) : List LI := [⟨some 51, .mov (.t 5), none⟩,
  ⟨some 52, .mov (.t 8), none⟩,
  ⟨some 53, .iad 1 (.t 51) (.t 52), none⟩,
  ⟨some 54, .load false 1 (.t 53), none⟩,
  ⟨some 55, .mov (.t 5), none⟩,
  ⟨some 56, .mov (.t 9), none⟩,
  ⟨some 57, .iad 1 (.t 55) (.t 56), none⟩,
  ⟨some 58, .load false 1 (.t 57), none⟩,
  ⟨some 59, .mn [.t 54, .t 58], none⟩,
  ⟨some 10, .mov (.t 59), none⟩]
def c_r05_Components_r11 (F : String → Nat) : List LI := [⟨some 60, .mov (.t 5), none⟩,
  ⟨some 61, .mov (.t 8), none⟩,
  ⟨some 62, .mov (.t 5), none⟩,
  ⟨some 63, .mov (.t 9), none⟩,
  ⟨some 64, .mov (.t 10), none⟩,
  ⟨some 65, .mov (.t 10), none⟩,
  ⟨some 66, .iad 1 (.t 60) (.t 61), none⟩,
  ⟨none, .store 1 (.t 66) (.t 64), none⟩,
  ⟨some 67, .iad 1 (.t 62) (.t 63), none⟩,
  ⟨none, .store 1 (.t 67) (.t 65), none⟩]
def c_r05_Components_r12 (F : String → Nat) : List LI := [⟨some 37, .mov (.t 7), none⟩,
  ⟨some 38, .bin .add (.t 37) (.k (.int .i64 (1))), none⟩,
  ⟨some 7, .mov (.t 38), none⟩]
def c_r05_Components_b13 (F : String → Nat) : LC := (.seq (.seq (.reg (c_r05_Components_r8 F) [1, 5, 6, 7, 36]) (.cond (.t 36) .skip (.exit 2))) (.seq (.block 3 (.seq (.dreg [] (c_r05_Components_r9 F) [1, 5, 6, 7, 8, 9]) (.seq (.dreg [] (c_r05_Components_r10 F) [1, 5, 6, 7, 8, 9, 10]) (.reg (c_r05_Components_r11 F) [1, 5, 6, 7])))) (.reg (c_r05_Components_r12 F) [1, 5, 6, 7])))
def c_r05_Components_r14 (F : String → Nat) : List LI := [⟨some 30, .mov (.t 6), none⟩,
  ⟨some 31, .bin .add (.t 30) (.k (.int .i64 (1))), none⟩,
  ⟨some 6, .mov (.t 31), none⟩]
def c_r05_Components_b15 (F : String → Nat) : LC := (.seq (.seq (.reg (c_r05_Components_r6 F) [1, 5, 6, 29]) (.cond (.t 29) .skip (.exit 0))) (.seq (.block 1 (.seq (.reg (c_r05_Components_r7 F) [1, 5, 6, 7]) (.block 2 (.loop [1, 5, 6, 7] (c_r05_Components_b13 F))))) (.reg (c_r05_Components_r14 F) [1, 5, 6])))
def c_r05_Components_r16 (F : String → Nat) : List LI := [⟨some 11, .mov (.k (.nl 2)), none⟩]
def c_r05_Components_r17 (F : String → Nat) : List LI := [⟨some 12, .mov (.k (.int .i64 (0))), none⟩]
def c_r05_Components_r18 (F : String → Nat) : List LI := [⟨some 68, .mov (.t 12), none⟩,
  ⟨some 69, .fad 0 (.t 1), none⟩,
  ⟨some 70, .load false 1 (.t 69), none⟩,
  ⟨some 71, .len (.t 70), none⟩,
  ⟨some 72, .bin .lss (.t 68) (.t 71), none⟩]
def c_r05_Components_r19 (F : String → Nat) : List LI := [⟨some 75, .mov (.t 5), none⟩,
  ⟨some 76, .mov (.t 12), none⟩,
  ⟨some 77, .iad 1 (.t 75) (.t 76), none⟩,
  ⟨some 78, .load false 1 (.t 77), none⟩,
  ⟨some 79, .mov (.t 12), none⟩,
  ⟨some 80, .bin .neq (.t 78) (.t 79), none⟩]
def c_r05_Components_r20 (F : String → Nat) : List LI := [⟨some 13, .alloc [.nl 1, .nl 1], none⟩]
def c_r05_Components_r21 (F : String → Nat) : List LI := [⟨some 14, .mov (.k (.int .i64 (0))), none⟩]
def c_r05_Components_r22 (F : String → Nat) : List LI := [⟨some 81, .mov (.t 14), none⟩,
  ⟨some 82, .fad 0 (.t 1), none⟩,
  ⟨some 83, .load false 1 (.t 82), none⟩,
  ⟨some 84, .len (.t 83), none⟩,
  ⟨some 85, .bin .lss (.t 81) (.t 84), none⟩]
def c_r05_Components_r23 (F : String → Nat) : List LI := [⟨some 88, .mov (.t 5), none⟩,
  ⟨some 89, .mov (.t 14), none⟩,
  ⟨some 90, .iad 1 (.t 88) (.t 89), none⟩,
  ⟨some 91, .load false 1 (.t 90), none⟩,
  ⟨some 92, .mov (.t 12), none⟩,
  ⟨some 93, .bin .eql (.t 91) (.t 92), none⟩]
def c_r05_Components_r24 (F : String → Nat) : List LI := [⟨some 94, .fad 0 (.t 13), none⟩,
  ⟨some 95, .load false 1 (.t 94), none⟩,
  ⟨some 96, .mov (.t 14), none⟩,
  ⟨some 97, .buildSl 1 8 (.int .i64 (0)) 1 [(0, .t 96)], none⟩,
  ⟨some 98, .app 1 8 (.t 95) (.t 97), none⟩,
  ⟨some 99, .fad 0 (.t 13), none⟩,
  ⟨none, .store 1 (.t 99) (.t 98), none⟩]
def c_r05_Components_r25 (F : String → Nat) : List LI := [⟨some 86, .mov (.t 14), none⟩,
  ⟨some 87, .bin .add (.t 86) (.k (.int .i64 (1))), none⟩,
  ⟨some 14, .mov (.t 87), none⟩]
def c_r05_Components_b26 (F : String → Nat) : LC := (.seq (.seq (.reg (c_r05_Components_r22 F) [1, 5, 11, 12, 13, 14, 85]) (.cond (.t 85) .skip (.exit 6))) (.seq (.block 7 (.seq (.reg (c_r05_Components_r23 F) [1, 5, 11, 12, 13, 14, 93]) (.cond (.t 93) (.reg (c_r05_Components_r24 F) [1, 5, 11, 12, 13, 14]) .skip))) (.reg (c_r05_Components_r25 F) [1, 5, 11, 12, 13, 14])))
def c_r05_Components_r27 (F : String → Nat) : List LI := [⟨some 15, .mov (.k (.int .i64 (0))), none⟩]
def c_r05_Components_r28 (F : String → Nat) : List LI := [⟨some 100, .mov (.t 15), none⟩,
  ⟨some 101, .fad 1 (.t 1), none⟩,
  ⟨some 102, .load false 1 (.t 101), none⟩,
  ⟨some 103, .len (.t 102), none⟩,
  ⟨some 104, .bin .lss (.t 100) (.t 103), none⟩]
def c_r05_Components_r29 (F : String → Nat) : List LI := [⟨some 107, .mov (.t 5), none⟩,
  ⟨some 108, .fad 1 (.t 1), none⟩,
  ⟨some 109, .load false 1 (.t 108), none⟩,
  ⟨some 110, .mov (.t 15), none⟩,
  ⟨some 111, .iad 3 (.t 109) (.t 110), none⟩,
  ⟨some 112, .fad 1 (.t 111), none⟩,
  ⟨some 113, .load false 1 (.t 112), none⟩,
  ⟨some 114, .iad 1 (.t 107) (.t 113), none⟩,
  ⟨some 115, .load false 1 (.t 114), none⟩,
  ⟨some 116, .mov (.t 12), none⟩,
  ⟨some 117, .bin .eql (.t 115) (.t 116), none⟩]
def c_r05_Components_r30 (F : String → Nat) : List LI := [⟨some 118, .fad 1 (.t 13), none⟩,
  ⟨some 119, .load false 1 (.t 118), none⟩,
  ⟨some 120, .mov (.t 15), none⟩,
  ⟨some 121, .buildSl 1 8 (.int .i64 (0)) 1 [(0, .t 120)], none⟩,
  ⟨some 122, .app 1 8 (.t 119) (.t 121), none⟩,
  ⟨some 123, .fad 1 (.t 13), none⟩,
  ⟨none, .store 1 (.t 123) (.t 122), none⟩]
def c_r05_Components_r31 (F : String → Nat) : List LI := [⟨some 105, .mov (.t 15), none⟩,
  ⟨some 106, .bin .add (.t 105) (.k (.int .i64 (1))), none⟩,
  ⟨some 15, .mov (.t 106), none⟩]
def c_r05_Components_b32 (F : String → Nat) : LC := (.seq (.seq (.reg (c_r05_Components_r28 F) [1, 5, 11, 12, 13, 15, 104]) (.cond (.t 104) .skip (.exit 8))) (.seq (.block 9 (.seq (.reg (c_r05_Components_r29 F) [1, 5, 11, 12, 13, 15, 117]) (.cond (.t 117) (.reg (c_r05_Components_r30 F) [1, 5, 11, 12, 13, 15]) .skip))) (.reg (c_r05_Components_r31 F) [1, 5, 11, 12, 13, 15])))
def c_r05_Components_r33 (F : String → Nat) : List LI := [⟨some 124, .mov (.t 11), none⟩,
  ⟨some 125, .load true 2 (.t 13), none⟩,
  ⟨some 126, .buildSl 2 48 (.agg [.lst 1 [], .lst 1 []]) 1 [(0, .t 125)], none⟩,
  ⟨some 127, .app 2 48 (.t 124) (.t 126), none⟩,
  ⟨some 11, .mov (.t 127), none⟩]
def c_r05_Components_r34 (F : String → Nat) : List LI := [⟨some 73, .mov (.t 12), none⟩,
  ⟨some 74, .bin .add (.t 73) (.k (.int .i64 (1))), none⟩,
  ⟨some 12, .mov (.t 74), none⟩]
def c_r05_Components_b35 (F : String → Nat) : LC := (.seq (.seq (.reg (c_r05_Components_r18 F) [1, 5, 11, 12, 72]) (.cond (.t 72) .skip (.exit 4))) (.seq (.block 5 (.seq (.seq (.reg (c_r05_Components_r19 F) [1, 5, 11, 12, 80]) (.cond (.t 80) (.exit 5) .skip)) (.seq (.reg (c_r05_Components_r20 F) [1, 5, 11, 12, 13]) (.seq (.seq (.reg (c_r05_Components_r21 F) [1, 5, 11, 12, 13, 14]) (.block 6 (.loop [1, 5, 11, 12, 13, 14] (c_r05_Components_b26 F)))) (.seq (.seq (.reg (c_r05_Components_r27 F) [1, 5, 11, 12, 13, 15]) (.block 8 (.loop [1, 5, 11, 12, 13, 15] (c_r05_Components_b32 F)))) (.reg (c_r05_Components_r33 F) [1, 5, 11, 12])))))) (.reg (c_r05_Components_r34 F) [1, 5, 11, 12])))
def c_r05_Components_r36 (F : String → Nat) : List LI := [⟨some 128, .mov (.t 11), none⟩,
  ⟨some 2, .mov (.t 128), none⟩,
  ⟨some 3, .mov (.k (.int .i64 (0))), none⟩]
def c_r05_Components (F : String → Nat) : LC := (.seq (.reg (c_r05_Components_r0 F) [1]) (.seq (.seq (.reg (c_r05_Components_r1 F) [1, 4]) (.seq (.reg (c_r05_Components_r2 F) [1, 4, 19]) (.cond (.t 19) (.seq (.reg (c_r05_Components_r3 F) [2, 3]) .ret) .skip))) (.seq (.reg (c_r05_Components_r4 F) [1, 5]) (.seq (.seq (.reg (c_r05_Components_r5 F) [1, 5, 6]) (.block 0 (.loop [1, 5, 6] (c_r05_Components_b15 F)))) (.seq (.reg (c_r05_Components_r16 F) [1, 5, 11]) (.seq (.seq (.reg (c_r05_Components_r17 F) [1, 5, 11, 12]) (.block 4 (.loop [1, 5, 11, 12] (c_r05_Components_b35 F)))) (.seq (.reg (c_r05_Components_r36 F) [2, 3]) .ret)))))))
def h_r05_Components : Hints := ⟨[], fun _ => [], tab [(0, [1]), (1, [1, 4]), (2, [1, 4, 19]), (3, [2, 3]), (4, [1, 5]), (5, [1, 5, 6]), (6, [1, 5, 6, 29]), (7, [1, 5, 6]), (8, [1, 5, 6, 7]), (9, [1, 5, 6, 7, 36]), (10, [1, 5, 6, 7]), (11, [1, 5, 6, 7, 8, 9]), (12, [1, 5, 6, 7, 8, 9, 10]), (13, [1, 5, 6, 7]), (14, [1, 5, 11]), (15, [1, 5, 11, 12]), (16, [1, 5, 11, 12, 72]), (17, [1, 5, 11, 12]), (18, [1, 5, 11, 12, 80]), (19, [1, 5, 11, 12, 13]), (20, [1, 5, 11, 12, 13, 14]), (21, [1, 5, 11, 12, 13, 14, 85]), (22, [1, 5, 11, 12, 13, 14]), (23, [1, 5, 11, 12, 13, 14, 93]), (24, [1, 5, 11, 12, 13, 14]), (25, [1, 5, 11, 12, 13, 15]), (26, [1, 5, 11, 12, 13, 15, 104]), (27, [1, 5, 11, 12, 13, 15]), (28, [1, 5, 11, 12, 13, 15, 117]), (29, [1, 5, 11, 12, 13, 15]), (30, [1, 5, 11, 12]), (31, [2, 3])], tab [(6, [1, 5, 6]), (9, [1, 5, 6, 7]), (16, [1, 5, 11, 12]), (21, [1, 5, 11, 12, 13, 14]), (26, [1, 5, 11, 12, 13, 15])]⟩

/- r05.SameParts -/
def c_r05_SameParts_r0 (F : String → Nat) : List LI := [⟨some 4, .mov (.k (.bool false)), none⟩]
def c_r05_SameParts_r1 (F : String → Nat) : List LI := [⟨some 6, .mov (.t 0), none⟩,
  ⟨some 7, .len (.t 6), none⟩,
  ⟨some 8, .mov (.t 1), none⟩,
  ⟨some 9, .len (.t 8), none⟩,
  ⟨some 10, .bin .neq (.t 7) (.t 9), none⟩]
def c_r05_SameParts_r2 (F : String → Nat) : List LI := [⟨some 4, .mov (.k (.bool false)), none⟩]
def c_r05_SameParts_r3 (F : String → Nat) : List LI := [⟨some 5, .mov (.k (.int .i64 (0))), none⟩]
def c_r05_SameParts_r4 (F : String → Nat) : List LI := [⟨some 11, .mov (.t 5), none⟩,
  ⟨some 12, .mov (.t 0), none⟩,
  ⟨some 13, .len (.t 12), none⟩,
  ⟨some 14, .bin .lss (.t 11) (.t 13), none⟩]
def c_r05_SameParts_r5 (F : String → Nat) : List LI := [⟨some 17, .mov (.t 0), none⟩,
  ⟨some 18, .mov (.t 5), none⟩,
  ⟨some 19, .iad 2 (.t 17) (.t 18), none⟩,
  ⟨some 20, .fad 0 (.t 19), none⟩,
  ⟨some 21, .load false 1 (.t 20), none⟩,
  ⟨some 22, .mov (.t 1), none⟩,
  ⟨some 23, .mov (.t 5), none⟩,
  ⟨some 24, .iad 2 (.t 22) (.t 23), none⟩,
  ⟨some 25, .fad 0 (.t 24), none⟩,
  ⟨some 26, .load false 1 (.t 25), none⟩,
  ⟨some 27, .call (F "r05.SameInts") [.t 21, .t 26] [], none⟩,
  ⟨some 28, .not (.t 27), none⟩,
  ⟨some 29, .mov (.t 28), none⟩,
  ⟨some 30, .mov (.t 0), some (29, false)⟩,
  ⟨some 31, .mov (.t 5), some (29, false)⟩,
  ⟨some 32, .iad 2 (.t 30) (.t 31), some (29, false)⟩,
  ⟨some 33, .fad 1 (.t 32), some (29, false)⟩,
  ⟨some 34, .load false 1 (.t 33), some (29, false)⟩,
  ⟨some 35, .mov (.t 1), some (29, false)⟩,
  ⟨some 36, .mov (.t 5), some (29, false)⟩,
  ⟨some 37, .iad 2 (.t 35) (.t 36), some (29, false)⟩,
  ⟨some 38, .fad 1 (.t 37), some (29, false)⟩,
  ⟨some 39, .load false 1 (.t 38), some (29, false)⟩,
  ⟨some 40, .call (F "r05.SameInts") [.t 34, .t 39] [], some (29, false)⟩,
  ⟨some 41, .not (.t 40), some (29, false)⟩,
  ⟨some 42, .pick (.t 29) (.k (.bool true)) (.t 41), none⟩]
def c_r05_SameParts_r6 (F : String → Nat) : List LI := [⟨some 4, .mov (.k (.bool false)), none⟩]
def c_r05_SameParts_r7 (F : String → Nat) : List LI := [⟨some 15, .mov (.t 5), none⟩,
  ⟨some 16, .bin .add (.t 15) (.k (.int .i64 (1))), none⟩,
  ⟨some 5, .mov (.t 16), none⟩]
def c_r05_SameParts_b8 (F : String → Nat) : LC := (.seq (.seq (.reg (c_r05_SameParts_r4 F) [0, 1, 5, 14]) (.cond (.t 14) .skip (.exit 0))) (.seq (.block 1 (.seq (.dreg [] (c_r05_SameParts_r5 F) [0, 1, 5, 42]) (.cond (.t 42) (.seq (.reg (c_r05_SameParts_r6 F) [4]) .ret) .skip))) (.reg (c_r05_SameParts_r7 F) [0, 1, 5])))
def c_r05_SameParts_r9 (F : String → Nat) : List LI := [⟨some 4, .mov (.k (.bool true)), none⟩]
def c_r05_SameParts (F : String → Nat) : LC := (.seq (.reg (c_r05_SameParts_r0 F) [0, 1]) (.seq (.seq (.reg (c_r05_SameParts_r1 F) [0, 1, 10]) (.cond (.t 10) (.seq (.reg (c_r05_SameParts_r2 F) [4]) .ret) .skip)) (.seq (.seq (.reg (c_r05_SameParts_r3 F) [0, 1, 5]) (.block 0 (.loop [0, 1, 5] (c_r05_SameParts_b8 F)))) (.seq (.reg (c_r05_SameParts_r9 F) [4]) .ret))))
def h_r05_SameParts : Hints := ⟨[], fun _ => [], tab [(0, [0, 1]), (1, [0, 1, 10]), (2, [4]), (3, [0, 1, 5]), (4, [0, 1, 5, 14]), (5, [0, 1, 5]), (6, [0, 1, 5, 42]), (7, [4]), (8, [4])], tab [(4, [0, 1, 5])]⟩

/- l05.GraphIncident -/
def c_l05_GraphIncident_r0 (F : String → Nat) : List LI := [⟨some 2, .bx (.t 0), none⟩,
  ⟨some 4, .mov (.k (.bool false)), none⟩]
def c_l05_GraphIncident_r1 (F : String → Nat) : List LI := [⟨some 15, .call (F "l05.awake") [] [], none⟩,
  ⟨some 16, .not (.t 15), none⟩,
  ⟨some 17, .mov (.t 16), none⟩,
  ⟨some 18, .load true 2 (.t 2), some (17, false)⟩,
  ⟨some 19, .call (F "r05.Few") [.t 18] [], some (17, false)⟩,
  ⟨some 20, .not (.t 19), some (17, false)⟩,
  ⟨some 21, .pick (.t 17) (.k (.bool true)) (.t 20), none⟩]
def c_l05_GraphIncident_r2 (F : String → Nat) : List LI := [⟨some 22, .call (F "l05.awake") [] [], none⟩,
  ⟨some 4, .mov (.t 22), none⟩]
def c_l05_GraphIncident_r3 (F : String → Nat) : List LI := [⟨some 24, .load true 2 (.t 2), none⟩,
  ⟨some 25, .call (F "r05.Copied") [.t 24] [], none⟩,
  ⟨some 26, .mov (.t 1), none⟩,
  ⟨some 27, .call (F "graph.Incident") [.t 25, .t 26] [], none⟩,
  ⟨some 23, .mov (.t 27), none⟩,
  ⟨some 28, .ext (.t 23) 0, none⟩,
  ⟨some 29, .ext (.t 23) 1, none⟩,
  ⟨some 30, .ext (.t 23) 2, none⟩,
  ⟨some 5, .mov (.t 28), none⟩,
  ⟨some 6, .mov (.t 29), none⟩,
  ⟨some 7, .mov (.t 30), none⟩]
def c_l05_GraphIncident_r4 (F : String → Nat) : List LI := [⟨some 32, .load true 2 (.t 2), none⟩,
  ⟨some 33, .mov (.t 1), none⟩,
  ⟨some 34, .call (F "r05.Incident") [.t 32, .t 33] [], none⟩,
  ⟨some 31, .mov (.t 34), none⟩,
  ⟨some 35, .ext (.t 31) 0, none⟩,
  ⟨some 36, .ext (.t 31) 1, none⟩,
  ⟨some 37, .ext (.t 31) 2, none⟩,
  ⟨some 8, .mov (.t 35), none⟩,
  ⟨some 9, .mov (.t 36), none⟩,
  ⟨some 10, .mov (.t 37), none⟩]
def c_l05_GraphIncident_r5 (F : String → Nat) : List LI := [⟨some 39, .load true 2 (.t 2), none⟩,
  ⟨some 40, .call (F "r05.Copied") [.t 39] [], none⟩,
  ⟨some 41, .call (F "graph.Components") [.t 40] [], none⟩,
  ⟨some 38, .mov (.t 41), none⟩,
  ⟨some 42, .ext (.t 38) 0, none⟩,
  ⟨some 43, .ext (.t 38) 1, none⟩,
  ⟨some 11, .mov (.t 42), none⟩,
  ⟨some 12, .mov (.t 43), none⟩]
def c_l05_GraphIncident_r6 (F : String → Nat) : List LI := [⟨some 45, .load true 2 (.t 2), none⟩,
  ⟨some 46, .call (F "r05.Components") [.t 45] [], none⟩,
  ⟨some 44, .mov (.t 46), none⟩,
  ⟨some 47, .ext (.t 44) 0, none⟩,
  ⟨some 48, .ext (.t 44) 1, none⟩,
  ⟨some 13, .mov (.t 47), none⟩,
  ⟨some 14, .mov (.t 48), none⟩]
def c_l05_GraphIncident_r7 (F : String → Nat) : List LI := [⟨some 49, .mov (.t 7), none⟩,
  ⟨some 50, .mov (.t 10), none⟩,
  ⟨some 51, .bin .eql (.t 49) (.t 50), none⟩,
  ⟨some 52, .mov (.t 51), none⟩,
  ⟨some 53, .mov (.t 5), some (52, true)⟩,
  ⟨some 54, .mov (.t 8), some (52, true)⟩,
  ⟨some 55, .call (F "slices.Equal.I") [.t 53, .t 54] [], some (52, true)⟩,
  ⟨some 56, .pick (.t 52) (.t 55) (.k (.bool false)), none⟩,
  ⟨some 57, .mov (.t 56), none⟩,
  ⟨some 58, .mov (.t 6), some (57, true)⟩,
  ⟨some 59, .mov (.t 9), some (57, true)⟩,
  ⟨some 60, .call (F "slices.Equal.I") [.t 58, .t 59] [], some (57, true)⟩,
  ⟨some 61, .pick (.t 57) (.t 60) (.k (.bool false)), none⟩,
  ⟨some 62, .mov (.t 61), none⟩,
  ⟨some 63, .mov (.t 12), some (62, true)⟩,
  ⟨some 64, .mov (.t 14), some (62, true)⟩,
  ⟨some 65, .bin .eql (.t 63) (.t 64), some (62, true)⟩,
  ⟨some 66, .pick (.t 62) (.t 65) (.k (.bool false)), none⟩,
  ⟨some 67, .mov (.t 66), none⟩,
  ⟨some 68, .mov (.t 11), some (67, true)⟩,
  ⟨some 69, .mov (.t 13), some (67, true)⟩,
  ⟨some 70, .call (F "r05.SameParts") [.t 68, .t 69] [], some (67, true)⟩,
  ⟨some 71, .pick (.t 67) (.t 70) (.k (.bool false)), none⟩,
  ⟨some 4, .mov (.t 71), none⟩]
def c_l05_GraphIncident (F : String → Nat) : LC := (.seq (.reg (c_l05_GraphIncident_r0 F) [1, 2]) (.seq (.seq (.reg (c_l05_GraphIncident_r1 F) [1, 2, 21]) (.cond (.t 21) (.seq (.reg (c_l05_GraphIncident_r2 F) [4]) .ret) .skip)) (.seq (.reg (c_l05_GraphIncident_r3 F) [1, 2, 5, 6, 7]) (.seq (.reg (c_l05_GraphIncident_r4 F) [2, 5, 6, 7, 8, 9, 10]) (.seq (.reg (c_l05_GraphIncident_r5 F) [2, 5, 6, 7, 8, 9, 10, 11, 12]) (.seq (.reg (c_l05_GraphIncident_r6 F) [5, 6, 7, 8, 9, 10, 11, 12, 13, 14]) (.seq (.reg (c_l05_GraphIncident_r7 F) [4]) .ret)))))))
def h_l05_GraphIncident : Hints := ⟨[], fun _ => [], tab [(0, [1, 2]), (1, [1, 2, 21]), (2, [4]), (3, [1, 2, 5, 6, 7]), (4, [2, 5, 6, 7, 8, 9, 10]), (5, [2, 5, 6, 7, 8, 9, 10, 11, 12]), (6, [5, 6, 7, 8, 9, 10, 11, 12, 13, 14]), (7, [4])], tab []⟩

attribute [go_sem] c_graph_Incident_r0 c_graph_Incident_r1 c_graph_Incident_r2 c_graph_Incident_r3 c_graph_Incident_r4 c_graph_Incident_r5 c_graph_Incident_r6 c_graph_Incident_r7 c_graph_Incident_r8 c_graph_Incident_r9 c_graph_Incident_r10 c_graph_Incident_r11 c_graph_Incident_r12 c_graph_Incident_r13 c_graph_Incident_r14 c_graph_Incident_r16 c_graph_Incident c_r05_Incident_r0 c_r05_Incident_r1 c_r05_Incident_r2 c_r05_Incident_r3 c_r05_Incident_r4 c_r05_Incident_r5 c_r05_Incident_r6 c_r05_Incident_r7 c_r05_Incident_r8 c_r05_Incident_r9 c_r05_Incident_r10 c_r05_Incident_r11 c_r05_Incident_r12 c_r05_Incident_r13 c_r05_Incident_r15 c_r05_Incident c_r05_Components_r0 c_r05_Components_r1 c_r05_Components_r2 c_r05_Components_r3 c_r05_Components_r4 c_r05_Components_r5 c_r05_Components_r6 c_r05_Components_r7 c_r05_Components_r8 c_r05_Components_r9 c_r05_Components_r10 c_r05_Components_r11 c_r05_Components_r12 c_r05_Components_r14 c_r05_Components_r16 c_r05_Components_r17 c_r05_Components_r18 c_r05_Components_r19 c_r05_Components_r20 c_r05_Components_r21 c_r05_Components_r22 c_r05_Components_r23 c_r05_Components_r24 c_r05_Components_r25 c_r05_Components_r27 c_r05_Components_r28 c_r05_Components_r29 c_r05_Components_r30 c_r05_Components_r31 c_r05_Components_r33 c_r05_Components_r34 c_r05_Components_r36 c_r05_Components c_r05_SameParts_r0 c_r05_SameParts_r1 c_r05_SameParts_r2 c_r05_SameParts_r3 c_r05_SameParts_r4 c_r05_SameParts_r5 c_r05_SameParts_r6 c_r05_SameParts_r7 c_r05_SameParts_r9 c_r05_SameParts c_l05_GraphIncident_r0 c_l05_GraphIncident_r1 c_l05_GraphIncident_r2 c_l05_GraphIncident_r3 c_l05_GraphIncident_r4 c_l05_GraphIncident_r5 c_l05_GraphIncident_r6 c_l05_GraphIncident_r7 c_l05_GraphIncident
def incG (g : G) (v : Int) : List Int × List Int × Int :=
  if validG g ≠ 0 then ([], [], validG g) else if ¬ (0 ≤ v ∧ v ≤ g.n.length - 1) then ([], [], 6)
  else (idxs (fun i => decide ((gt g.e i).o = v)) g.e.length, idxs (fun i => decide ((gt g.e i).f = v)) g.e.length, 0)
def incD (r : List Int × List Int × Int) : D := .tup [.arr 1 (ints r.1), .arr 1 (ints r.2.1), .int .i64 r.2.2]
section
variable (P : Program) (F : String → Nat)
def K_graph_Incident : Prop := ∀ (g : G) (v : Int), FC P (F "graph.Incident") [gD g, .int .i64 v] (incD (incG g v)) []
def K_r05_Incident : Prop := ∀ (g : G) (v : Int), FC P (F "r05.Incident") [gD g, .int .i64 v] (incD (incG g v)) []
def K_r05_Components : Prop := ∀ g : G, FC P (F "r05.Components") [gD g] (.tup [.arr 2 (pts (compsG g).1), .int .i64 (compsG g).2]) []
def Small (l : List Mo) : Prop := ∀ m ∈ l, m.n.length ≤ maxL ∧ m.e.length ≤ maxL
def K_r05_SameParts : Prop := ∀ a b : List Mo, a.length ≤ maxL → Small a → FC P (F "r05.SameParts") [.lst 2 (pts a), .lst 2 (pts b)] (.bool (decide (a = b))) []
def K_l05_GraphIncident : Prop := ∀ (g : G) (v : Int), FC P (F "l05.GraphIncident") [gD g, .int .i64 v] (.bool true) []
end
section
variable {P : Program} {F : String → Nat} {α : Type}
theorem pts_get {a : List Mo} {i : Nat} (h : i < a.length) : (pts a)[i]? = some (.agg [.lst 1 (ints (gt a (i : Int)).n), .lst 1 (ints (gt a (i : Int)).e)]) := by
  rw [gt_nat h]
  simp [pts, mD, h]
attribute [go_sem] pts_get
theorem w_graph_Incident (hv : K_graph_Valid P F) (hw : K_graph_within P F) (g : G) (v : Int) : W P (c_graph_Incident F) (Done [.t 4, .t 5, .t 6] [] (incD (incG g v)) []) (init [gD g, .int .i64 v]) := by
  refine W_of ?_
  obtain ⟨gn, ge⟩ := g
  simp (config := { maxSteps := 1000000 }) (disch := first | omega | (simp only [List.length_set, List.length_append, List.length_cons, List.length_nil, List.length_replicate]; omega)) only [go_sem, Nat.reduceEqDiff, Nat.reduceBEq, Nat.reduceAdd, Nat.reduceSub, Nat.reduceMul, Nat.reduceLT, Nat.reduceLeDiff, ↓reduceIte, reduceCtorEq, Nat.reduceDiv, Nat.reducePow, Nat.reduceMod, gD]
  refine call_by (hv ⟨gn, ge⟩) ?_
  simp (config := { maxSteps := 1000000 }) (disch := first | omega | (simp only [List.length_set, List.length_append, List.length_cons, List.length_nil, List.length_replicate]; omega)) only [go_sem, Nat.reduceEqDiff, Nat.reduceBEq, Nat.reduceAdd, Nat.reduceSub, Nat.reduceMul, Nat.reduceLT, Nat.reduceLeDiff, ↓reduceIte, reduceCtorEq, Nat.reduceDiv, Nat.reducePow, Nat.reduceMod]
  refine bran_ndec (fun c1 => ?_) (fun c1 => ?_)
  · simp (config := { maxSteps := 1000000 }) (disch := first | omega | (simp only [List.length_set, List.length_append, List.length_cons, List.length_nil, List.length_replicate]; omega)) only [go_sem, Nat.reduceEqDiff, Nat.reduceBEq, Nat.reduceAdd, Nat.reduceSub, Nat.reduceMul, Nat.reduceLT, Nat.reduceLeDiff, ↓reduceIte, reduceCtorEq, Nat.reduceDiv, Nat.reducePow, Nat.reduceMod]
    simp [incG, c1, incD, ints]
  · obtain ⟨v1, v2, v3, v4⟩ := valid_spec c1
    simp only at v1 v2 v3 v4
    simp (config := { maxSteps := 1000000 }) (disch := first | omega | (simp only [List.length_set, List.length_append, List.length_cons, List.length_nil, List.length_replicate]; omega)) only [go_sem, Nat.reduceEqDiff, Nat.reduceBEq, Nat.reduceAdd, Nat.reduceSub, Nat.reduceMul, Nat.reduceLT, Nat.reduceLeDiff, ↓reduceIte, reduceCtorEq, Nat.reduceDiv, Nat.reducePow, Nat.reduceMod]
    refine call_by (hw _ _) ?_
    simp (config := { maxSteps := 1000000 }) (disch := first | omega | (simp only [List.length_set, List.length_append, List.length_cons, List.length_nil, List.length_replicate]; omega)) only [go_sem, Nat.reduceEqDiff, Nat.reduceBEq, Nat.reduceAdd, Nat.reduceSub, Nat.reduceMul, Nat.reduceLT, Nat.reduceLeDiff, ↓reduceIte, reduceCtorEq, Nat.reduceDiv, Nat.reducePow, Nat.reduceMod]
    refine bran_ndec (fun c2 => ?_) (fun c2 => ?_)
    · simp (config := { maxSteps := 1000000 }) (disch := first | omega | (simp only [List.length_set, List.length_append, List.length_cons, List.length_nil, List.length_replicate]; omega)) only [go_sem, Nat.reduceEqDiff, Nat.reduceBEq, Nat.reduceAdd, Nat.reduceSub, Nat.reduceMul, Nat.reduceLT, Nat.reduceLeDiff, ↓reduceIte, reduceCtorEq, Nat.reduceDiv, Nat.reducePow, Nat.reduceMod]
      simp only [incG, c1, ne_eq, not_true_eq_false, if_false, if_pos c2]
      simp [incD, ints]
    · have hb := idxs_len
      simp (config := { maxSteps := 1000000 }) (disch := first | omega | (simp only [List.length_set, List.length_append, List.length_cons, List.length_nil, List.length_replicate]; omega)) only [go_sem, Nat.reduceEqDiff, Nat.reduceBEq, Nat.reduceAdd, Nat.reduceSub, Nat.reduceMul, Nat.reduceLT, Nat.reduceLeDiff, ↓reduceIte, reduceCtorEq, Nat.reduceDiv, Nat.reducePow, Nat.reduceMod]
      refine W_loop (fun i : Nat => ⟨[(1, D.int IntKind.i64 v), (8, D.sl 0 0 (idxs (fun i => decide ((gt ge i).o = v)) i).length), (9, D.sl 1 0 (idxs (fun i => decide ((gt ge i).f = v)) i).length), (25, D.lst 3 (eds ge)),
        (26, D.int IntKind.i64 ↑ge.length), (27, D.int IntKind.i64 i)], [(0, Ent.arr 1 (ints (idxs (fun i => decide ((gt ge i).o = v)) i))), (1, Ent.arr 1 (ints (idxs (fun i => decide ((gt ge i).f = v)) i)))], 2⟩) (fun i => i ≤ ge.length) (fun i => ge.length - i) 0 ?_ ?_ ?_
      · simp (config := { maxSteps := 1000000 }) (disch := first | omega | (simp only [List.length_set, List.length_append, List.length_cons, List.length_nil, List.length_replicate]; omega)) only [go_sem, Nat.reduceEqDiff, Nat.reduceBEq, Nat.reduceAdd, Nat.reduceSub, Nat.reduceMul, Nat.reduceLT, Nat.reduceLeDiff, ↓reduceIte, reduceCtorEq, Nat.reduceDiv, Nat.reducePow, Nat.reduceMod]
        rfl
      · omega
      · intro i hi
        have hb1 := hb (fun i => decide ((gt ge i).o = v)) i
        have hb2 := hb (fun i => decide ((gt ge i).f = v)) i
        simp (config := { maxSteps := 1000000 }) (disch := first | omega | (simp only [List.length_set, List.length_append, List.length_cons, List.length_nil, List.length_replicate]; omega)) only [go_sem, Nat.reduceEqDiff, Nat.reduceBEq, Nat.reduceAdd, Nat.reduceSub, Nat.reduceMul, Nat.reduceLT, Nat.reduceLeDiff, ↓reduceIte, reduceCtorEq, Nat.reduceDiv, Nat.reducePow, Nat.reduceMod, c_graph_Incident_b15]
        refine bran_dec (fun c => ?_) (fun c => ?_)
        · simp (config := { maxSteps := 1000000 }) (disch := first | omega | (simp only [List.length_set, List.length_append, List.length_cons, List.length_nil, List.length_replicate]; omega)) only [go_sem, Nat.reduceEqDiff, Nat.reduceBEq, Nat.reduceAdd, Nat.reduceSub, Nat.reduceMul, Nat.reduceLT, Nat.reduceLeDiff, ↓reduceIte, reduceCtorEq, Nat.reduceDiv, Nat.reducePow, Nat.reduceMod]
          refine bran_dec (fun d => ?_) (fun d => ?_)
          · simp (config := { maxSteps := 1000000 }) (disch := first | omega | (simp only [List.length_set, List.length_append, List.length_cons, List.length_nil, List.length_replicate]; omega)) only [go_sem, Nat.reduceEqDiff, Nat.reduceBEq, Nat.reduceAdd, Nat.reduceSub, Nat.reduceMul, Nat.reduceLT, Nat.reduceLeDiff, ↓reduceIte, reduceCtorEq, Nat.reduceDiv, Nat.reducePow, Nat.reduceMod]
            refine bran_dec (fun f => ?_) (fun f => ?_)
            · simp (config := { maxSteps := 1000000 }) (disch := first | omega | (simp only [List.length_set, List.length_append, List.length_cons, List.length_nil, List.length_replicate]; omega)) only [go_sem, Nat.reduceEqDiff, Nat.reduceBEq, Nat.reduceAdd, Nat.reduceSub, Nat.reduceMul, Nat.reduceLT, Nat.reduceLeDiff, ↓reduceIte, reduceCtorEq, Nat.reduceDiv, Nat.reducePow, Nat.reduceMod]
              exact ⟨i + 1, by simp [idxs, d, f], by omega, by omega⟩
            · simp (config := { maxSteps := 1000000 }) (disch := first | omega | (simp only [List.length_set, List.length_append, List.length_cons, List.length_nil, List.length_replicate]; omega)) only [go_sem, Nat.reduceEqDiff, Nat.reduceBEq, Nat.reduceAdd, Nat.reduceSub, Nat.reduceMul, Nat.reduceLT, Nat.reduceLeDiff, ↓reduceIte, reduceCtorEq, Nat.reduceDiv, Nat.reducePow, Nat.reduceMod]
              exact ⟨i + 1, by simp [idxs, d, f], by omega, by omega⟩
          · simp (config := { maxSteps := 1000000 }) (disch := first | omega | (simp only [List.length_set, List.length_append, List.length_cons, List.length_nil, List.length_replicate]; omega)) only [go_sem, Nat.reduceEqDiff, Nat.reduceBEq, Nat.reduceAdd, Nat.reduceSub, Nat.reduceMul, Nat.reduceLT, Nat.reduceLeDiff, ↓reduceIte, reduceCtorEq, Nat.reduceDiv, Nat.reducePow, Nat.reduceMod]
            refine bran_dec (fun f => ?_) (fun f => ?_)
            · simp (config := { maxSteps := 1000000 }) (disch := first | omega | (simp only [List.length_set, List.length_append, List.length_cons, List.length_nil, List.length_replicate]; omega)) only [go_sem, Nat.reduceEqDiff, Nat.reduceBEq, Nat.reduceAdd, Nat.reduceSub, Nat.reduceMul, Nat.reduceLT, Nat.reduceLeDiff, ↓reduceIte, reduceCtorEq, Nat.reduceDiv, Nat.reducePow, Nat.reduceMod]
              exact ⟨i + 1, by simp [idxs, d, f], by omega, by omega⟩
            · simp (config := { maxSteps := 1000000 }) (disch := first | omega | (simp only [List.length_set, List.length_append, List.length_cons, List.length_nil, List.length_replicate]; omega)) only [go_sem, Nat.reduceEqDiff, Nat.reduceBEq, Nat.reduceAdd, Nat.reduceSub, Nat.reduceMul, Nat.reduceLT, Nat.reduceLeDiff, ↓reduceIte, reduceCtorEq, Nat.reduceDiv, Nat.reducePow, Nat.reduceMod]
              exact ⟨i + 1, by simp [idxs, d, f], by omega, by omega⟩
        · simp (config := { maxSteps := 1000000 }) (disch := first | omega | (simp only [List.length_set, List.length_append, List.length_cons, List.length_nil, List.length_replicate]; omega)) only [go_sem, Nat.reduceEqDiff, Nat.reduceBEq, Nat.reduceAdd, Nat.reduceSub, Nat.reduceMul, Nat.reduceLT, Nat.reduceLeDiff, ↓reduceIte, reduceCtorEq, Nat.reduceDiv, Nat.reducePow, Nat.reduceMod]
          obtain rfl : i = ge.length := by omega
          simp [incG, c1, c2, incD]
theorem w_r05_Incident (hv : K_r05_Valid P F) (g : G) (v : Int) : W P (c_r05_Incident F) (Done [.t 4, .t 5, .t 6] [] (incD (incG g v)) []) (init [gD g, .int .i64 v]) := by
  refine W_of ?_
  obtain ⟨gn, ge⟩ := g
  simp (config := { maxSteps := 1000000 }) (disch := first | omega | (simp only [List.length_set, List.length_append, List.length_cons, List.length_nil, List.length_replicate]; omega)) only [go_sem, Nat.reduceEqDiff, Nat.reduceBEq, Nat.reduceAdd, Nat.reduceSub, Nat.reduceMul, Nat.reduceLT, Nat.reduceLeDiff, ↓reduceIte, reduceCtorEq, Nat.reduceDiv, Nat.reducePow, Nat.reduceMod, gD]
  refine call_by (hv ⟨gn, ge⟩) ?_
  simp (config := { maxSteps := 1000000 }) (disch := first | omega | (simp only [List.length_set, List.length_append, List.length_cons, List.length_nil, List.length_replicate]; omega)) only [go_sem, Nat.reduceEqDiff, Nat.reduceBEq, Nat.reduceAdd, Nat.reduceSub, Nat.reduceMul, Nat.reduceLT, Nat.reduceLeDiff, ↓reduceIte, reduceCtorEq, Nat.reduceDiv, Nat.reducePow, Nat.reduceMod]
  refine bran_ndec (fun c1 => ?_) (fun c1 => ?_)
  · simp (config := { maxSteps := 1000000 }) (disch := first | omega | (simp only [List.length_set, List.length_append, List.length_cons, List.length_nil, List.length_replicate]; omega)) only [go_sem, Nat.reduceEqDiff, Nat.reduceBEq, Nat.reduceAdd, Nat.reduceSub, Nat.reduceMul, Nat.reduceLT, Nat.reduceLeDiff, ↓reduceIte, reduceCtorEq, Nat.reduceDiv, Nat.reducePow, Nat.reduceMod]
    simp [incG, c1, incD, ints]
  · obtain ⟨v1, v2, v3, v4⟩ := valid_spec c1
    simp only at v1 v2 v3 v4
    have hb := idxs_len
    have c4 : ¬ (0 ≤ v ∧ v ≤ (gn.length : Int) - 1) ∨ (0 ≤ v ∧ v < gn.length) := by omega
    have bad : ¬ (0 ≤ v ∧ v ≤ (gn.length : Int) - 1) → incG ⟨gn, ge⟩ v = ([], [], 6) := fun h => by
      simp only [incG, c1, ne_eq, not_true_eq_false, if_false, if_pos h]
    simp (config := { maxSteps := 1000000 }) (disch := first | omega | (simp only [List.length_set, List.length_append, List.length_cons, List.length_nil, List.length_replicate]; omega)) only [go_sem, Nat.reduceEqDiff, Nat.reduceBEq, Nat.reduceAdd, Nat.reduceSub, Nat.reduceMul, Nat.reduceLT, Nat.reduceLeDiff, ↓reduceIte, reduceCtorEq, Nat.reduceDiv, Nat.reducePow, Nat.reduceMod]
    refine bran_dec (fun c2 => ?_) (fun c2 => ?_)
    · simp (config := { maxSteps := 1000000 }) (disch := first | omega | (simp only [List.length_set, List.length_append, List.length_cons, List.length_nil, List.length_replicate]; omega)) only [go_sem, Nat.reduceEqDiff, Nat.reduceBEq, Nat.reduceAdd, Nat.reduceSub, Nat.reduceMul, Nat.reduceLT, Nat.reduceLeDiff, ↓reduceIte, reduceCtorEq, Nat.reduceDiv, Nat.reducePow, Nat.reduceMod, c2]
      rw [bad (by omega)]
      simp [incD, ints]
    · simp (config := { maxSteps := 1000000 }) (disch := first | omega | (simp only [List.length_set, List.length_append, List.length_cons, List.length_nil, List.length_replicate]; omega)) only [go_sem, Nat.reduceEqDiff, Nat.reduceBEq, Nat.reduceAdd, Nat.reduceSub, Nat.reduceMul, Nat.reduceLT, Nat.reduceLeDiff, ↓reduceIte, reduceCtorEq, Nat.reduceDiv, Nat.reducePow, Nat.reduceMod, c2]
      refine bran_dec (fun c3 => ?_) (fun c3 => ?_)
      · simp (config := { maxSteps := 1000000 }) (disch := first | omega | (simp only [List.length_set, List.length_append, List.length_cons, List.length_nil, List.length_replicate]; omega)) only [go_sem, Nat.reduceEqDiff, Nat.reduceBEq, Nat.reduceAdd, Nat.reduceSub, Nat.reduceMul, Nat.reduceLT, Nat.reduceLeDiff, ↓reduceIte, reduceCtorEq, Nat.reduceDiv, Nat.reducePow, Nat.reduceMod]
        rw [bad (by omega)]
        simp [incD, ints]
      · simp (config := { maxSteps := 1000000 }) (disch := first | omega | (simp only [List.length_set, List.length_append, List.length_cons, List.length_nil, List.length_replicate]; omega)) only [go_sem, Nat.reduceEqDiff, Nat.reduceBEq, Nat.reduceAdd, Nat.reduceSub, Nat.reduceMul, Nat.reduceLT, Nat.reduceLeDiff, ↓reduceIte, reduceCtorEq, Nat.reduceDiv, Nat.reducePow, Nat.reduceMod]
        have hg : incG ⟨gn, ge⟩ v = (idxs (fun i => decide ((gt ge i).o = v)) ge.length, idxs (fun i => decide ((gt ge i).f = v)) ge.length, 0) := by
          simp only [incG, c1, ne_eq, not_true_eq_false, if_false]
          rw [if_neg (by omega)]
        refine W_loop (fun i : Nat => ⟨[(1, D.int IntKind.i64 v), (2, D.pt 0 0), (8, D.sl 1 0 (idxs (fun i => decide ((gt ge i).o = v)) i).length), (9, D.sl 2 0 (idxs (fun i => decide ((gt ge i).f = v)) i).length), (10, D.int IntKind.i64 i)],
          [(0, Ent.box [D.lst 1 (ints gn), D.lst 3 (eds ge)]), (1, Ent.arr 1 (ints (idxs (fun i => decide ((gt ge i).o = v)) i))), (2, Ent.arr 1 (ints (idxs (fun i => decide ((gt ge i).f = v)) i)))], 3⟩) (fun i => i ≤ ge.length) (fun i => ge.length - i) 0 ?_ ?_ ?_
        · simp (config := { maxSteps := 1000000 }) (disch := first | omega | (simp only [List.length_set, List.length_append, List.length_cons, List.length_nil, List.length_replicate]; omega)) only [go_sem, Nat.reduceEqDiff, Nat.reduceBEq, Nat.reduceAdd, Nat.reduceSub, Nat.reduceMul, Nat.reduceLT, Nat.reduceLeDiff, ↓reduceIte, reduceCtorEq, Nat.reduceDiv, Nat.reducePow, Nat.reduceMod]
          rfl
        · omega
        · intro i hi
          have hb1 := hb (fun i => decide ((gt ge i).o = v)) i
          have hb2 := hb (fun i => decide ((gt ge i).f = v)) i
          simp (config := { maxSteps := 1000000 }) (disch := first | omega | (simp only [List.length_set, List.length_append, List.length_cons, List.length_nil, List.length_replicate]; omega)) only [go_sem, Nat.reduceEqDiff, Nat.reduceBEq, Nat.reduceAdd, Nat.reduceSub, Nat.reduceMul, Nat.reduceLT, Nat.reduceLeDiff, ↓reduceIte, reduceCtorEq, Nat.reduceDiv, Nat.reducePow, Nat.reduceMod, c_r05_Incident_b14]
          refine bran_dec (fun c => ?_) (fun c => ?_)
          · simp (config := { maxSteps := 1000000 }) (disch := first | omega | (simp only [List.length_set, List.length_append, List.length_cons, List.length_nil, List.length_replicate]; omega)) only [go_sem, Nat.reduceEqDiff, Nat.reduceBEq, Nat.reduceAdd, Nat.reduceSub, Nat.reduceMul, Nat.reduceLT, Nat.reduceLeDiff, ↓reduceIte, reduceCtorEq, Nat.reduceDiv, Nat.reducePow, Nat.reduceMod]
            refine bran_dec (fun d => ?_) (fun d => ?_)
            · simp (config := { maxSteps := 1000000 }) (disch := first | omega | (simp only [List.length_set, List.length_append, List.length_cons, List.length_nil, List.length_replicate]; omega)) only [go_sem, Nat.reduceEqDiff, Nat.reduceBEq, Nat.reduceAdd, Nat.reduceSub, Nat.reduceMul, Nat.reduceLT, Nat.reduceLeDiff, ↓reduceIte, reduceCtorEq, Nat.reduceDiv, Nat.reducePow, Nat.reduceMod]
              refine bran_dec (fun f => ?_) (fun f => ?_)
              · simp (config := { maxSteps := 1000000 }) (disch := first | omega | (simp only [List.length_set, List.length_append, List.length_cons, List.length_nil, List.length_replicate]; omega)) only [go_sem, Nat.reduceEqDiff, Nat.reduceBEq, Nat.reduceAdd, Nat.reduceSub, Nat.reduceMul, Nat.reduceLT, Nat.reduceLeDiff, ↓reduceIte, reduceCtorEq, Nat.reduceDiv, Nat.reducePow, Nat.reduceMod]
                exact ⟨i + 1, by simp [idxs, d, f], by omega, by omega⟩
              · simp (config := { maxSteps := 1000000 }) (disch := first | omega | (simp only [List.length_set, List.length_append, List.length_cons, List.length_nil, List.length_replicate]; omega)) only [go_sem, Nat.reduceEqDiff, Nat.reduceBEq, Nat.reduceAdd, Nat.reduceSub, Nat.reduceMul, Nat.reduceLT, Nat.reduceLeDiff, ↓reduceIte, reduceCtorEq, Nat.reduceDiv, Nat.reducePow, Nat.reduceMod]
                exact ⟨i + 1, by simp [idxs, d, f], by omega, by omega⟩
            · simp (config := { maxSteps := 1000000 }) (disch := first | omega | (simp only [List.length_set, List.length_append, List.length_cons, List.length_nil, List.length_replicate]; omega)) only [go_sem, Nat.reduceEqDiff, Nat.reduceBEq, Nat.reduceAdd, Nat.reduceSub, Nat.reduceMul, Nat.reduceLT, Nat.reduceLeDiff, ↓reduceIte, reduceCtorEq, Nat.reduceDiv, Nat.reducePow, Nat.reduceMod]
              refine bran_dec (fun f => ?_) (fun f => ?_)
              · simp (config := { maxSteps := 1000000 }) (disch := first | omega | (simp only [List.length_set, List.length_append, List.length_cons, List.length_nil, List.length_replicate]; omega)) only [go_sem, Nat.reduceEqDiff, Nat.reduceBEq, Nat.reduceAdd, Nat.reduceSub, Nat.reduceMul, Nat.reduceLT, Nat.reduceLeDiff, ↓reduceIte, reduceCtorEq, Nat.reduceDiv, Nat.reducePow, Nat.reduceMod]
                exact ⟨i + 1, by simp [idxs, d, f], by omega, by omega⟩
              · simp (config := { maxSteps := 1000000 }) (disch := first | omega | (simp only [List.length_set, List.length_append, List.length_cons, List.length_nil, List.length_replicate]; omega)) only [go_sem, Nat.reduceEqDiff, Nat.reduceBEq, Nat.reduceAdd, Nat.reduceSub, Nat.reduceMul, Nat.reduceLT, Nat.reduceLeDiff, ↓reduceIte, reduceCtorEq, Nat.reduceDiv, Nat.reducePow, Nat.reduceMod]
                exact ⟨i + 1, by simp [idxs, d, f], by omega, by omega⟩
          · simp (config := { maxSteps := 1000000 }) (disch := first | omega | (simp only [List.length_set, List.length_append, List.length_cons, List.length_nil, List.length_replicate]; omega)) only [go_sem, Nat.reduceEqDiff, Nat.reduceBEq, Nat.reduceAdd, Nat.reduceSub, Nat.reduceMul, Nat.reduceLT, Nat.reduceLeDiff, ↓reduceIte, reduceCtorEq, Nat.reduceDiv, Nat.reducePow, Nat.reduceMod]
            obtain rfl : i = ge.length := by omega
            simp [hg, incD]
theorem w_r05_Components (hv : K_r05_Valid P F) (hn : K_r05_Numbers P F) (g : G) : W P (c_r05_Components F) (Done [.t 2, .t 3] [] (.tup [.arr 2 (pts (compsG g).1), .int .i64 (compsG g).2]) []) (init [gD g]) := by
  refine W_of ?_
  obtain ⟨gn, ge⟩ := g
  simp (config := { maxSteps := 1000000 }) (disch := first | omega | (simp only [List.length_set, List.length_append, List.length_cons, List.length_nil, List.length_replicate]; omega)) only [go_sem, Nat.reduceEqDiff, Nat.reduceBEq, Nat.reduceAdd, Nat.reduceSub, Nat.reduceMul, Nat.reduceLT, Nat.reduceLeDiff, ↓reduceIte, reduceCtorEq, Nat.reduceDiv, Nat.reducePow, Nat.reduceMod, gD]
  refine call_by (hv ⟨gn, ge⟩) ?_
  simp (config := { maxSteps := 1000000 }) (disch := first | omega | (simp only [List.length_set, List.length_append, List.length_cons, List.length_nil, List.length_replicate]; omega)) only [go_sem, Nat.reduceEqDiff, Nat.reduceBEq, Nat.reduceAdd, Nat.reduceSub, Nat.reduceMul, Nat.reduceLT, Nat.reduceLeDiff, ↓reduceIte, reduceCtorEq, Nat.reduceDiv, Nat.reducePow, Nat.reduceMod]
  refine bran_ndec (fun c1 => ?_) (fun c1 => ?_)
  · simp (config := { maxSteps := 1000000 }) (disch := first | omega | (simp only [List.length_set, List.length_append, List.length_cons, List.length_nil, List.length_replicate]; omega)) only [go_sem, Nat.reduceEqDiff, Nat.reduceBEq, Nat.reduceAdd, Nat.reduceSub, Nat.reduceMul, Nat.reduceLT, Nat.reduceLeDiff, ↓reduceIte, reduceCtorEq, Nat.reduceDiv, Nat.reducePow, Nat.reduceMod]
    simp [compsG, c1, pts]
  · obtain ⟨v1, v2, v3, v4⟩ := valid_spec c1
    simp only at v1 v2 v3 v4
    have hc : compsG ⟨gn, ge⟩ = (partsC ge (limC ge (nums 0 gn.length)) gn.length, 0) := by simp [compsG, c1]
    rw [hc]
    have e1 := nums_len 0 gn.length
    have hn0 : NN0 (nums 0 gn.length) := fun i => by
      by_cases h : i < gn.length
      · rw [gt_nat (by rw [e1]; exact h)]; simp [nums]
      · simp [gt, e1, h]
    have hen : Ends gn.length ge := fun x hx => by have := fits_spec (v4 x hx); omega
    have hend := itC_end hn0 (es := ge) (by rw [e1]; exact hen)
    rw [e1] at hend
    rw [← hend]
    have hil : ∀ k, (itC ge (nums 0 gn.length) k).length = gn.length := fun k => by rw [itC_len, e1]
    simp (config := { maxSteps := 1000000 }) (disch := first | omega | (simp only [List.length_set, List.length_append, List.length_cons, List.length_nil, List.length_replicate]; omega)) only [go_sem, Nat.reduceEqDiff, Nat.reduceBEq, Nat.reduceAdd, Nat.reduceSub, Nat.reduceMul, Nat.reduceLT, Nat.reduceLeDiff, ↓reduceIte, reduceCtorEq, Nat.reduceDiv, Nat.reducePow, Nat.reduceMod]
    refine call_by (hn _ _ (by omega) (by omega) (by omega)) ?_
    simp (config := { maxSteps := 1000000 }) (disch := first | omega | (simp only [List.length_set, List.length_append, List.length_cons, List.length_nil, List.length_replicate]; omega)) only [go_sem, Nat.reduceEqDiff, Nat.reduceBEq, Nat.reduceAdd, Nat.reduceSub, Nat.reduceMul, Nat.reduceLT, Nat.reduceLeDiff, ↓reduceIte, reduceCtorEq, Nat.reduceDiv, Nat.reducePow, Nat.reduceMod, e1]
    refine W_loop (fun i : Nat => ⟨[(1, .pt 0 0), (5, .sl 1 0 gn.length), (6, .int .i64 i)], [(0, .box [.lst 1 (ints gn), .lst 3 (eds ge)]), (1, .arr 1 (ints (itC ge (nums 0 gn.length) i)))], 2⟩)
      (fun i => i ≤ gn.length) (fun i => gn.length - i) 0 ?_ ?_ ?_
    · simp (config := { maxSteps := 1000000 }) (disch := first | omega | (simp only [List.length_set, List.length_append, List.length_cons, List.length_nil, List.length_replicate]; omega)) only [go_sem, Nat.reduceEqDiff, Nat.reduceBEq, Nat.reduceAdd, Nat.reduceSub, Nat.reduceMul, Nat.reduceLT, Nat.reduceLeDiff, ↓reduceIte, reduceCtorEq, Nat.reduceDiv, Nat.reducePow, Nat.reduceMod, e1, itC]
      rfl
    · omega
    · intro i hi
      have hli := hil i
      simp (config := { maxSteps := 1000000 }) (disch := first | omega | (simp only [List.length_set, List.length_append, List.length_cons, List.length_nil, List.length_replicate]; omega)) only [go_sem, Nat.reduceEqDiff, Nat.reduceBEq, Nat.reduceAdd, Nat.reduceSub, Nat.reduceMul, Nat.reduceLT, Nat.reduceLeDiff, ↓reduceIte, reduceCtorEq, Nat.reduceDiv, Nat.reducePow, Nat.reduceMod, c_r05_Components_b15]
      refine bran_dec (fun c => ?_) (fun c => ?_)
      · simp (config := { maxSteps := 1000000 }) (disch := first | omega | (simp only [List.length_set, List.length_append, List.length_cons, List.length_nil, List.length_replicate]; omega)) only [go_sem, Nat.reduceEqDiff, Nat.reduceBEq, Nat.reduceAdd, Nat.reduceSub, Nat.reduceMul, Nat.reduceLT, Nat.reduceLeDiff, ↓reduceIte, reduceCtorEq, Nat.reduceDiv, Nat.reducePow, Nat.reduceMod, hli]
        refine W_loop (fun j : Nat => ⟨[(1, .pt 0 0), (5, .sl 1 0 gn.length), (6, .int .i64 i), (7, .int .i64 j)], [(0, .box [.lst 1 (ints gn), .lst 3 (eds ge)]), (1, .arr 1 (ints ((ge.take j).foldl stepC (itC ge (nums 0 gn.length) i))))], 2⟩)
          (fun j => j ≤ ge.length) (fun j => ge.length - j) 0 ?_ ?_ ?_
        · simp (config := { maxSteps := 1000000 }) (disch := first | omega | (simp only [List.length_set, List.length_append, List.length_cons, List.length_nil, List.length_replicate]; omega)) only [go_sem, Nat.reduceEqDiff, Nat.reduceBEq, Nat.reduceAdd, Nat.reduceSub, Nat.reduceMul, Nat.reduceLT, Nat.reduceLeDiff, ↓reduceIte, reduceCtorEq, Nat.reduceDiv, Nat.reducePow, Nat.reduceMod, hli]
          rfl
        · omega
        · intro j hj
          have hlj : ((ge.take j).foldl stepC (itC ge (nums 0 gn.length) i)).length = gn.length := by rw [foldC_len, hli]
          simp (config := { maxSteps := 1000000 }) (disch := first | omega | (simp only [List.length_set, List.length_append, List.length_cons, List.length_nil, List.length_replicate]; omega)) only [go_sem, Nat.reduceEqDiff, Nat.reduceBEq, Nat.reduceAdd, Nat.reduceSub, Nat.reduceMul, Nat.reduceLT, Nat.reduceLeDiff, ↓reduceIte, reduceCtorEq, Nat.reduceDiv, Nat.reducePow, Nat.reduceMod, c_r05_Components_b13]
          refine bran_dec (fun d => ?_) (fun d => ?_)
          · have hf := fits_spec (v4 _ (gt_mem (by omega) d))
            have hst := take_gt (l := ge) (i := j) (by omega)
            have hfold : (ge.take (j + 1)).foldl stepC (itC ge (nums 0 gn.length) i) = stepC ((ge.take j).foldl stepC (itC ge (nums 0 gn.length) i)) (gt ge j) := by rw [hst, List.foldl_append]; rfl
            have hmn : ∀ a b : Int, (if b < a then b else a) = mn2 a b := fun _ _ => rfl
            simp (config := { maxSteps := 1000000 }) (disch := first | omega | (simp only [List.length_set, List.length_append, List.length_cons, List.length_nil, List.length_replicate]; omega)) only [go_sem, Nat.reduceEqDiff, Nat.reduceBEq, Nat.reduceAdd, Nat.reduceSub, Nat.reduceMul, Nat.reduceLT, Nat.reduceLeDiff, ↓reduceIte, reduceCtorEq, Nat.reduceDiv, Nat.reducePow, Nat.reduceMod, hlj, hmn]
            exact ⟨j + 1, by rw [hfold]; simp [stepC], by omega, by omega⟩
          · obtain rfl : j = ge.length := by omega
            simp (config := { maxSteps := 1000000 }) (disch := first | omega | (simp only [List.length_set, List.length_append, List.length_cons, List.length_nil, List.length_replicate]; omega)) only [go_sem, Nat.reduceEqDiff, Nat.reduceBEq, Nat.reduceAdd, Nat.reduceSub, Nat.reduceMul, Nat.reduceLT, Nat.reduceLeDiff, ↓reduceIte, reduceCtorEq, Nat.reduceDiv, Nat.reducePow, Nat.reduceMod, hlj]
            exact ⟨i + 1, by simp [itC, passC], by omega, by omega⟩
      · obtain rfl : i = gn.length := by omega
        have q1 := hil gn.length
        generalize itC ge (nums 0 gn.length) gn.length = l at q1
        have hb := idxs_len
        have hpl := partsC_len ge l
        simp (config := { maxSteps := 1000000 }) (disch := first | omega | (simp only [List.length_set, List.length_append, List.length_cons, List.length_nil, List.length_replicate]; omega)) only [go_sem, Nat.reduceEqDiff, Nat.reduceBEq, Nat.reduceAdd, Nat.reduceSub, Nat.reduceMul, Nat.reduceLT, Nat.reduceLeDiff, ↓reduceIte, reduceCtorEq, Nat.reduceDiv, Nat.reducePow, Nat.reduceMod, q1]
        refine W_loop (fun i : Nat => ⟨[(1, .pt 0 0), (5, .sl 1 0 gn.length), (11, .sl 2 0 (partsC ge l i).length), (12, .int .i64 i)],
          [(0, .box [.lst 1 (ints gn), .lst 3 (eds ge)]), (1, .arr 1 (ints l)), (2, .arr 2 (pts (partsC ge l i)))], 3⟩) (fun i => i ≤ gn.length) (fun i => gn.length - i) 0 ?_ ?_ ?_
        · simp (config := { maxSteps := 1000000 }) (disch := first | omega | (simp only [List.length_set, List.length_append, List.length_cons, List.length_nil, List.length_replicate]; omega)) only [go_sem, Nat.reduceEqDiff, Nat.reduceBEq, Nat.reduceAdd, Nat.reduceSub, Nat.reduceMul, Nat.reduceLT, Nat.reduceLeDiff, ↓reduceIte, reduceCtorEq, Nat.reduceDiv, Nat.reducePow, Nat.reduceMod, q1]
          rfl
        · omega
        · intro i hi
          have hpi := hpl i
          simp (config := { maxSteps := 1000000 }) (disch := first | omega | (simp only [List.length_set, List.length_append, List.length_cons, List.length_nil, List.length_replicate]; omega)) only [go_sem, Nat.reduceEqDiff, Nat.reduceBEq, Nat.reduceAdd, Nat.reduceSub, Nat.reduceMul, Nat.reduceLT, Nat.reduceLeDiff, ↓reduceIte, reduceCtorEq, Nat.reduceDiv, Nat.reducePow, Nat.reduceMod, c_r05_Components_b35]
          refine bran_dec (fun c => ?_) (fun c => ?_)
          · simp (config := { maxSteps := 1000000 }) (disch := first | omega | (simp only [List.length_set, List.length_append, List.length_cons, List.length_nil, List.length_replicate]; omega)) only [go_sem, Nat.reduceEqDiff, Nat.reduceBEq, Nat.reduceAdd, Nat.reduceSub, Nat.reduceMul, Nat.reduceLT, Nat.reduceLeDiff, ↓reduceIte, reduceCtorEq, Nat.reduceDiv, Nat.reducePow, Nat.reduceMod, q1]
            refine bran_ndec (fun d => ?_) (fun d => ?_)
            · simp (config := { maxSteps := 1000000 }) (disch := first | omega | (simp only [List.length_set, List.length_append, List.length_cons, List.length_nil, List.length_replicate]; omega)) only [go_sem, Nat.reduceEqDiff, Nat.reduceBEq, Nat.reduceAdd, Nat.reduceSub, Nat.reduceMul, Nat.reduceLT, Nat.reduceLeDiff, ↓reduceIte, reduceCtorEq, Nat.reduceDiv, Nat.reducePow, Nat.reduceMod, q1]
              exact ⟨i + 1, by simp [partsC, d], by omega, by omega⟩
            · simp (config := { maxSteps := 1000000 }) (disch := first | omega | (simp only [List.length_set, List.length_append, List.length_cons, List.length_nil, List.length_replicate]; omega)) only [go_sem, Nat.reduceEqDiff, Nat.reduceBEq, Nat.reduceAdd, Nat.reduceSub, Nat.reduceMul, Nat.reduceLT, Nat.reduceLeDiff, ↓reduceIte, reduceCtorEq, Nat.reduceDiv, Nat.reducePow, Nat.reduceMod, q1]
              refine W_loop (fun m : Nat => ⟨[(1, D.pt 0 0), (5, D.sl 1 0 gn.length), (11, D.sl 2 0 (partsC ge l i).length), (12, D.int IntKind.i64 i), (13, D.pt 5 0), (14, D.int IntKind.i64 m)],
                [(0, Ent.box [D.lst 1 (ints gn), D.lst 3 (eds ge)]), (1, Ent.arr 1 (ints l)), (2, Ent.arr 2 (pts (partsC ge l i))), (3, Ent.arr 1 (ints (idxs (fun n => decide (gt l n = (i : Int))) m))), (4, Ent.arr 1 []),
                  (5, Ent.box [D.sl 3 0 (idxs (fun n => decide (gt l n = (i : Int))) m).length, D.sl 4 0 0])], 6⟩) (fun m => m ≤ gn.length) (fun m => gn.length - m) 0 ?_ ?_ ?_
              · simp (config := { maxSteps := 1000000 }) (disch := first | omega | (simp only [List.length_set, List.length_append, List.length_cons, List.length_nil, List.length_replicate]; omega)) only [go_sem, Nat.reduceEqDiff, Nat.reduceBEq, Nat.reduceAdd, Nat.reduceSub, Nat.reduceMul, Nat.reduceLT, Nat.reduceLeDiff, ↓reduceIte, reduceCtorEq, Nat.reduceDiv, Nat.reducePow, Nat.reduceMod, q1, idxs, ints_nil]
                rfl
              · omega
              · intro m hm
                have hbm := hb (fun n => decide (gt l n = (i : Int))) m
                simp (config := { maxSteps := 1000000 }) (disch := first | omega | (simp only [List.length_set, List.length_append, List.length_cons, List.length_nil, List.length_replicate]; omega)) only [go_sem, Nat.reduceEqDiff, Nat.reduceBEq, Nat.reduceAdd, Nat.reduceSub, Nat.reduceMul, Nat.reduceLT, Nat.reduceLeDiff, ↓reduceIte, reduceCtorEq, Nat.reduceDiv, Nat.reducePow, Nat.reduceMod, c_r05_Components_b26]
                refine bran_dec (fun e => ?_) (fun e => ?_)
                · simp (config := { maxSteps := 1000000 }) (disch := first | omega | (simp only [List.length_set, List.length_append, List.length_cons, List.length_nil, List.length_replicate]; omega)) only [go_sem, Nat.reduceEqDiff, Nat.reduceBEq, Nat.reduceAdd, Nat.reduceSub, Nat.reduceMul, Nat.reduceLT, Nat.reduceLeDiff, ↓reduceIte, reduceCtorEq, Nat.reduceDiv, Nat.reducePow, Nat.reduceMod, q1]
                  refine bran_dec (fun f => ?_) (fun f => ?_)
                  · simp (config := { maxSteps := 1000000 }) (disch := first | omega | (simp only [List.length_set, List.length_append, List.length_cons, List.length_nil, List.length_replicate]; omega)) only [go_sem, Nat.reduceEqDiff, Nat.reduceBEq, Nat.reduceAdd, Nat.reduceSub, Nat.reduceMul, Nat.reduceLT, Nat.reduceLeDiff, ↓reduceIte, reduceCtorEq, Nat.reduceDiv, Nat.reducePow, Nat.reduceMod, q1]
                    exact ⟨m + 1, by simp [idxs, f], by omega, by omega⟩
                  · simp (config := { maxSteps := 1000000 }) (disch := first | omega | (simp only [List.length_set, List.length_append, List.length_cons, List.length_nil, List.length_replicate]; omega)) only [go_sem, Nat.reduceEqDiff, Nat.reduceBEq, Nat.reduceAdd, Nat.reduceSub, Nat.reduceMul, Nat.reduceLT, Nat.reduceLeDiff, ↓reduceIte, reduceCtorEq, Nat.reduceDiv, Nat.reducePow, Nat.reduceMod, q1]
                    exact ⟨m + 1, by simp [idxs, f], by omega, by omega⟩
                · obtain rfl : m = gn.length := by omega
                  simp (config := { maxSteps := 1000000 }) (disch := first | omega | (simp only [List.length_set, List.length_append, List.length_cons, List.length_nil, List.length_replicate]; omega)) only [go_sem, Nat.reduceEqDiff, Nat.reduceBEq, Nat.reduceAdd, Nat.reduceSub, Nat.reduceMul, Nat.reduceLT, Nat.reduceLeDiff, ↓reduceIte, reduceCtorEq, Nat.reduceDiv, Nat.reducePow, Nat.reduceMod, q1]
                  refine W_loop (fun k : Nat => ⟨[(1, D.pt 0 0), (5, D.sl 1 0 gn.length), (11, D.sl 2 0 (partsC ge l i).length), (12, D.int IntKind.i64 i), (13, D.pt 5 0), (15, D.int IntKind.i64 k)],
                    [(0, Ent.box [D.lst 1 (ints gn), D.lst 3 (eds ge)]), (1, Ent.arr 1 (ints l)), (2, Ent.arr 2 (pts (partsC ge l i))), (3, Ent.arr 1 (ints (idxs (fun n => decide (gt l n = (i : Int))) gn.length))),
                      (4, Ent.arr 1 (ints (idxs (fun m => decide (gt l (gt ge m).f = (i : Int))) k))),
                      (5, Ent.box [D.sl 3 0 (idxs (fun n => decide (gt l n = (i : Int))) gn.length).length, D.sl 4 0 (idxs (fun m => decide (gt l (gt ge m).f = (i : Int))) k).length])], 6⟩) (fun k => k ≤ ge.length) (fun k => ge.length - k) 0 ?_ ?_ ?_
                  · simp (config := { maxSteps := 1000000 }) (disch := first | omega | (simp only [List.length_set, List.length_append, List.length_cons, List.length_nil, List.length_replicate]; omega)) only [go_sem, Nat.reduceEqDiff, Nat.reduceBEq, Nat.reduceAdd, Nat.reduceSub, Nat.reduceMul, Nat.reduceLT, Nat.reduceLeDiff, ↓reduceIte, reduceCtorEq, Nat.reduceDiv, Nat.reducePow, Nat.reduceMod, q1, idxs, ints_nil]
                    rfl
                  · omega
                  · intro k hk
                    have hbk := hb (fun m => decide (gt l (gt ge m).f = (i : Int))) k
                    simp (config := { maxSteps := 1000000 }) (disch := first | omega | (simp only [List.length_set, List.length_append, List.length_cons, List.length_nil, List.length_replicate]; omega)) only [go_sem, Nat.reduceEqDiff, Nat.reduceBEq, Nat.reduceAdd, Nat.reduceSub, Nat.reduceMul, Nat.reduceLT, Nat.reduceLeDiff, ↓reduceIte, reduceCtorEq, Nat.reduceDiv, Nat.reducePow, Nat.reduceMod, c_r05_Components_b32]
                    refine bran_dec (fun e => ?_) (fun e => ?_)
                    · have hf := fits_spec (v4 _ (gt_mem (by omega) e))
                      simp (config := { maxSteps := 1000000 }) (disch := first | omega | (simp only [List.length_set, List.length_append, List.length_cons, List.length_nil, List.length_replicate]; omega)) only [go_sem, Nat.reduceEqDiff, Nat.reduceBEq, Nat.reduceAdd, Nat.reduceSub, Nat.reduceMul, Nat.reduceLT, Nat.reduceLeDiff, ↓reduceIte, reduceCtorEq, Nat.reduceDiv, Nat.reducePow, Nat.reduceMod, q1]
                      refine bran_dec (fun f => ?_) (fun f => ?_)
                      · simp (config := { maxSteps := 1000000 }) (disch := first | omega | (simp only [List.length_set, List.length_append, List.length_cons, List.length_nil, List.length_replicate]; omega)) only [go_sem, Nat.reduceEqDiff, Nat.reduceBEq, Nat.reduceAdd, Nat.reduceSub, Nat.reduceMul, Nat.reduceLT, Nat.reduceLeDiff, ↓reduceIte, reduceCtorEq, Nat.reduceDiv, Nat.reducePow, Nat.reduceMod, q1]
                        exact ⟨k + 1, by simp [idxs, f], by omega, by omega⟩
                      · simp (config := { maxSteps := 1000000 }) (disch := first | omega | (simp only [List.length_set, List.length_append, List.length_cons, List.length_nil, List.length_replicate]; omega)) only [go_sem, Nat.reduceEqDiff, Nat.reduceBEq, Nat.reduceAdd, Nat.reduceSub, Nat.reduceMul, Nat.reduceLT, Nat.reduceLeDiff, ↓reduceIte, reduceCtorEq, Nat.reduceDiv, Nat.reducePow, Nat.reduceMod, q1]
                        exact ⟨k + 1, by simp [idxs, f], by omega, by omega⟩
                    · obtain rfl : k = ge.length := by omega
                      simp (config := { maxSteps := 1000000 }) (disch := first | omega | (simp only [List.length_set, List.length_append, List.length_cons, List.length_nil, List.length_replicate]; omega)) only [go_sem, Nat.reduceEqDiff, Nat.reduceBEq, Nat.reduceAdd, Nat.reduceSub, Nat.reduceMul, Nat.reduceLT, Nat.reduceLeDiff, ↓reduceIte, reduceCtorEq, Nat.reduceDiv, Nat.reducePow, Nat.reduceMod, q1]
                      exact ⟨i + 1, by simp [partsC, d, partC, q1], by omega, by omega⟩
          · obtain rfl : i = gn.length := by omega
            simp (config := { maxSteps := 1000000 }) (disch := first | omega | (simp only [List.length_set, List.length_append, List.length_cons, List.length_nil, List.length_replicate]; omega)) only [go_sem, Nat.reduceEqDiff, Nat.reduceBEq, Nat.reduceAdd, Nat.reduceSub, Nat.reduceMul, Nat.reduceLT, Nat.reduceLeDiff, ↓reduceIte, reduceCtorEq, Nat.reduceDiv, Nat.reducePow, Nat.reduceMod, q1]
theorem w_r05_SameParts (hs : K_r05_SameInts P F) (a b : List Mo) (h1 : a.length ≤ maxL) (h2 : Small a) : W P (c_r05_SameParts F) (Done [.t 4] [] (.bool (decide (a = b))) []) (init [.lst 2 (pts a), .lst 2 (pts b)]) := by
  refine W_of ?_
  unfold maxL at h1
  simp (config := { maxSteps := 1000000 }) (disch := first | omega | (simp only [List.length_set, List.length_append, List.length_cons, List.length_nil, List.length_replicate]; omega)) only [go_sem, Nat.reduceEqDiff, Nat.reduceBEq, Nat.reduceAdd, Nat.reduceSub, Nat.reduceMul, Nat.reduceLT, Nat.reduceLeDiff, ↓reduceIte, reduceCtorEq, Nat.reduceDiv, Nat.reducePow, Nat.reduceMod]
  refine bran_ndec (fun h => ?_) (fun h => ?_)
  · simp (config := { maxSteps := 1000000 }) (disch := first | omega | (simp only [List.length_set, List.length_append, List.length_cons, List.length_nil, List.length_replicate]; omega)) only [go_sem, Nat.reduceEqDiff, Nat.reduceBEq, Nat.reduceAdd, Nat.reduceSub, Nat.reduceMul, Nat.reduceLT, Nat.reduceLeDiff, ↓reduceIte, reduceCtorEq, Nat.reduceDiv, Nat.reducePow, Nat.reduceMod]
    have : a ≠ b := fun e => h (by rw [e])
    simp [this]
  · have h' : a.length = b.length := by omega
    simp (config := { maxSteps := 1000000 }) (disch := first | omega | (simp only [List.length_set, List.length_append, List.length_cons, List.length_nil, List.length_replicate]; omega)) only [go_sem, Nat.reduceEqDiff, Nat.reduceBEq, Nat.reduceAdd, Nat.reduceSub, Nat.reduceMul, Nat.reduceLT, Nat.reduceLeDiff, ↓reduceIte, reduceCtorEq, Nat.reduceDiv, Nat.reducePow, Nat.reduceMod]
    refine W_loop (fun i : Nat => ⟨[(0, .lst 2 (pts a)), (1, .lst 2 (pts b)), (5, .int .i64 i)], [], 0⟩) (fun i => i ≤ a.length ∧ a.take i = b.take i) (fun i => a.length - i) 0 ?_ ?_ ?_
    · simp (config := { maxSteps := 1000000 }) (disch := first | omega | (simp only [List.length_set, List.length_append, List.length_cons, List.length_nil, List.length_replicate]; omega)) only [go_sem, Nat.reduceEqDiff, Nat.reduceBEq, Nat.reduceAdd, Nat.reduceSub, Nat.reduceMul, Nat.reduceLT, Nat.reduceLeDiff, ↓reduceIte, reduceCtorEq, Nat.reduceDiv, Nat.reducePow, Nat.reduceMod]
      rfl
    · simp
    · intro i hi
      simp (config := { maxSteps := 1000000 }) (disch := first | omega | (simp only [List.length_set, List.length_append, List.length_cons, List.length_nil, List.length_replicate]; omega)) only [go_sem, Nat.reduceEqDiff, Nat.reduceBEq, Nat.reduceAdd, Nat.reduceSub, Nat.reduceMul, Nat.reduceLT, Nat.reduceLeDiff, ↓reduceIte, reduceCtorEq, Nat.reduceDiv, Nat.reducePow, Nat.reduceMod, c_r05_SameParts_b8]
      refine bran_dec (fun c => ?_) (fun c => ?_)
      · simp (config := { maxSteps := 1000000 }) (disch := first | omega | (simp only [List.length_set, List.length_append, List.length_cons, List.length_nil, List.length_replicate]; omega)) only [go_sem, Nat.reduceEqDiff, Nat.reduceBEq, Nat.reduceAdd, Nat.reduceSub, Nat.reduceMul, Nat.reduceLT, Nat.reduceLeDiff, ↓reduceIte, reduceCtorEq, Nat.reduceDiv, Nat.reducePow, Nat.reduceMod]
        have hsm := h2 (gt a i) (gt_mem (by omega) (by omega))
        have hmo : gt a (i : Int) = gt b (i : Int) ↔ (gt a (i : Int)).n = (gt b (i : Int)).n ∧ (gt a (i : Int)).e = (gt b (i : Int)).e := by
          generalize gt a (i : Int) = x
          generalize gt b (i : Int) = y
          cases x; cases y; simp
        refine call_by (hs _ _ hsm.1) ?_
        simp (config := { maxSteps := 1000000 }) (disch := first | omega | (simp only [List.length_set, List.length_append, List.length_cons, List.length_nil, List.length_replicate]; omega)) only [go_sem, Nat.reduceEqDiff, Nat.reduceBEq, Nat.reduceAdd, Nat.reduceSub, Nat.reduceMul, Nat.reduceLT, Nat.reduceLeDiff, ↓reduceIte, reduceCtorEq, Nat.reduceDiv, Nat.reducePow, Nat.reduceMod]
        refine bran_ndec (fun d => ?_) (fun d => ?_)
        · simp (config := { maxSteps := 1000000 }) (disch := first | omega | (simp only [List.length_set, List.length_append, List.length_cons, List.length_nil, List.length_replicate]; omega)) only [go_sem, Nat.reduceEqDiff, Nat.reduceBEq, Nat.reduceAdd, Nat.reduceSub, Nat.reduceMul, Nat.reduceLT, Nat.reduceLeDiff, ↓reduceIte, reduceCtorEq, Nat.reduceDiv, Nat.reducePow, Nat.reduceMod, decide_eq_false d]
          have : a ≠ b := fun e => d (by rw [e])
          simp [this]
        · simp (config := { maxSteps := 1000000 }) (disch := first | omega | (simp only [List.length_set, List.length_append, List.length_cons, List.length_nil, List.length_replicate]; omega)) only [go_sem, Nat.reduceEqDiff, Nat.reduceBEq, Nat.reduceAdd, Nat.reduceSub, Nat.reduceMul, Nat.reduceLT, Nat.reduceLeDiff, ↓reduceIte, reduceCtorEq, Nat.reduceDiv, Nat.reducePow, Nat.reduceMod, decide_eq_true d]
          refine call_by (hs _ _ hsm.2) ?_
          simp (config := { maxSteps := 1000000 }) (disch := first | omega | (simp only [List.length_set, List.length_append, List.length_cons, List.length_nil, List.length_replicate]; omega)) only [go_sem, Nat.reduceEqDiff, Nat.reduceBEq, Nat.reduceAdd, Nat.reduceSub, Nat.reduceMul, Nat.reduceLT, Nat.reduceLeDiff, ↓reduceIte, reduceCtorEq, Nat.reduceDiv, Nat.reducePow, Nat.reduceMod]
          refine bran_ndec (fun f => ?_) (fun f => ?_)
          · simp (config := { maxSteps := 1000000 }) (disch := first | omega | (simp only [List.length_set, List.length_append, List.length_cons, List.length_nil, List.length_replicate]; omega)) only [go_sem, Nat.reduceEqDiff, Nat.reduceBEq, Nat.reduceAdd, Nat.reduceSub, Nat.reduceMul, Nat.reduceLT, Nat.reduceLeDiff, ↓reduceIte, reduceCtorEq, Nat.reduceDiv, Nat.reducePow, Nat.reduceMod]
            have : a ≠ b := fun e => f (by rw [e])
            simp [this]
          · simp (config := { maxSteps := 1000000 }) (disch := first | omega | (simp only [List.length_set, List.length_append, List.length_cons, List.length_nil, List.length_replicate]; omega)) only [go_sem, Nat.reduceEqDiff, Nat.reduceBEq, Nat.reduceAdd, Nat.reduceSub, Nat.reduceMul, Nat.reduceLT, Nat.reduceLeDiff, ↓reduceIte, reduceCtorEq, Nat.reduceDiv, Nat.reducePow, Nat.reduceMod]
            exact ⟨i + 1, by simp, ⟨by omega, by rw [take_gt (by omega), take_gt (by omega), hi.2, hmo.2 ⟨d, f⟩]⟩, by omega⟩
      · simp (config := { maxSteps := 1000000 }) (disch := first | omega | (simp only [List.length_set, List.length_append, List.length_cons, List.length_nil, List.length_replicate]; omega)) only [go_sem, Nat.reduceEqDiff, Nat.reduceBEq, Nat.reduceAdd, Nat.reduceSub, Nat.reduceMul, Nat.reduceLT, Nat.reduceLeDiff, ↓reduceIte, reduceCtorEq, Nat.reduceDiv, Nat.reducePow, Nat.reduceMod]
        obtain rfl : i = a.length := by omega
        have := hi.2
        rw [List.take_length, List.take_of_length_le (by omega)] at this
        simp [this]
theorem small_parts (es : List E) (l : List Int) (h1 : es.length ≤ maxL) (h2 : l.length ≤ maxL) : ∀ i, Small (partsC es l i)
  | 0 => fun m hm => by simp [partsC] at hm
  | i + 1 => by
    simp only [partsC]
    split
    · intro m hm
      simp only [List.mem_append, List.mem_singleton] at hm
      rcases hm with hm | rfl
      · exact small_parts es l h1 h2 i m hm
      · have a := idxs_len (fun n => decide (gt l n = (i : Int))) l.length
        have b := idxs_len (fun m => decide (gt l (gt es m).f = (i : Int))) es.length
        exact ⟨by simp only [partC]; omega, by simp only [partC]; omega⟩
    · exact small_parts es l h1 h2 i
theorem comps_small (g : G) (h1 : g.n.length ≤ 45) (h2 : g.e.length ≤ 90) : Small (compsG g).1 ∧ (compsG g).1.length ≤ 45 := by
  unfold compsG
  split
  · exact ⟨fun m hm => by simp at hm, by simp⟩
  · rename_i h
    obtain ⟨v1, v2, v3, v4⟩ := valid_spec (g := g) (by simpa using h)
    have hn0 : NN0 (nums 0 g.n.length) := fun i => by
      have e1 := nums_len 0 g.n.length
      by_cases h : i < g.n.length
      · rw [gt_nat (by rw [e1]; exact h)]; simp [nums]
      · simp [gt, e1, h]
    obtain ⟨⟨k, hk⟩, _⟩ := limC_reach (es := g.e) _ hn0 (Nat.le_refl _)
    have hl : (limC g.e (nums 0 g.n.length)).length = g.n.length := by rw [hk, itC_len, nums_len]
    have := partsC_len g.e (limC g.e (nums 0 g.n.length)) g.n.length
    exact ⟨small_parts _ _ (by unfold maxL; omega) (by unfold maxL; omega) _, by simp only; omega⟩
theorem incG_len (g : G) (v : Int) : (incG g v).1.length ≤ g.e.length ∧ (incG g v).2.1.length ≤ g.e.length := by
  unfold incG
  split
  · simp
  · split
    · simp
    · exact ⟨idxs_len _ _, idxs_len _ _⟩
theorem w_l05_GraphIncident (hw : K_l05_awake P F) (hf : K_r05_Few P F) (hcp : K_r05_Copied P F) (h1 : K_graph_Incident P F) (h2 : K_r05_Incident P F) (h3 : K_graph_Components P F) (h4 : K_r05_Components P F) (h5 : K_slices_Equal_I P F) (h6 : K_r05_SameParts P F) (g : G) (v : Int) :
    W P (c_l05_GraphIncident F) (Done [.t 4] [] (.bool true) []) (init [gD g, .int .i64 v]) := by
  refine W_of ?_
  obtain ⟨gn, ge⟩ := g
  simp (config := { maxSteps := 1000000 }) (disch := first | omega | (simp only [List.length_set, List.length_append, List.length_cons, List.length_nil, List.length_replicate]; omega)) only [go_sem, Nat.reduceEqDiff, Nat.reduceBEq, Nat.reduceAdd, Nat.reduceSub, Nat.reduceMul, Nat.reduceLT, Nat.reduceLeDiff, ↓reduceIte, reduceCtorEq, Nat.reduceDiv, Nat.reducePow, Nat.reduceMod, gD]
  refine call_by hw ?_
  simp (config := { maxSteps := 1000000 }) (disch := first | omega | (simp only [List.length_set, List.length_append, List.length_cons, List.length_nil, List.length_replicate]; omega)) only [go_sem, Nat.reduceEqDiff, Nat.reduceBEq, Nat.reduceAdd, Nat.reduceSub, Nat.reduceMul, Nat.reduceLT, Nat.reduceLeDiff, ↓reduceIte, reduceCtorEq, Nat.reduceDiv, Nat.reducePow, Nat.reduceMod]
  refine call_by (hf ⟨gn, ge⟩) ?_
  simp (config := { maxSteps := 1000000 }) (disch := first | omega | (simp only [List.length_set, List.length_append, List.length_cons, List.length_nil, List.length_replicate]; omega)) only [go_sem, Nat.reduceEqDiff, Nat.reduceBEq, Nat.reduceAdd, Nat.reduceSub, Nat.reduceMul, Nat.reduceLT, Nat.reduceLeDiff, ↓reduceIte, reduceCtorEq, Nat.reduceDiv, Nat.reducePow, Nat.reduceMod]
  refine bran_nby (fun c1 => ?_) (fun c1 => ?_)
  · simp (config := { maxSteps := 1000000 }) (disch := first | omega | (simp only [List.length_set, List.length_append, List.length_cons, List.length_nil, List.length_replicate]; omega)) only [go_sem, Nat.reduceEqDiff, Nat.reduceBEq, Nat.reduceAdd, Nat.reduceSub, Nat.reduceMul, Nat.reduceLT, Nat.reduceLeDiff, ↓reduceIte, reduceCtorEq, Nat.reduceDiv, Nat.reducePow, Nat.reduceMod, c1]
    refine call_by hw ?_
    simp (config := { maxSteps := 1000000 }) (disch := first | omega | (simp only [List.length_set, List.length_append, List.length_cons, List.length_nil, List.length_replicate]; omega)) only [go_sem, Nat.reduceEqDiff, Nat.reduceBEq, Nat.reduceAdd, Nat.reduceSub, Nat.reduceMul, Nat.reduceLT, Nat.reduceLeDiff, ↓reduceIte, reduceCtorEq, Nat.reduceDiv, Nat.reducePow, Nat.reduceMod]
  · obtain ⟨f1, f2⟩ : gn.length ≤ 45 ∧ ge.length ≤ 90 := by simpa [few] using c1
    have r1 := h1 ⟨gn, ge⟩ v
    have r2 := h2 ⟨gn, ge⟩ v
    have r3 := hcp ⟨gn, ge⟩ (by simp only; omega) (by simp only; omega)
    have r4 := h3 ⟨gn, ge⟩
    have r5 := h4 ⟨gn, ge⟩
    have hlen := incG_len ⟨gn, ge⟩ v
    have hcs := comps_small ⟨gn, ge⟩ f1 f2
    generalize incG ⟨gn, ge⟩ v = r at r1 r2 hlen
    obtain ⟨a, b, e⟩ := r
    generalize compsG ⟨gn, ge⟩ = q at r4 r5 hcs
    obtain ⟨ps, h⟩ := q
    simp only [incD, gA, gD] at r1 r2 r3 r4 r5 hlen hcs
    have q1 := h5 a a (by unfold maxL; omega)
    have q2 := h5 b b (by unfold maxL; omega)
    have q3 := h6 ps ps (by unfold maxL; omega) hcs.1
    simp (config := { maxSteps := 1000000 }) (disch := first | omega | (simp only [List.length_set, List.length_append, List.length_cons, List.length_nil, List.length_replicate]; omega)) only [go_sem, Nat.reduceEqDiff, Nat.reduceBEq, Nat.reduceAdd, Nat.reduceSub, Nat.reduceMul, Nat.reduceLT, Nat.reduceLeDiff, ↓reduceIte, reduceCtorEq, Nat.reduceDiv, Nat.reducePow, Nat.reduceMod, c1]
    refine call_by r3 ?_
    simp (config := { maxSteps := 1000000 }) (disch := first | omega | (simp only [List.length_set, List.length_append, List.length_cons, List.length_nil, List.length_replicate]; omega)) only [go_sem, Nat.reduceEqDiff, Nat.reduceBEq, Nat.reduceAdd, Nat.reduceSub, Nat.reduceMul, Nat.reduceLT, Nat.reduceLeDiff, ↓reduceIte, reduceCtorEq, Nat.reduceDiv, Nat.reducePow, Nat.reduceMod]
    refine call_by r1 ?_
    simp (config := { maxSteps := 1000000 }) (disch := first | omega | (simp only [List.length_set, List.length_append, List.length_cons, List.length_nil, List.length_replicate]; omega)) only [go_sem, Nat.reduceEqDiff, Nat.reduceBEq, Nat.reduceAdd, Nat.reduceSub, Nat.reduceMul, Nat.reduceLT, Nat.reduceLeDiff, ↓reduceIte, reduceCtorEq, Nat.reduceDiv, Nat.reducePow, Nat.reduceMod]
    refine call_by r2 ?_
    simp (config := { maxSteps := 1000000 }) (disch := first | omega | (simp only [List.length_set, List.length_append, List.length_cons, List.length_nil, List.length_replicate]; omega)) only [go_sem, Nat.reduceEqDiff, Nat.reduceBEq, Nat.reduceAdd, Nat.reduceSub, Nat.reduceMul, Nat.reduceLT, Nat.reduceLeDiff, ↓reduceIte, reduceCtorEq, Nat.reduceDiv, Nat.reducePow, Nat.reduceMod]
    refine call_by r3 ?_
    simp (config := { maxSteps := 1000000 }) (disch := first | omega | (simp only [List.length_set, List.length_append, List.length_cons, List.length_nil, List.length_replicate]; omega)) only [go_sem, Nat.reduceEqDiff, Nat.reduceBEq, Nat.reduceAdd, Nat.reduceSub, Nat.reduceMul, Nat.reduceLT, Nat.reduceLeDiff, ↓reduceIte, reduceCtorEq, Nat.reduceDiv, Nat.reducePow, Nat.reduceMod]
    refine call_fz r4 ?_
    simp (config := { maxSteps := 1000000 }) (disch := first | omega | (simp only [List.length_set, List.length_append, List.length_cons, List.length_nil, List.length_replicate]; omega)) only [go_sem, Nat.reduceEqDiff, Nat.reduceBEq, Nat.reduceAdd, Nat.reduceSub, Nat.reduceMul, Nat.reduceLT, Nat.reduceLeDiff, ↓reduceIte, reduceCtorEq, Nat.reduceDiv, Nat.reducePow, Nat.reduceMod]
    refine call_fz r5 ?_
    simp (config := { maxSteps := 1000000 }) (disch := first | omega | (simp only [List.length_set, List.length_append, List.length_cons, List.length_nil, List.length_replicate]; omega)) only [go_sem, Nat.reduceEqDiff, Nat.reduceBEq, Nat.reduceAdd, Nat.reduceSub, Nat.reduceMul, Nat.reduceLT, Nat.reduceLeDiff, ↓reduceIte, reduceCtorEq, Nat.reduceDiv, Nat.reducePow, Nat.reduceMod]
    refine call_by q1 ?_
    simp (config := { maxSteps := 1000000 }) (disch := first | omega | (simp only [List.length_set, List.length_append, List.length_cons, List.length_nil, List.length_replicate]; omega)) only [go_sem, Nat.reduceEqDiff, Nat.reduceBEq, Nat.reduceAdd, Nat.reduceSub, Nat.reduceMul, Nat.reduceLT, Nat.reduceLeDiff, ↓reduceIte, reduceCtorEq, Nat.reduceDiv, Nat.reducePow, Nat.reduceMod]
    refine call_by q2 ?_
    simp (config := { maxSteps := 1000000 }) (disch := first | omega | (simp only [List.length_set, List.length_append, List.length_cons, List.length_nil, List.length_replicate]; omega)) only [go_sem, Nat.reduceEqDiff, Nat.reduceBEq, Nat.reduceAdd, Nat.reduceSub, Nat.reduceMul, Nat.reduceLT, Nat.reduceLeDiff, ↓reduceIte, reduceCtorEq, Nat.reduceDiv, Nat.reducePow, Nat.reduceMod]
    refine call_by q3 ?_
    simp (config := { maxSteps := 1000000 }) (disch := first | omega | (simp only [List.length_set, List.length_append, List.length_cons, List.length_nil, List.length_replicate]; omega)) only [go_sem, Nat.reduceEqDiff, Nat.reduceBEq, Nat.reduceAdd, Nat.reduceSub, Nat.reduceMul, Nat.reduceLT, Nat.reduceLeDiff, ↓reduceIte, reduceCtorEq, Nat.reduceDiv, Nat.reducePow, Nat.reduceMod]
theorem x_l05_GraphIncident (h : K_l05_GraphIncident P F) (args : List D) (ha : HasEls [shG, shI] args) : FC P (F "l05.GraphIncident") args (.bool true) [] := by
  simp only [HasEls] at ha
  obtain ⟨_, _, rfl, h1, _, _, rfl, h2, rfl⟩ := ha
  obtain ⟨g, rfl⟩ := rd_graph h1
  obtain ⟨k, rfl, _⟩ := rd_int h2
  exact h g k
end
end Go.Am
