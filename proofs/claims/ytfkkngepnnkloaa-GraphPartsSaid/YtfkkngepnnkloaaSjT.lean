/- The law GraphParts. -/
import Derived.Test.YtfkkngepnnkloaaSjS
namespace Go.Am
open Go
set_option linter.unusedVariables false
set_option linter.unusedSimpArgs false
attribute [local irreducible] W
/- l05.GraphParts -/
def c_l05_GraphParts_r0 (F : String → Nat) : List LI := [⟨some 2, .bx (.t 0), none⟩,
  ⟨some 3, .bx (.t 1), none⟩,
  ⟨some 4, .mov (.k (.bool false)), none⟩]
def c_l05_GraphParts_r1 (F : String → Nat) : List LI := [⟨some 27, .call (F "l05.awake") [] [], none⟩,
  ⟨some 28, .not (.t 27), none⟩,
  ⟨some 29, .mov (.t 28), none⟩,
  ⟨some 30, .fad 0 (.t 2), some (29, false)⟩,
  ⟨some 31, .load false 1 (.t 30), some (29, false)⟩,
  ⟨some 32, .len (.t 31), some (29, false)⟩,
  ⟨some 33, .bin .gtr (.t 32) (.k (.int .i64 (8))), some (29, false)⟩,
  ⟨some 34, .pick (.t 29) (.k (.bool true)) (.t 33), none⟩,
  ⟨some 35, .mov (.t 34), none⟩,
  ⟨some 36, .fad 1 (.t 2), some (35, false)⟩,
  ⟨some 37, .load false 1 (.t 36), some (35, false)⟩,
  ⟨some 38, .len (.t 37), some (35, false)⟩,
  ⟨some 39, .bin .gtr (.t 38) (.k (.int .i64 (10))), some (35, false)⟩,
  ⟨some 40, .pick (.t 35) (.k (.bool true)) (.t 39), none⟩,
  ⟨some 41, .mov (.t 40), none⟩,
  ⟨some 42, .fad 0 (.t 3), some (41, false)⟩,
  ⟨some 43, .load false 1 (.t 42), some (41, false)⟩,
  ⟨some 44, .len (.t 43), some (41, false)⟩,
  ⟨some 45, .bin .gtr (.t 44) (.k (.int .i64 (8))), some (41, false)⟩,
  ⟨some 46, .pick (.t 41) (.k (.bool true)) (.t 45), none⟩,
  ⟨some 47, .mov (.t 46), none⟩,
  ⟨some 48, .fad 1 (.t 3), some (47, false)⟩,
  ⟨some 49, .load false 1 (.t 48), some (47, false)⟩,
  ⟨some 50, .len (.t 49), some (47, false)⟩,
  ⟨some 51, .bin .gtr (.t 50) (.k (.int .i64 (10))), some (47, false)⟩,
  ⟨some 52, .pick (.t 47) (.k (.bool true)) (.t 51), none⟩]
def c_l05_GraphParts_r2 (F : String → Nat) : List LI := [⟨some 53, .call (F "l05.awake") [] [], none⟩,
  ⟨some 4, .mov (.t 53), none⟩]
def c_l05_GraphParts_r3 (F : String → Nat) : List LI := [⟨some 54, .load true 2 (.t 2), none⟩,
  ⟨some 55, .call (F "r05.Made") [.t 54] [], none⟩,
  ⟨some 56, .load true 2 (.t 3), none⟩,
  ⟨some 57, .call (F "r05.Made") [.t 56] [], none⟩,
  ⟨some 5, .alloc [.nl 1, .nl 3], none⟩,
  ⟨some 6, .alloc [.nl 1, .nl 3], none⟩,
  ⟨none, .store 2 (.t 5) (.t 55), none⟩,
  ⟨none, .store 2 (.t 6) (.t 57), none⟩]
def c_l05_GraphParts_r4 (F : String → Nat) : List LI := [⟨some 59, .load true 2 (.t 5), none⟩,
  ⟨some 60, .load true 2 (.t 6), none⟩,
  ⟨some 61, .call (F "graph.Union") [.t 59, .t 60] [], none⟩,
  ⟨some 58, .mov (.t 61), none⟩,
  ⟨some 62, .ext (.t 58) 0, none⟩,
  ⟨some 63, .ext (.t 58) 1, none⟩,
  ⟨some 64, .ext (.t 58) 2, none⟩,
  ⟨some 65, .ext (.t 58) 3, none⟩,
  ⟨some 7, .alloc [.nl 1, .nl 3], none⟩,
  ⟨some 8, .alloc [.nl 1, .nl 1], none⟩,
  ⟨some 9, .alloc [.nl 1, .nl 1], none⟩,
  ⟨none, .store 2 (.t 7) (.t 62), none⟩,
  ⟨none, .store 2 (.t 8) (.t 63), none⟩,
  ⟨none, .store 2 (.t 9) (.t 64), none⟩,
  ⟨some 10, .mov (.t 65), none⟩]
def c_l05_GraphParts_r5 (F : String → Nat) : List LI := [⟨some 66, .mov (.t 10), none⟩,
  ⟨some 67, .bin .neq (.t 66) (.k (.int .i64 (0))), none⟩]
def c_l05_GraphParts_r6 (F : String → Nat) : List LI := [⟨some 4, .mov (.k (.bool false)), none⟩]
def c_l05_GraphParts_r7 (F : String → Nat) : List LI := [⟨some 69, .load true 2 (.t 7), none⟩,
  ⟨some 70, .fad 0 (.t 8), none⟩,
  ⟨some 71, .load false 1 (.t 70), none⟩,
  ⟨some 72, .fad 1 (.t 8), none⟩,
  ⟨some 73, .load false 1 (.t 72), none⟩,
  ⟨some 74, .call (F "graph.Remove") [.t 69, .t 71, .t 73] [], none⟩,
  ⟨some 68, .mov (.t 74), none⟩,
  ⟨some 75, .ext (.t 68) 0, none⟩,
  ⟨some 76, .ext (.t 68) 1, none⟩,
  ⟨some 77, .ext (.t 68) 2, none⟩,
  ⟨some 11, .alloc [.nl 1, .nl 3], none⟩,
  ⟨some 12, .alloc [.nl 1, .nl 1], none⟩,
  ⟨none, .store 2 (.t 11) (.t 75), none⟩,
  ⟨none, .store 2 (.t 12) (.t 76), none⟩,
  ⟨some 13, .mov (.t 77), none⟩]
def c_l05_GraphParts_r8 (F : String → Nat) : List LI := [⟨some 79, .load true 2 (.t 7), none⟩,
  ⟨some 80, .fad 0 (.t 9), none⟩,
  ⟨some 81, .load false 1 (.t 80), none⟩,
  ⟨some 82, .fad 1 (.t 9), none⟩,
  ⟨some 83, .load false 1 (.t 82), none⟩,
  ⟨some 84, .call (F "graph.Remove") [.t 79, .t 81, .t 83] [], none⟩,
  ⟨some 78, .mov (.t 84), none⟩,
  ⟨some 85, .ext (.t 78) 0, none⟩,
  ⟨some 86, .ext (.t 78) 1, none⟩,
  ⟨some 87, .ext (.t 78) 2, none⟩,
  ⟨some 14, .alloc [.nl 1, .nl 3], none⟩,
  ⟨some 15, .alloc [.nl 1, .nl 1], none⟩,
  ⟨none, .store 2 (.t 14) (.t 85), none⟩,
  ⟨none, .store 2 (.t 15) (.t 86), none⟩,
  ⟨some 16, .mov (.t 87), none⟩]
def c_l05_GraphParts_r9 (F : String → Nat) : List LI := [⟨some 89, .load true 2 (.t 5), none⟩,
  ⟨some 90, .call (F "graph.Components") [.t 89] [], none⟩,
  ⟨some 88, .mov (.t 90), none⟩,
  ⟨some 91, .ext (.t 88) 0, none⟩,
  ⟨some 92, .ext (.t 88) 1, none⟩,
  ⟨some 17, .mov (.t 91), none⟩,
  ⟨some 18, .mov (.t 92), none⟩]
def c_l05_GraphParts_r10 (F : String → Nat) : List LI := [⟨some 94, .load true 2 (.t 6), none⟩,
  ⟨some 95, .call (F "graph.Components") [.t 94] [], none⟩,
  ⟨some 93, .mov (.t 95), none⟩,
  ⟨some 96, .ext (.t 93) 0, none⟩,
  ⟨some 97, .ext (.t 93) 1, none⟩,
  ⟨some 19, .mov (.t 96), none⟩,
  ⟨some 20, .mov (.t 97), none⟩]
def c_l05_GraphParts_r11 (F : String → Nat) : List LI := [⟨some 99, .load true 2 (.t 7), none⟩,
  ⟨some 100, .call (F "graph.Components") [.t 99] [], none⟩,
  ⟨some 98, .mov (.t 100), none⟩,
  ⟨some 101, .ext (.t 98) 0, none⟩,
  ⟨some 102, .ext (.t 98) 1, none⟩,
  ⟨some 21, .mov (.t 101), none⟩,
  ⟨some 22, .mov (.t 102), none⟩]
def c_l05_GraphParts_r12 (F : String → Nat) : List LI := [⟨some 103, .mov (.t 13), none⟩,
  ⟨some 104, .bin .neq (.t 103) (.k (.int .i64 (0))), none⟩,
  ⟨some 105, .mov (.t 104), none⟩,
  ⟨some 106, .mov (.t 16), some (105, false)⟩,
  ⟨some 107, .bin .neq (.t 106) (.k (.int .i64 (0))), some (105, false)⟩,
  ⟨some 108, .pick (.t 105) (.k (.bool true)) (.t 107), none⟩,
  ⟨some 109, .mov (.t 108), none⟩,
  ⟨some 110, .load true 2 (.t 11), some (109, false)⟩,
  ⟨some 111, .load true 2 (.t 6), some (109, false)⟩,
  ⟨some 112, .call (F "r05.Same") [.t 110, .t 111] [], some (109, false)⟩,
  ⟨some 113, .not (.t 112), some (109, false)⟩,
  ⟨some 114, .pick (.t 109) (.k (.bool true)) (.t 113), none⟩,
  ⟨some 115, .mov (.t 114), none⟩,
  ⟨some 116, .load true 2 (.t 14), some (115, false)⟩,
  ⟨some 117, .load true 2 (.t 5), some (115, false)⟩,
  ⟨some 118, .call (F "r05.Same") [.t 116, .t 117] [], some (115, false)⟩,
  ⟨some 119, .not (.t 118), some (115, false)⟩,
  ⟨some 120, .pick (.t 115) (.k (.bool true)) (.t 119), none⟩,
  ⟨some 121, .mov (.t 120), none⟩,
  ⟨some 122, .mov (.t 18), some (121, false)⟩,
  ⟨some 123, .bin .neq (.t 122) (.k (.int .i64 (0))), some (121, false)⟩,
  ⟨some 124, .pick (.t 121) (.k (.bool true)) (.t 123), none⟩,
  ⟨some 125, .mov (.t 124), none⟩,
  ⟨some 126, .mov (.t 20), some (125, false)⟩,
  ⟨some 127, .bin .neq (.t 126) (.k (.int .i64 (0))), some (125, false)⟩,
  ⟨some 128, .pick (.t 125) (.k (.bool true)) (.t 127), none⟩,
  ⟨some 129, .mov (.t 128), none⟩,
  ⟨some 130, .mov (.t 22), some (129, false)⟩,
  ⟨some 131, .bin .neq (.t 130) (.k (.int .i64 (0))), some (129, false)⟩,
  ⟨some 132, .pick (.t 129) (.k (.bool true)) (.t 131), none⟩,
  ⟨some 133, .mov (.t 132), none⟩,
  ⟨some 134, .mov (.t 21), some (133, false)⟩,
  ⟨some 135, .len (.t 134), some (133, false)⟩,
  ⟨some 136, .mov (.t 17), some (133, false)⟩,
  ⟨some 137, .len (.t 136), some (133, false)⟩,
  ⟨some 138, .mov (.t 19), some (133, false)⟩,
  ⟨some 139, .len (.t 138), some (133, false)⟩,
  ⟨some 140, .bin .add (.t 137) (.t 139), some (133, false)⟩,
  ⟨some 141, .bin .neq (.t 135) (.t 140), some (133, false)⟩,
  ⟨some 142, .pick (.t 133) (.k (.bool true)) (.t 141), none⟩]
def c_l05_GraphParts_r13 (F : String → Nat) : List LI := [⟨some 4, .mov (.k (.bool false)), none⟩]
def c_l05_GraphParts_r14 (F : String → Nat) : List LI := [⟨some 23, .mov (.k (.nl 1)), none⟩,
  ⟨some 24, .mov (.k (.nl 1)), none⟩]
def c_l05_GraphParts_r15 (F : String → Nat) : List LI := [⟨some 143, .mov (.t 21), none⟩,
  ⟨some 144, .len (.t 143), none⟩,
  ⟨some 145, .mov (.k (.int .i64 (0))), none⟩]
def c_l05_GraphParts_r16 (F : String → Nat) : List LI := [⟨some 146, .bin .lss (.t 145) (.t 144), none⟩]
def c_l05_GraphParts_r17 (F : String → Nat) : List LI := [⟨some 147, .iad 2 (.t 143) (.t 145), none⟩,
  ⟨some 148, .load true 2 (.t 147), none⟩,
  ⟨some 26, .alloc [.nl 1, .nl 1], none⟩,
  ⟨none, .store 2 (.t 26) (.t 148), none⟩]
def c_l05_GraphParts_r18 (F : String → Nat) : List LI := [⟨some 149, .mov (.t 23), none⟩,
  ⟨some 150, .fad 0 (.t 26), none⟩,
  ⟨some 151, .load false 1 (.t 150), none⟩,
  ⟨some 152, .app 1 8 (.t 149) (.t 151), none⟩,
  ⟨some 153, .mov (.t 24), none⟩,
  ⟨some 154, .fad 1 (.t 26), none⟩,
  ⟨some 155, .load false 1 (.t 154), none⟩,
  ⟨some 156, .app 1 8 (.t 153) (.t 155), none⟩,
  ⟨some 23, .mov (.t 152), none⟩,
  ⟨some 24, .mov (.t 156), none⟩]
def c_l05_GraphParts_r19 (F : String → Nat) : List LI := [⟨some 157, .bin .add (.t 145) (.k (.int .i64 (1))), none⟩,
  ⟨some 145, .mov (.t 157), none⟩]
def c_l05_GraphParts_b20 (F : String → Nat) : LC := (.seq (.reg (c_l05_GraphParts_r16 F) [7, 23, 24, 143, 144, 145, 146]) (.seq (.cond (.t 146) .skip (.exit 0)) (.seq (.block 1 (.seq (.reg (c_l05_GraphParts_r17 F) [7, 23, 24, 26, 143, 144, 145]) (.dreg [(3, none, [], true), (6, (some 32), [3], false)] (c_l05_GraphParts_r18 F) [7, 23, 24, 143, 144, 145]))) (.reg (c_l05_GraphParts_r19 F) [7, 23, 24, 143, 144, 145]))))
def c_l05_GraphParts_r21 (F : String → Nat) : List LI := [⟨some 158, .mov (.t 23), none⟩,
  ⟨some 159, .call (F "slices.Sort.I") [.t 158] [.mu], none⟩]
def c_l05_GraphParts_r22 (F : String → Nat) : List LI := [⟨some 160, .mov (.t 24), none⟩,
  ⟨some 161, .call (F "slices.Sort.I") [.t 160] [.mu], none⟩]
def c_l05_GraphParts_r23 (F : String → Nat) : List LI := [⟨some 162, .mov (.t 23), none⟩,
  ⟨some 163, .fad 0 (.t 7), none⟩,
  ⟨some 164, .load false 1 (.t 163), none⟩,
  ⟨some 165, .len (.t 164), none⟩,
  ⟨some 166, .call (F "r05.Numbers") [.k (.int .i64 (0)), .t 165] [], none⟩,
  ⟨some 167, .call (F "slices.Equal.I") [.t 162, .t 166] [], none⟩,
  ⟨some 168, .mov (.t 167), none⟩,
  ⟨some 169, .mov (.t 24), some (168, true)⟩,
  ⟨some 170, .fad 1 (.t 7), some (168, true)⟩,
  ⟨some 171, .load false 1 (.t 170), some (168, true)⟩,
  ⟨some 172, .len (.t 171), some (168, true)⟩,
  ⟨some 173, .call (F "r05.Numbers") [.k (.int .i64 (0)), .t 172] [], some (168, true)⟩,
  ⟨some 174, .call (F "slices.Equal.I") [.t 169, .t 173] [], some (168, true)⟩,
  ⟨some 175, .pick (.t 168) (.t 174) (.k (.bool false)), none⟩,
  ⟨some 4, .mov (.t 175), none⟩]
def c_l05_GraphParts (F : String → Nat) : LC := (.seq (.reg (c_l05_GraphParts_r0 F) [2, 3]) (.seq (.seq (.reg (c_l05_GraphParts_r1 F) [2, 3, 52]) (.cond (.t 52) (.seq (.reg (c_l05_GraphParts_r2 F) [4]) .ret) .skip)) (.seq (.dreg [(1, none, [], true), (2, (some 0), [1], false)] (c_l05_GraphParts_r3 F) [5, 6]) (.seq (.reg (c_l05_GraphParts_r4 F) [5, 6, 7, 8, 9, 10]) (.seq (.seq (.reg (c_l05_GraphParts_r5 F) [5, 6, 7, 8, 9, 67]) (.cond (.t 67) (.seq (.reg (c_l05_GraphParts_r6 F) [4]) .ret) .skip)) (.seq (.reg (c_l05_GraphParts_r7 F) [5, 6, 7, 9, 11, 13]) (.seq (.reg (c_l05_GraphParts_r8 F) [5, 6, 7, 11, 13, 14, 16]) (.seq (.reg (c_l05_GraphParts_r9 F) [5, 6, 7, 11, 13, 14, 16, 17, 18]) (.seq (.reg (c_l05_GraphParts_r10 F) [5, 6, 7, 11, 13, 14, 16, 17, 18, 19, 20]) (.seq (.reg (c_l05_GraphParts_r11 F) [5, 6, 7, 11, 13, 14, 16, 17, 18, 19, 20, 21, 22]) (.seq (.seq (.reg (c_l05_GraphParts_r12 F) [7, 21, 142]) (.cond (.t 142) (.seq (.reg (c_l05_GraphParts_r13 F) [4]) .ret) .skip)) (.seq (.reg (c_l05_GraphParts_r14 F) [7, 21, 23, 24]) (.seq (.seq (.reg (c_l05_GraphParts_r15 F) [7, 23, 24, 143, 144, 145]) (.block 0 (.loop [7, 23, 24, 143, 144, 145] (c_l05_GraphParts_b20 F)))) (.seq (.reg (c_l05_GraphParts_r21 F) [7, 23, 24]) (.seq (.reg (c_l05_GraphParts_r22 F) [7, 23, 24]) (.seq (.reg (c_l05_GraphParts_r23 F) [4]) .ret))))))))))))))))
def h_l05_GraphParts : Hints := ⟨[], fun _ => [], tab [(0, [2, 3]), (1, [2, 3, 52]), (2, [4]), (3, [5, 6]), (4, [5, 6, 7, 8, 9, 10]), (5, [5, 6, 7, 8, 9, 67]), (6, [4]), (7, [5, 6, 7, 9, 11, 13]), (8, [5, 6, 7, 11, 13, 14, 16]), (9, [5, 6, 7, 11, 13, 14, 16, 17, 18]), (10, [5, 6, 7, 11, 13, 14, 16, 17, 18, 19, 20]), (11, [5, 6, 7, 11, 13, 14, 16, 17, 18, 19, 20, 21, 22]), (12, [7, 21, 142]), (13, [4]), (14, [7, 21, 23, 24]), (15, [7, 23, 24, 143, 144, 145]), (16, [7, 23, 24, 143, 144, 145, 146]), (17, [7, 23, 24, 26, 143, 144, 145]), (18, [7, 23, 24, 143, 144, 145]), (19, [7, 23, 24, 143, 144, 145]), (20, [7, 23, 24]), (21, [7, 23, 24]), (22, [4])], tab [(16, [7, 23, 24, 143, 144, 145])]⟩

attribute [go_sem] c_l05_GraphParts_r0 c_l05_GraphParts_r1 c_l05_GraphParts_r2 c_l05_GraphParts_r3 c_l05_GraphParts_r4 c_l05_GraphParts_r5 c_l05_GraphParts_r6 c_l05_GraphParts_r7 c_l05_GraphParts_r8 c_l05_GraphParts_r9 c_l05_GraphParts_r10 c_l05_GraphParts_r11 c_l05_GraphParts_r12 c_l05_GraphParts_r13 c_l05_GraphParts_r14 c_l05_GraphParts_r15 c_l05_GraphParts_r16 c_l05_GraphParts_r17 c_l05_GraphParts_r18 c_l05_GraphParts_r19 c_l05_GraphParts_r21 c_l05_GraphParts_r22 c_l05_GraphParts_r23 c_l05_GraphParts
section
variable (P : Program) (F : String → Nat)
def K_l05_GraphParts : Prop := ∀ x y : Dr, x.ok → x.n.length ≤ maxL → x.e.length ≤ maxL → y.ok → y.n.length ≤ maxL → y.e.length ≤ maxL → FC P (F "l05.GraphParts") [drD x, drD y] (.bool true) []
end
section
variable {P : Program} {F : String → Nat} {α : Type}
theorem comps_few {g : G} (hv : validG g = 0) : (compsG g).1.length ≤ 40 ∧ ∀ m ∈ (compsG g).1, m.n.length ≤ 40 ∧ m.e.length ≤ 80 := by
  have vs := valid_spec hv
  have hE : Ends g.n.length g.e := fun x hx => (fits_spec (vs.2.2.2 x hx)).2
  obtain ⟨h1, _, _⟩ := lim_root hE
  rw [compsG_ok hv]
  refine ⟨Nat.le_trans (partsC_len _ _ _) vs.1, fun m hm => ?_⟩
  obtain ⟨r, _, _, rfl⟩ := partsC_mem.1 hm
  simp only [partC]
  have a := idxs_len (fun n => decide (gt (limC g.e (nums 0 g.n.length)) n = (r : Int))) (limC g.e (nums 0 g.n.length)).length
  have b := idxs_len (fun m => decide (gt (limC g.e (nums 0 g.n.length)) (gt g.e m).f = (r : Int))) g.e.length
  omega
theorem flat_step {l : List Mo} {f : Mo → List Int} {i : Nat} (h : i < l.length) : (l.take (i + 1)).flatMap f = (l.take i).flatMap f ++ f (gt l i) := by
  rw [take_gt h]; simp
theorem flat_len {l : List Mo} {f : Mo → List Int} {c : Nat} (h : ∀ m ∈ l, (f m).length ≤ c) : ∀ i, i ≤ l.length → ((l.take i).flatMap f).length ≤ i * c
  | 0, _ => by simp
  | i + 1, hi => by
    rw [flat_step (by omega), List.length_append, Nat.add_mul]
    have := flat_len h i (by omega)
    have := h _ (gt_mem (l := l) (j := (i : Int)) (by omega) (by omega))
    omega
set_option maxHeartbeats 4000000 in
set_option maxRecDepth 100000 in
theorem w_l05_GraphParts (hw : K_l05_awake P F) (hm : K_r05_Made P F) (hu : K_graph_Union P F) (hr : K_graph_Remove P F) (hc : K_graph_Components P F) (hs : K_r05_Same P F) (hso : K_slices_Sort_I P F) (hnu : K_r05_Numbers P F) (he : K_slices_Equal_I P F)
    (x y : Dr) (x1 : x.ok) (x2 : x.n.length ≤ maxL) (x3 : x.e.length ≤ maxL) (y1 : y.ok) (y2 : y.n.length ≤ maxL) (y3 : y.e.length ≤ maxL) : W P (c_l05_GraphParts F) (Done [.t 4] [] (.bool true) []) (init [drD x, drD y]) := by
  refine W_of ?_
  by_cases big : x.n.length ≤ 8 ∧ x.e.length ≤ 10 ∧ y.n.length ≤ 8 ∧ y.e.length ≤ 10
  case neg =>
    obtain ⟨xn, xe⟩ := x
    obtain ⟨yn, ye⟩ := y
    simp only [drD] at *
    by_cases c1 : 8 < xn.length
    · have d1 : decide ((8 : Int) < xn.length) = true := decide_eq_true (by omega)
      simp (config := { maxSteps := 1000000 }) (disch := first | omega | (simp only [go_sem]; omega)) only [go_sem, ↓reduceIte]
      refine call_by hw ?_
      simp (config := { maxSteps := 1000000 }) (disch := first | omega | (simp only [go_sem]; omega)) only [go_sem, ↓reduceIte, d1]
      refine call_by hw ?_
      simp (config := { maxSteps := 1000000 }) (disch := first | omega | (simp only [go_sem]; omega)) only [go_sem, ↓reduceIte]
    have d1 : decide ((8 : Int) < xn.length) = false := decide_eq_false (by omega)
    by_cases c2 : 10 < xe.length
    · have d2 : decide ((10 : Int) < xe.length) = true := decide_eq_true (by omega)
      simp (config := { maxSteps := 1000000 }) (disch := first | omega | (simp only [go_sem]; omega)) only [go_sem, ↓reduceIte]
      refine call_by hw ?_
      simp (config := { maxSteps := 1000000 }) (disch := first | omega | (simp only [go_sem]; omega)) only [go_sem, ↓reduceIte, d1, d2]
      refine call_by hw ?_
      simp (config := { maxSteps := 1000000 }) (disch := first | omega | (simp only [go_sem]; omega)) only [go_sem, ↓reduceIte]
    have d2 : decide ((10 : Int) < xe.length) = false := decide_eq_false (by omega)
    by_cases c3 : 8 < yn.length
    · have d3 : decide ((8 : Int) < yn.length) = true := decide_eq_true (by omega)
      simp (config := { maxSteps := 1000000 }) (disch := first | omega | (simp only [go_sem]; omega)) only [go_sem, ↓reduceIte]
      refine call_by hw ?_
      simp (config := { maxSteps := 1000000 }) (disch := first | omega | (simp only [go_sem]; omega)) only [go_sem, ↓reduceIte, d1, d2, d3]
      refine call_by hw ?_
      simp (config := { maxSteps := 1000000 }) (disch := first | omega | (simp only [go_sem]; omega)) only [go_sem, ↓reduceIte]
    have d3 : decide ((8 : Int) < yn.length) = false := decide_eq_false (by omega)
    have d4 : decide ((10 : Int) < ye.length) = true := decide_eq_true (by omega)
    simp (config := { maxSteps := 1000000 }) (disch := first | omega | (simp only [go_sem]; omega)) only [go_sem, ↓reduceIte]
    refine call_by hw ?_
    simp (config := { maxSteps := 1000000 }) (disch := first | omega | (simp only [go_sem]; omega)) only [go_sem, ↓reduceIte, d1, d2, d3, d4]
    refine call_by hw ?_
    simp (config := { maxSteps := 1000000 }) (disch := first | omega | (simp only [go_sem]; omega)) only [go_sem, ↓reduceIte]
  have r1 := hm x x1 x2 x3
  have r2 := hm y y1 y2 y3
  have va := madeG_valid x1
  have vb := madeG_valid y1
  have a1 := madeN_len x
  have a2 := madeE_len x
  have a3 := madeN_len y
  have a4 := madeE_len y
  have a5 : (madeG x).n.length ≤ 8 := a1
  have a6 : (madeG y).n.length ≤ 8 := a3
  clear a1 a3
  generalize madeG x = a at *
  generalize madeG y = b at *
  have r3 := hu a b
  have hU : uniG a b = (uG a b, ⟨nums 0 a.n.length, nums 0 a.e.length⟩, ⟨nums a.n.length b.n.length, nums a.e.length b.e.length⟩, 0) := by
    unfold uniG
    rw [if_neg (by simp [va]), if_neg (by simp [vb]), if_neg (by omega)]
    rfl
  rw [hU] at r3
  have vu := uG_ok va vb (by omega) (by omega)
  obtain ⟨m1, m2⟩ := rem_first va vb (by omega) (by omega)
  obtain ⟨m3, m4⟩ := rem_last va vb (by omega) (by omega)
  have r4 := hr (uG a b) (nums 0 a.n.length) (nums 0 a.e.length) (by rw [nums_len]; unfold maxL; omega) (by rw [nums_len]; unfold maxL; omega)
  have r5 := hr (uG a b) (nums a.n.length b.n.length) (nums a.e.length b.e.length) (by rw [nums_len]; unfold maxL; omega) (by rw [nums_len]; unfold maxL; omega)
  have r6 := hc a
  have r7 := hc b
  have r8 := hc (uG a b)
  have hl := comps_U va vb vu
  have e0 : ∀ g : G, validG g = 0 → (compsG g).2 = 0 := fun g h => by rw [compsG_ok h]
  rw [e0 _ va] at r6
  rw [e0 _ vb] at r7
  rw [e0 _ vu] at r8
  obtain ⟨p1, p2⟩ := comps_all vu
  obtain ⟨s1, s2⟩ := comps_few vu
  have s3 := (comps_few va).1
  have s4 := (comps_few vb).1
  have r9 := hs b b (by unfold maxL; omega) (by unfold maxL; omega)
  have r10 := hs a a (by unfold maxL; omega) (by unfold maxL; omega)
  rw [decide_eq_true rfl] at r9 r10
  have vl := valid_spec vu
  have r11 := hnu 0 (uG a b).n.length (by omega) (by omega) (by omega)
  have r12 := hnu 0 (uG a b).e.length (by omega) (by omega) (by omega)
  rw [show (⟨a.n ++ b.n, a.e ++ b.e.map (shE1 a.n.length)⟩ : G) = uG a b from rfl] at hl
  clear hU va vb e0
  have f1 := flat_len (f := Mo.n) (c := 40) (fun m hm => (s2 m hm).1)
  have f2 := flat_len (f := Mo.e) (c := 80) (fun m hm => (s2 m hm).2)
  have ls := fun z : List Int => srt_len z
  generalize removeG (uG a b) (nums 0 a.n.length) (nums 0 a.e.length) = q1 at *
  generalize removeG (uG a b) (nums a.n.length b.n.length) (nums a.e.length b.e.length) = q2 at *
  generalize (compsG a).1 = ka at *
  generalize (compsG b).1 = kb at *
  generalize (compsG (uG a b)).1 = ku at *
  generalize nums 0 a.n.length = z1 at *
  generalize nums 0 a.e.length = z2 at *
  generalize nums a.n.length b.n.length = z3 at *
  generalize nums a.e.length b.e.length = z4 at *
  generalize uG a b = u at *
  obtain ⟨qa, ⟨qn, qe⟩, v1⟩ := q1
  obtain ⟨qb, ⟨tn, te⟩, v2⟩ := q2
  simp only at m1 m2 m3 m4
  subst m1 m2 m3 m4
  obtain ⟨an, ae⟩ := qb
  obtain ⟨bn, be⟩ := qa
  obtain ⟨un, ue⟩ := u
  obtain ⟨xn, xe⟩ := x
  obtain ⟨yn, ye⟩ := y
  simp only [drD, gD, gA, mA, mD, remD, uniD] at *
  have d1 : decide ((8 : Int) < xn.length) = false := decide_eq_false (by omega)
  have d2 : decide ((10 : Int) < xe.length) = false := decide_eq_false (by omega)
  have d3 : decide ((8 : Int) < yn.length) = false := decide_eq_false (by omega)
  have d4 : decide ((10 : Int) < ye.length) = false := decide_eq_false (by omega)
  have d5 : decide ((ku.length : Int) = (ka.length : Int) + kb.length) = true := decide_eq_true (by omega)
  have g1 : ((ku.take 0).flatMap Mo.n) = [] := by simp
  have g2 : ((ku.take 0).flatMap Mo.e) = [] := by simp
  have g3 : ∀ i : Nat, i < ku.length → (ku.take (i + 1)).flatMap Mo.n = (ku.take i).flatMap Mo.n ++ (gt ku i).n := fun i h => flat_step h
  have g4 : ∀ i : Nat, i < ku.length → (ku.take (i + 1)).flatMap Mo.e = (ku.take i).flatMap Mo.e ++ (gt ku i).e := fun i h => flat_step h
  have g5 : srt ((ku.take ku.length).flatMap Mo.n) = nums 0 un.length := by rw [List.take_length]; exact p1
  have g6 : srt ((ku.take ku.length).flatMap Mo.e) = nums 0 ue.length := by rw [List.take_length]; exact p2
  generalize hS1 : (fun i => (ku.take i).flatMap Mo.n) = S1
  generalize hS2 : (fun i => (ku.take i).flatMap Mo.e) = S2
  have k1 : ∀ i, (ku.take i).flatMap Mo.n = S1 i := fun i => by rw [← hS1]
  have k2 : ∀ i, (ku.take i).flatMap Mo.e = S2 i := fun i => by rw [← hS2]
  simp only [k1, k2] at f1 f2 g1 g2 g3 g4 g5 g6
  clear k1 k2 hS1 hS2 p1 p2
  cases hf3 : (pts ku).all D.flatE
  · cases hf1 : (pts ka).all D.flatE <;> cases hf2 : (pts kb).all D.flatE
    all_goals
      simp (config := { maxSteps := 1000000 }) (disch := first | omega | (simp only [go_sem]; omega)) only [go_sem, ↓reduceIte]
      refine call_by hw ?_
      simp (config := { maxSteps := 1000000 }) (disch := first | omega | (simp only [go_sem]; omega)) only [go_sem, ↓reduceIte, d1, d2, d3, d4]
      refine call_by r1 ?_
      simp (config := { maxSteps := 1000000 }) (disch := first | omega | (simp only [go_sem]; omega)) only [go_sem, ↓reduceIte]
      refine call_by r2 ?_
      simp (config := { maxSteps := 1000000 }) (disch := first | omega | (simp only [go_sem]; omega)) only [go_sem, ↓reduceIte]
      refine call_by r3 ?_
      simp (config := { maxSteps := 1000000 }) (disch := first | omega | (simp only [go_sem]; omega)) only [go_sem, ↓reduceIte]
      refine call_by r4 ?_
      simp (config := { maxSteps := 1000000 }) (disch := first | omega | (simp only [go_sem]; omega)) only [go_sem, ↓reduceIte]
      refine call_by r5 ?_
      simp (config := { maxSteps := 1000000 }) (disch := first | omega | (simp only [go_sem]; omega)) only [go_sem, ↓reduceIte]
      refine call_by r6 ?_
      simp (config := { maxSteps := 1000000 }) (disch := first | omega | (simp only [go_sem]; omega)) only [go_sem, ↓reduceIte, hf1]
      refine call_by r7 ?_
      simp (config := { maxSteps := 1000000 }) (disch := first | omega | (simp only [go_sem]; omega)) only [go_sem, ↓reduceIte, hf2]
      refine call_by r8 ?_
      simp (config := { maxSteps := 1000000 }) (disch := first | omega | (simp only [go_sem]; omega)) only [go_sem, ↓reduceIte, hf3]
      refine call_by r9 ?_
      simp (config := { maxSteps := 1000000 }) (disch := first | omega | (simp only [go_sem]; omega)) only [go_sem, ↓reduceIte]
      refine call_by r10 ?_
      simp (config := { maxSteps := 1000000 }) (disch := first | omega | (simp only [go_sem]; omega)) only [go_sem, ↓reduceIte, d5]
      refine W_loop (fun i : Nat => ⟨[(7, .pt 2 0), (23, .sl 3 0 (S1 i).length), (24, .sl 4 0 (S2 i).length), (143, .sl 5 0 ku.length), (144, .int .i64 ku.length), (145, .int .i64 i)],
        [(0, .imm 1 (ints un)), (1, .imm 3 (eds ue)), (2, .box [.sl 0 0 un.length, .sl 1 0 ue.length]), (3, .arr 1 (ints (S1 i))), (4, .arr 1 (ints (S2 i))), (5, .arr 2 (pts ku))], 6⟩) (fun i => i ≤ ku.length) (fun i => ku.length - i) 0 ?_ ?_ ?_
      · simp (config := { maxSteps := 1000000 }) (disch := first | omega | (simp only [go_sem]; omega)) only [go_sem, ↓reduceIte, g1, g2]
        rfl
      · simp
      · intro i hi
        have b1 := f1 i hi
        have b2 := f2 i hi
        by_cases c : i < ku.length
        · have d6 : decide ((i : Int) < ku.length) = true := decide_eq_true (by omega)
          have w1 := f1 (i + 1) (by omega)
          have w2 := f2 (i + 1) (by omega)
          have t1 := g3 i c
          have t2 := g4 i c
          rw [t1, List.length_append] at w1
          rw [t2, List.length_append] at w2
          simp (config := { maxSteps := 1000000 }) (disch := first | omega | (simp only [go_sem]; omega)) only [go_sem, ↓reduceIte, c_l05_GraphParts_b20, d6]
          exact ⟨i + 1, by simp [t1, t2], by omega, by omega⟩
        · have d6 : decide ((i : Int) < ku.length) = false := decide_eq_false (by omega)
          obtain rfl : i = ku.length := by omega
          have r13 := hso (S1 ku.length) (by unfold maxL; omega)
          have r14 := hso (S2 ku.length) (by unfold maxL; omega)
          have l13 := ls (S1 ku.length)
          have l14 := ls (S2 ku.length)
          rw [g5] at r13 l13
          rw [g6] at r14 l14
          have r15 := he (nums 0 un.length) (nums 0 un.length) (by rw [nums_len]; unfold maxL; omega)
          have r16 := he (nums 0 ue.length) (nums 0 ue.length) (by rw [nums_len]; unfold maxL; omega)
          rw [decide_eq_true rfl] at r15 r16
          generalize nums 0 un.length = y1 at *
          generalize nums 0 ue.length = y2 at *
          simp (config := { maxSteps := 1000000 }) (disch := first | omega | (simp only [go_sem]; omega)) only [go_sem, ↓reduceIte, c_l05_GraphParts_b20, d6]
          refine call_by r13 ?_
          simp (config := { maxSteps := 1000000 }) (disch := first | omega | (simp only [go_sem]; omega)) only [go_sem, ↓reduceIte, l13]
          refine call_by r14 ?_
          simp (config := { maxSteps := 1000000 }) (disch := first | omega | (simp only [go_sem]; omega)) only [go_sem, ↓reduceIte, l13, l14]
          refine call_by r11 ?_
          simp (config := { maxSteps := 1000000 }) (disch := first | omega | (simp only [go_sem]; omega)) only [go_sem, ↓reduceIte, l13, l14]
          refine call_by r15 ?_
          simp (config := { maxSteps := 1000000 }) (disch := first | omega | (simp only [go_sem]; omega)) only [go_sem, ↓reduceIte, l13, l14]
          refine call_by r12 ?_
          simp (config := { maxSteps := 1000000 }) (disch := first | omega | (simp only [go_sem]; omega)) only [go_sem, ↓reduceIte, l13, l14]
          refine call_by r16 ?_
          simp (config := { maxSteps := 1000000 }) (disch := first | omega | (simp only [go_sem]; omega)) only [go_sem, ↓reduceIte]
  · cases hf1 : (pts ka).all D.flatE <;> cases hf2 : (pts kb).all D.flatE
    all_goals
      simp (config := { maxSteps := 1000000 }) (disch := first | omega | (simp only [go_sem]; omega)) only [go_sem, ↓reduceIte]
      refine call_by hw ?_
      simp (config := { maxSteps := 1000000 }) (disch := first | omega | (simp only [go_sem]; omega)) only [go_sem, ↓reduceIte, d1, d2, d3, d4]
      refine call_by r1 ?_
      simp (config := { maxSteps := 1000000 }) (disch := first | omega | (simp only [go_sem]; omega)) only [go_sem, ↓reduceIte]
      refine call_by r2 ?_
      simp (config := { maxSteps := 1000000 }) (disch := first | omega | (simp only [go_sem]; omega)) only [go_sem, ↓reduceIte]
      refine call_by r3 ?_
      simp (config := { maxSteps := 1000000 }) (disch := first | omega | (simp only [go_sem]; omega)) only [go_sem, ↓reduceIte]
      refine call_by r4 ?_
      simp (config := { maxSteps := 1000000 }) (disch := first | omega | (simp only [go_sem]; omega)) only [go_sem, ↓reduceIte]
      refine call_by r5 ?_
      simp (config := { maxSteps := 1000000 }) (disch := first | omega | (simp only [go_sem]; omega)) only [go_sem, ↓reduceIte]
      refine call_by r6 ?_
      simp (config := { maxSteps := 1000000 }) (disch := first | omega | (simp only [go_sem]; omega)) only [go_sem, ↓reduceIte, hf1]
      refine call_by r7 ?_
      simp (config := { maxSteps := 1000000 }) (disch := first | omega | (simp only [go_sem]; omega)) only [go_sem, ↓reduceIte, hf2]
      refine call_by r8 ?_
      simp (config := { maxSteps := 1000000 }) (disch := first | omega | (simp only [go_sem]; omega)) only [go_sem, ↓reduceIte, hf3]
      refine call_by r9 ?_
      simp (config := { maxSteps := 1000000 }) (disch := first | omega | (simp only [go_sem]; omega)) only [go_sem, ↓reduceIte]
      refine call_by r10 ?_
      simp (config := { maxSteps := 1000000 }) (disch := first | omega | (simp only [go_sem]; omega)) only [go_sem, ↓reduceIte, d5]
      refine W_loop (fun i : Nat => ⟨[(7, .pt 2 0), (23, .sl 3 0 (S1 i).length), (24, .sl 4 0 (S2 i).length), (143, .sl 5 0 ku.length), (144, .int .i64 ku.length), (145, .int .i64 i)],
        [(0, .arr 1 (ints un)), (1, .arr 3 (eds ue)), (2, .box [.sl 0 0 un.length, .sl 1 0 ue.length]), (3, .arr 1 (ints (S1 i))), (4, .arr 1 (ints (S2 i))), (5, .arr 2 (pts ku))], 6⟩) (fun i => i ≤ ku.length) (fun i => ku.length - i) 0 ?_ ?_ ?_
      · simp (config := { maxSteps := 1000000 }) (disch := first | omega | (simp only [go_sem]; omega)) only [go_sem, ↓reduceIte, g1, g2]
        rfl
      · simp
      · intro i hi
        have b1 := f1 i hi
        have b2 := f2 i hi
        by_cases c : i < ku.length
        · have d6 : decide ((i : Int) < ku.length) = true := decide_eq_true (by omega)
          have w1 := f1 (i + 1) (by omega)
          have w2 := f2 (i + 1) (by omega)
          have t1 := g3 i c
          have t2 := g4 i c
          rw [t1, List.length_append] at w1
          rw [t2, List.length_append] at w2
          simp (config := { maxSteps := 1000000 }) (disch := first | omega | (simp only [go_sem]; omega)) only [go_sem, ↓reduceIte, c_l05_GraphParts_b20, d6]
          exact ⟨i + 1, by simp [t1, t2], by omega, by omega⟩
        · have d6 : decide ((i : Int) < ku.length) = false := decide_eq_false (by omega)
          obtain rfl : i = ku.length := by omega
          have r13 := hso (S1 ku.length) (by unfold maxL; omega)
          have r14 := hso (S2 ku.length) (by unfold maxL; omega)
          have l13 := ls (S1 ku.length)
          have l14 := ls (S2 ku.length)
          rw [g5] at r13 l13
          rw [g6] at r14 l14
          have r15 := he (nums 0 un.length) (nums 0 un.length) (by rw [nums_len]; unfold maxL; omega)
          have r16 := he (nums 0 ue.length) (nums 0 ue.length) (by rw [nums_len]; unfold maxL; omega)
          rw [decide_eq_true rfl] at r15 r16
          generalize nums 0 un.length = y1 at *
          generalize nums 0 ue.length = y2 at *
          simp (config := { maxSteps := 1000000 }) (disch := first | omega | (simp only [go_sem]; omega)) only [go_sem, ↓reduceIte, c_l05_GraphParts_b20, d6]
          refine call_by r13 ?_
          simp (config := { maxSteps := 1000000 }) (disch := first | omega | (simp only [go_sem]; omega)) only [go_sem, ↓reduceIte, l13]
          refine call_by r14 ?_
          simp (config := { maxSteps := 1000000 }) (disch := first | omega | (simp only [go_sem]; omega)) only [go_sem, ↓reduceIte, l13, l14]
          refine call_by r11 ?_
          simp (config := { maxSteps := 1000000 }) (disch := first | omega | (simp only [go_sem]; omega)) only [go_sem, ↓reduceIte, l13, l14]
          refine call_by r15 ?_
          simp (config := { maxSteps := 1000000 }) (disch := first | omega | (simp only [go_sem]; omega)) only [go_sem, ↓reduceIte, l13, l14]
          refine call_by r12 ?_
          simp (config := { maxSteps := 1000000 }) (disch := first | omega | (simp only [go_sem]; omega)) only [go_sem, ↓reduceIte, l13, l14]
          refine call_by r16 ?_
          simp (config := { maxSteps := 1000000 }) (disch := first | omega | (simp only [go_sem]; omega)) only [go_sem, ↓reduceIte]
theorem x_l05_GraphParts (h : K_l05_GraphParts P F) (args : List D) (ha : HasEls [shDr, shDr] args) : FC P (F "l05.GraphParts") args (.bool true) [] := by
  simp only [HasEls] at ha
  obtain ⟨_, _, rfl, h1, _, _, rfl, h2, rfl⟩ := ha
  obtain ⟨x, rfl, a1, a2, a3⟩ := rd_draft h1
  obtain ⟨y, rfl, b1, b2, b3⟩ := rd_draft h2
  exact h x y a1 a2 a3 b1 b2 b3
end
end Go.Am
