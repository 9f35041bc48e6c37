/- The law GraphBack. -/
import Derived.Test.YtfkkngepnnkloaaSjO
namespace Go.Am
open Go
set_option linter.unusedVariables false
set_option linter.unusedSimpArgs false
/- l05.GraphBack -/
def c_l05_GraphBack_r0 (F : String → Nat) : List LI := [⟨some 2, .bx (.t 0), none⟩,
  ⟨some 4, .mov (.k (.bool false)), none⟩]
def c_l05_GraphBack_r1 (F : String → Nat) : List LI := [⟨some 23, .call (F "l05.awake") [] [], none⟩,
  ⟨some 24, .not (.t 23), none⟩,
  ⟨some 25, .mov (.t 24), none⟩,
  ⟨some 26, .fad 0 (.t 2), some (25, false)⟩,
  ⟨some 27, .load false 1 (.t 26), some (25, false)⟩,
  ⟨some 28, .len (.t 27), some (25, false)⟩,
  ⟨some 29, .bin .gtr (.t 28) (.k (.int .i64 (8))), some (25, false)⟩,
  ⟨some 30, .pick (.t 25) (.k (.bool true)) (.t 29), none⟩,
  ⟨some 31, .mov (.t 30), none⟩,
  ⟨some 32, .fad 1 (.t 2), some (31, false)⟩,
  ⟨some 33, .load false 1 (.t 32), some (31, false)⟩,
  ⟨some 34, .len (.t 33), some (31, false)⟩,
  ⟨some 35, .bin .gtr (.t 34) (.k (.int .i64 (10))), some (31, false)⟩,
  ⟨some 36, .pick (.t 31) (.k (.bool true)) (.t 35), none⟩,
  ⟨some 37, .mov (.t 36), none⟩,
  ⟨some 38, .mov (.t 1), some (37, false)⟩,
  ⟨some 39, .len (.t 38), some (37, false)⟩,
  ⟨some 40, .bin .gtr (.t 39) (.k (.int .i64 (20))), some (37, false)⟩,
  ⟨some 41, .pick (.t 37) (.k (.bool true)) (.t 40), none⟩]
def c_l05_GraphBack_r2 (F : String → Nat) : List LI := [⟨some 42, .call (F "l05.awake") [] [], none⟩,
  ⟨some 4, .mov (.t 42), none⟩]
def c_l05_GraphBack_r3 (F : String → Nat) : List LI := [⟨some 43, .load true 2 (.t 2), none⟩,
  ⟨some 44, .call (F "r05.Made") [.t 43] [], none⟩,
  ⟨some 5, .alloc [.nl 1, .nl 3], none⟩,
  ⟨none, .store 2 (.t 5) (.t 44), none⟩]
def c_l05_GraphBack_r4 (F : String → Nat) : List LI := [⟨some 45, .fad 0 (.t 5), none⟩,
  ⟨some 46, .load false 1 (.t 45), none⟩,
  ⟨some 47, .len (.t 46), none⟩,
  ⟨some 48, .mov (.t 1), none⟩,
  ⟨some 49, .call (F "r05.Shuffle") [.t 47, .t 48] [], none⟩,
  ⟨some 50, .fad 1 (.t 5), none⟩,
  ⟨some 51, .load false 1 (.t 50), none⟩,
  ⟨some 52, .len (.t 51), none⟩,
  ⟨some 53, .mov (.t 1), none⟩,
  ⟨some 54, .call (F "r05.Shuffle") [.t 52, .t 53] [], none⟩,
  ⟨some 55, .build [.nl 1, .nl 1] [(0, 1, .t 49), (1, 1, .t 54)], none⟩,
  ⟨some 6, .alloc [.nl 1, .nl 1], none⟩,
  ⟨none, .store 2 (.t 6) (.t 55), none⟩]
def c_l05_GraphBack_r5 (F : String → Nat) : List LI := [⟨some 56, .fad 0 (.t 5), none⟩,
  ⟨some 57, .load false 1 (.t 56), none⟩,
  ⟨some 58, .len (.t 57), none⟩,
  ⟨some 59, .makeSl 1 8 (.int .i64 (0)) (.t 58), none⟩,
  ⟨some 60, .fad 1 (.t 5), none⟩,
  ⟨some 61, .load false 1 (.t 60), none⟩,
  ⟨some 62, .len (.t 61), none⟩,
  ⟨some 63, .makeSl 1 8 (.int .i64 (0)) (.t 62), none⟩,
  ⟨some 64, .build [.nl 1, .nl 1] [(0, 1, .t 59), (1, 1, .t 63)], none⟩,
  ⟨some 7, .alloc [.nl 1, .nl 1], none⟩,
  ⟨none, .store 2 (.t 7) (.t 64), none⟩]
def c_l05_GraphBack_r6 (F : String → Nat) : List LI := [⟨some 65, .fad 0 (.t 6), none⟩,
  ⟨some 66, .load false 1 (.t 65), none⟩,
  ⟨some 67, .len (.t 66), none⟩,
  ⟨some 68, .mov (.k (.int .i64 (0))), none⟩]
def c_l05_GraphBack_r7 (F : String → Nat) : List LI := [⟨some 69, .bin .lss (.t 68) (.t 67), none⟩]
def c_l05_GraphBack_r8 (F : String → Nat) : List LI := [⟨some 70, .mov (.t 68), none⟩,
  ⟨some 71, .iad 1 (.t 66) (.t 68), none⟩,
  ⟨some 72, .load false 1 (.t 71), none⟩,
  ⟨some 8, .mov (.t 70), none⟩,
  ⟨some 9, .mov (.t 72), none⟩]
def c_l05_GraphBack_r9 (F : String → Nat) : List LI := [⟨some 73, .fad 0 (.t 7), none⟩,
  ⟨some 74, .load false 1 (.t 73), none⟩,
  ⟨some 75, .mov (.t 9), none⟩,
  ⟨some 76, .mov (.t 8), none⟩,
  ⟨some 77, .iad 1 (.t 74) (.t 75), none⟩,
  ⟨none, .store 1 (.t 77) (.t 76), none⟩]
def c_l05_GraphBack_r10 (F : String → Nat) : List LI := [⟨some 78, .bin .add (.t 68) (.k (.int .i64 (1))), none⟩,
  ⟨some 68, .mov (.t 78), none⟩]
def c_l05_GraphBack_b11 (F : String → Nat) : LC := (.seq (.reg (c_l05_GraphBack_r7 F) [5, 6, 7, 66, 67, 68, 69]) (.seq (.cond (.t 69) .skip (.exit 0)) (.seq (.block 1 (.seq (.reg (c_l05_GraphBack_r8 F) [5, 6, 7, 8, 9, 66, 67, 68]) (.reg (c_l05_GraphBack_r9 F) [5, 6, 7, 66, 67, 68]))) (.reg (c_l05_GraphBack_r10 F) [5, 6, 7, 66, 67, 68]))))
def c_l05_GraphBack_r12 (F : String → Nat) : List LI := [⟨some 79, .fad 1 (.t 6), none⟩,
  ⟨some 80, .load false 1 (.t 79), none⟩,
  ⟨some 81, .len (.t 80), none⟩,
  ⟨some 82, .mov (.k (.int .i64 (0))), none⟩]
def c_l05_GraphBack_r13 (F : String → Nat) : List LI := [⟨some 83, .bin .lss (.t 82) (.t 81), none⟩]
def c_l05_GraphBack_r14 (F : String → Nat) : List LI := [⟨some 84, .mov (.t 82), none⟩,
  ⟨some 85, .iad 1 (.t 80) (.t 82), none⟩,
  ⟨some 86, .load false 1 (.t 85), none⟩,
  ⟨some 10, .mov (.t 84), none⟩,
  ⟨some 11, .mov (.t 86), none⟩]
def c_l05_GraphBack_r15 (F : String → Nat) : List LI := [⟨some 87, .fad 1 (.t 7), none⟩,
  ⟨some 88, .load false 1 (.t 87), none⟩,
  ⟨some 89, .mov (.t 11), none⟩,
  ⟨some 90, .mov (.t 10), none⟩,
  ⟨some 91, .iad 1 (.t 88) (.t 89), none⟩,
  ⟨none, .store 1 (.t 91) (.t 90), none⟩]
def c_l05_GraphBack_r16 (F : String → Nat) : List LI := [⟨some 92, .bin .add (.t 82) (.k (.int .i64 (1))), none⟩,
  ⟨some 82, .mov (.t 92), none⟩]
def c_l05_GraphBack_b17 (F : String → Nat) : LC := (.seq (.reg (c_l05_GraphBack_r13 F) [5, 6, 7, 80, 81, 82, 83]) (.seq (.cond (.t 83) .skip (.exit 2)) (.seq (.block 3 (.seq (.reg (c_l05_GraphBack_r14 F) [5, 6, 7, 10, 11, 80, 81, 82]) (.reg (c_l05_GraphBack_r15 F) [5, 6, 7, 80, 81, 82]))) (.reg (c_l05_GraphBack_r16 F) [5, 6, 7, 80, 81, 82]))))
def c_l05_GraphBack_r18 (F : String → Nat) : List LI := [⟨some 94, .load true 2 (.t 5), none⟩,
  ⟨some 95, .load true 2 (.t 6), none⟩,
  ⟨some 96, .call (F "graph.Reorder") [.t 94, .t 95] [], none⟩,
  ⟨some 93, .mov (.t 96), none⟩,
  ⟨some 97, .ext (.t 93) 0, none⟩,
  ⟨some 98, .ext (.t 93) 1, none⟩,
  ⟨some 12, .alloc [.nl 1, .nl 3], none⟩,
  ⟨none, .store 2 (.t 12) (.t 97), none⟩,
  ⟨some 13, .mov (.t 98), none⟩]
def c_l05_GraphBack_r19 (F : String → Nat) : List LI := [⟨some 99, .mov (.t 13), none⟩,
  ⟨some 100, .bin .neq (.t 99) (.k (.int .i64 (0))), none⟩]
def c_l05_GraphBack_r20 (F : String → Nat) : List LI := [⟨some 4, .mov (.k (.bool false)), none⟩]
def c_l05_GraphBack_r21 (F : String → Nat) : List LI := [⟨some 101, .fad 0 (.t 5), none⟩,
  ⟨some 102, .load false 1 (.t 101), none⟩,
  ⟨some 103, .len (.t 102), none⟩,
  ⟨some 104, .mov (.k (.int .i64 (0))), none⟩]
def c_l05_GraphBack_r22 (F : String → Nat) : List LI := [⟨some 105, .bin .lss (.t 104) (.t 103), none⟩]
def c_l05_GraphBack_r23 (F : String → Nat) : List LI := [⟨some 106, .mov (.t 104), none⟩,
  ⟨some 14, .mov (.t 106), none⟩]
def c_l05_GraphBack_r24 (F : String → Nat) : List LI := [⟨some 108, .load true 2 (.t 5), none⟩,
  ⟨some 109, .mov (.t 14), none⟩,
  ⟨some 110, .call (F "graph.Incident") [.t 108, .t 109] [], none⟩,
  ⟨some 107, .mov (.t 110), none⟩,
  ⟨some 111, .ext (.t 107) 0, none⟩,
  ⟨some 112, .ext (.t 107) 1, none⟩,
  ⟨some 113, .ext (.t 107) 2, none⟩,
  ⟨some 15, .mov (.t 111), none⟩,
  ⟨some 16, .mov (.t 112), none⟩,
  ⟨some 17, .mov (.t 113), none⟩]
def c_l05_GraphBack_r25 (F : String → Nat) : List LI := [⟨some 115, .load true 2 (.t 12), none⟩,
  ⟨some 116, .fad 0 (.t 6), none⟩,
  ⟨some 117, .load false 1 (.t 116), none⟩,
  ⟨some 118, .mov (.t 14), none⟩,
  ⟨some 119, .iad 1 (.t 117) (.t 118), none⟩,
  ⟨some 120, .load false 1 (.t 119), none⟩,
  ⟨some 121, .call (F "graph.Incident") [.t 115, .t 120] [], none⟩,
  ⟨some 114, .mov (.t 121), none⟩,
  ⟨some 122, .ext (.t 114) 0, none⟩,
  ⟨some 123, .ext (.t 114) 1, none⟩,
  ⟨some 124, .ext (.t 114) 2, none⟩,
  ⟨some 18, .mov (.t 122), none⟩,
  ⟨some 19, .mov (.t 123), none⟩,
  ⟨some 20, .mov (.t 124), none⟩]
def c_l05_GraphBack_r26 (F : String → Nat) : List LI := [⟨some 125, .mov (.t 17), none⟩,
  ⟨some 126, .bin .neq (.t 125) (.k (.int .i64 (0))), none⟩,
  ⟨some 127, .mov (.t 126), none⟩,
  ⟨some 128, .mov (.t 20), some (127, false)⟩,
  ⟨some 129, .bin .neq (.t 128) (.k (.int .i64 (0))), some (127, false)⟩,
  ⟨some 130, .pick (.t 127) (.k (.bool true)) (.t 129), none⟩,
  ⟨some 131, .mov (.t 130), none⟩,
  ⟨some 132, .mov (.t 15), some (131, false)⟩,
  ⟨some 133, .len (.t 132), some (131, false)⟩,
  ⟨some 134, .mov (.t 18), some (131, false)⟩,
  ⟨some 135, .len (.t 134), some (131, false)⟩,
  ⟨some 136, .bin .neq (.t 133) (.t 135), some (131, false)⟩,
  ⟨some 137, .pick (.t 131) (.k (.bool true)) (.t 136), none⟩,
  ⟨some 138, .mov (.t 137), none⟩,
  ⟨some 139, .mov (.t 16), some (138, false)⟩,
  ⟨some 140, .len (.t 139), some (138, false)⟩,
  ⟨some 141, .mov (.t 19), some (138, false)⟩,
  ⟨some 142, .len (.t 141), some (138, false)⟩,
  ⟨some 143, .bin .neq (.t 140) (.t 142), some (138, false)⟩,
  ⟨some 144, .pick (.t 138) (.k (.bool true)) (.t 143), none⟩]
def c_l05_GraphBack_r27 (F : String → Nat) : List LI := [⟨some 4, .mov (.k (.bool false)), none⟩]
def c_l05_GraphBack_r28 (F : String → Nat) : List LI := [⟨some 145, .bin .add (.t 104) (.k (.int .i64 (1))), none⟩,
  ⟨some 104, .mov (.t 145), none⟩]
def c_l05_GraphBack_b29 (F : String → Nat) : LC := (.seq (.reg (c_l05_GraphBack_r22 F) [5, 6, 7, 12, 103, 104, 105]) (.seq (.cond (.t 105) .skip (.exit 4)) (.seq (.block 5 (.seq (.reg (c_l05_GraphBack_r23 F) [5, 6, 7, 12, 14, 103, 104]) (.seq (.reg (c_l05_GraphBack_r24 F) [5, 6, 7, 12, 14, 15, 16, 17, 103, 104]) (.seq (.dreg [] (c_l05_GraphBack_r25 F) [5, 6, 7, 12, 15, 16, 17, 18, 19, 20, 103, 104]) (.seq (.reg (c_l05_GraphBack_r26 F) [5, 6, 7, 12, 103, 104, 144]) (.cond (.t 144) (.seq (.reg (c_l05_GraphBack_r27 F) [4]) .ret) .skip)))))) (.reg (c_l05_GraphBack_r28 F) [5, 6, 7, 12, 103, 104]))))
def c_l05_GraphBack_r30 (F : String → Nat) : List LI := [⟨some 147, .load true 2 (.t 12), none⟩,
  ⟨some 148, .load true 2 (.t 7), none⟩,
  ⟨some 149, .call (F "graph.Reorder") [.t 147, .t 148] [], none⟩,
  ⟨some 146, .mov (.t 149), none⟩,
  ⟨some 150, .ext (.t 146) 0, none⟩,
  ⟨some 151, .ext (.t 146) 1, none⟩,
  ⟨some 21, .alloc [.nl 1, .nl 3], none⟩,
  ⟨none, .store 2 (.t 21) (.t 150), none⟩,
  ⟨some 22, .mov (.t 151), none⟩]
def c_l05_GraphBack_r31 (F : String → Nat) : List LI := [⟨some 152, .mov (.t 22), none⟩,
  ⟨some 153, .bin .eql (.t 152) (.k (.int .i64 (0))), none⟩,
  ⟨some 154, .mov (.t 153), none⟩,
  ⟨some 155, .load true 2 (.t 21), some (154, true)⟩,
  ⟨some 156, .load true 2 (.t 5), some (154, true)⟩,
  ⟨some 157, .call (F "r05.Same") [.t 155, .t 156] [], some (154, true)⟩,
  ⟨some 158, .pick (.t 154) (.t 157) (.k (.bool false)), none⟩,
  ⟨some 4, .mov (.t 158), none⟩]
def c_l05_GraphBack (F : String → Nat) : LC := (.seq (.reg (c_l05_GraphBack_r0 F) [1, 2]) (.seq (.seq (.reg (c_l05_GraphBack_r1 F) [1, 2, 41]) (.cond (.t 41) (.seq (.reg (c_l05_GraphBack_r2 F) [4]) .ret) .skip)) (.seq (.reg (c_l05_GraphBack_r3 F) [1, 5]) (.seq (.dreg [(4, none, [], true), (6, (some 32), [4], false)] (c_l05_GraphBack_r4 F) [5, 6]) (.seq (.dreg [(5, (some 16), [], false)] (c_l05_GraphBack_r5 F) [5, 6, 7]) (.seq (.seq (.reg (c_l05_GraphBack_r6 F) [5, 6, 7, 66, 67, 68]) (.block 0 (.loop [5, 6, 7, 66, 67, 68] (c_l05_GraphBack_b11 F)))) (.seq (.seq (.reg (c_l05_GraphBack_r12 F) [5, 6, 7, 80, 81, 82]) (.block 2 (.loop [5, 6, 7, 80, 81, 82] (c_l05_GraphBack_b17 F)))) (.seq (.reg (c_l05_GraphBack_r18 F) [5, 6, 7, 12, 13]) (.seq (.seq (.reg (c_l05_GraphBack_r19 F) [5, 6, 7, 12, 100]) (.cond (.t 100) (.seq (.reg (c_l05_GraphBack_r20 F) [4]) .ret) .skip)) (.seq (.seq (.reg (c_l05_GraphBack_r21 F) [5, 6, 7, 12, 103, 104]) (.block 4 (.loop [5, 6, 7, 12, 103, 104] (c_l05_GraphBack_b29 F)))) (.seq (.reg (c_l05_GraphBack_r30 F) [5, 21, 22]) (.seq (.reg (c_l05_GraphBack_r31 F) [4]) .ret))))))))))))
def h_l05_GraphBack : Hints := ⟨[], fun _ => [], tab [(0, [1, 2]), (1, [1, 2, 41]), (2, [4]), (3, [1, 5]), (4, [5, 6]), (5, [5, 6, 7]), (6, [5, 6, 7, 66, 67, 68]), (7, [5, 6, 7, 66, 67, 68, 69]), (8, [5, 6, 7, 8, 9, 66, 67, 68]), (9, [5, 6, 7, 66, 67, 68]), (10, [5, 6, 7, 66, 67, 68]), (11, [5, 6, 7, 80, 81, 82]), (12, [5, 6, 7, 80, 81, 82, 83]), (13, [5, 6, 7, 10, 11, 80, 81, 82]), (14, [5, 6, 7, 80, 81, 82]), (15, [5, 6, 7, 80, 81, 82]), (16, [5, 6, 7, 12, 13]), (17, [5, 6, 7, 12, 100]), (18, [4]), (19, [5, 6, 7, 12, 103, 104]), (20, [5, 6, 7, 12, 103, 104, 105]), (21, [5, 6, 7, 12, 14, 103, 104]), (22, [5, 6, 7, 12, 14, 15, 16, 17, 103, 104]), (23, [5, 6, 7, 12, 15, 16, 17, 18, 19, 20, 103, 104]), (24, [5, 6, 7, 12, 103, 104, 144]), (25, [4]), (26, [5, 6, 7, 12, 103, 104]), (27, [5, 21, 22]), (28, [4])], tab [(7, [5, 6, 7, 66, 67, 68]), (12, [5, 6, 7, 80, 81, 82]), (20, [5, 6, 7, 12, 103, 104])]⟩

attribute [go_sem] c_l05_GraphBack_r0 c_l05_GraphBack_r1 c_l05_GraphBack_r2 c_l05_GraphBack_r3 c_l05_GraphBack_r4 c_l05_GraphBack_r5 c_l05_GraphBack_r6 c_l05_GraphBack_r7 c_l05_GraphBack_r8 c_l05_GraphBack_r9 c_l05_GraphBack_r10 c_l05_GraphBack_r12 c_l05_GraphBack_r13 c_l05_GraphBack_r14 c_l05_GraphBack_r15 c_l05_GraphBack_r16 c_l05_GraphBack_r18 c_l05_GraphBack_r19 c_l05_GraphBack_r20 c_l05_GraphBack_r21 c_l05_GraphBack_r22 c_l05_GraphBack_r23 c_l05_GraphBack_r24 c_l05_GraphBack_r25 c_l05_GraphBack_r26 c_l05_GraphBack_r27 c_l05_GraphBack_r28 c_l05_GraphBack_r30 c_l05_GraphBack_r31 c_l05_GraphBack
section
variable (P : Program) (F : String → Nat)
def K_l05_GraphBack : Prop := ∀ (x : Dr) (cs : List Int), x.ok → (∀ v ∈ cs, Byte v) → x.n.length ≤ maxL → x.e.length ≤ maxL → cs.length ≤ maxL → FC P (F "l05.GraphBack") [drD x, .lst 1 (u8s cs)] (.bool true) []
end
section
variable {P : Program} {F : String → Nat} {α : Type}
theorem shufK_lt {n : Nat} {cs : List Int} {i : Nat} (h1 : i < n) (h2 : i < cs.length) (h3 : ∀ v ∈ cs, Byte v) : shufK n cs i < n := by
  have ho := h3 _ (gt_mem (l := cs) (j := i) (by omega) (by omega))
  have hb := tmod_bd (x := gt cs i) (m := (n : Int) - i) ho.1 (by omega)
  unfold shufK
  omega
theorem shufL_perm {n : Nat} {cs : List Int} (h3 : ∀ v ∈ cs, Byte v) : ∀ i, i ≤ n → i ≤ cs.length → (shufL n cs i).Perm (nums 0 n)
  | 0, _, _ => List.Perm.refl _
  | i + 1, h1, h2 => by
    have hl := shufL_len n cs i
    have hk := shufK_lt (n := n) (cs := cs) (i := i) (by omega) (by omega) h3
    refine List.Perm.trans ?_ (shufL_perm h3 i (by omega) (by omega))
    simp only [shufL, swapL]
    rw [gt_nat (by omega), gt_nat (by omega)]
    exact List.set_set_perm (by omega) (by omega)
theorem madeN_len (x : Dr) : (madeN x).length ≤ 8 := by simp [madeN]; omega
theorem madeE_len (x : Dr) : (madeG x).e.length ≤ 10 := by
  simp only [madeG]
  split
  · simp
  · simp; omega
theorem madeG_valid {x : Dr} (hx : x.ok) : validG (madeG x) = 0 := by
  have h1 := madeN_len x
  have h2 := madeE_len x
  unfold validG
  rw [if_neg (show ¬ (40 < (madeG x).n.length ∨ 80 < (madeG x).e.length) by simp only [madeG] at h2 ⊢; omega), if_pos]
  simp only [Bool.and_eq_true, List.all_eq_true]
  refine ⟨fun v hv => ?_, fun v hv => ?_⟩
  · simp only [madeG, madeN, List.mem_map] at hv
    obtain ⟨u, hu, rfl⟩ := hv
    have := hx.1 u (List.mem_of_mem_take hu)
    have := tmod_bd (x := u) (m := 3) this.1 (by omega)
    simp only [okN, decide_eq_true_eq]
    omega
  · simp only [madeG] at hv
    split at hv
    · simp at hv
    · rename_i h0
      simp only [List.mem_map] at hv
      obtain ⟨u, hu, rfl⟩ := hv
      obtain ⟨o1, o2, o3⟩ := hx.2 u (List.mem_of_mem_take hu)
      have b1 := tmod_bd (x := u.t) (m := 2) o1.1 (by omega)
      have b2 := tmod_bd (x := u.f) (m := (madeN x).length) o2.1 (by omega)
      have b3 := tmod_bd (x := u.o) (m := (madeN x).length) o3.1 (by omega)
      exact fits_mk (by simp only [madeE]; omega) b2 b3
theorem w_l05_GraphBack (hw : K_l05_awake P F) (hm : K_r05_Made P F) (hsh : K_r05_Shuffle P F) (hr : K_graph_Reorder P F) (hinc : K_graph_Incident P F) (hs : K_r05_Same P F) (x : Dr) (cs : List Int) (hx : x.ok) (hc : ∀ v ∈ cs, Byte v) (l1 : x.n.length ≤ maxL) (l2 : x.e.length ≤ maxL) (l3 : cs.length ≤ maxL) :
    W P (c_l05_GraphBack F) (Done [.t 4] [] (.bool true) []) (init [drD x, .lst 1 (u8s cs)]) := by
  refine W_of ?_
  have rm := hm x hx l1 l2
  have hv := madeG_valid hx
  have hl8 := madeN_len x
  have hl10 := madeE_len x
  have hn8 : (madeG x).n.length ≤ 8 := hl8
  generalize madeG x = g at rm hv hl10 hn8
  obtain ⟨gn, ge⟩ := g
  obtain ⟨xn, xe⟩ := x
  simp only [gA] at rm
  simp only at l1 l2 hl10 hn8
  unfold maxL at l1 l2 l3
  simp (config := { maxSteps := 1000000 }) (disch := first | omega | (simp only [List.length_set, List.length_append, List.length_cons, List.length_nil, List.length_replicate]; omega)) only [go_sem, Nat.reduceEqDiff, Nat.reduceBEq, Nat.reduceAdd, Nat.reduceSub, Nat.reduceMul, Nat.reduceLT, Nat.reduceLeDiff, ↓reduceIte, reduceCtorEq, Nat.reduceDiv, Nat.reducePow, Nat.reduceMod, drD]
  refine call_by hw ?_
  simp (config := { maxSteps := 1000000 }) (disch := first | omega | (simp only [List.length_set, List.length_append, List.length_cons, List.length_nil, List.length_replicate]; omega)) only [go_sem, Nat.reduceEqDiff, Nat.reduceBEq, Nat.reduceAdd, Nat.reduceSub, Nat.reduceMul, Nat.reduceLT, Nat.reduceLeDiff, ↓reduceIte, reduceCtorEq, Nat.reduceDiv, Nat.reducePow, Nat.reduceMod]
  refine bran_dec (fun c1 => ?_) (fun c1 => ?_)
  · simp (config := { maxSteps := 1000000 }) (disch := first | omega | (simp only [List.length_set, List.length_append, List.length_cons, List.length_nil, List.length_replicate]; omega)) only [go_sem, Nat.reduceEqDiff, Nat.reduceBEq, Nat.reduceAdd, Nat.reduceSub, Nat.reduceMul, Nat.reduceLT, Nat.reduceLeDiff, ↓reduceIte, reduceCtorEq, Nat.reduceDiv, Nat.reducePow, Nat.reduceMod, c1]
    refine call_by hw ?_
    simp (config := { maxSteps := 1000000 }) (disch := first | omega | (simp only [List.length_set, List.length_append, List.length_cons, List.length_nil, List.length_replicate]; omega)) only [go_sem, Nat.reduceEqDiff, Nat.reduceBEq, Nat.reduceAdd, Nat.reduceSub, Nat.reduceMul, Nat.reduceLT, Nat.reduceLeDiff, ↓reduceIte, reduceCtorEq, Nat.reduceDiv, Nat.reducePow, Nat.reduceMod]
  · simp (config := { maxSteps := 1000000 }) (disch := first | omega | (simp only [List.length_set, List.length_append, List.length_cons, List.length_nil, List.length_replicate]; omega)) only [go_sem, Nat.reduceEqDiff, Nat.reduceBEq, Nat.reduceAdd, Nat.reduceSub, Nat.reduceMul, Nat.reduceLT, Nat.reduceLeDiff, ↓reduceIte, reduceCtorEq, Nat.reduceDiv, Nat.reducePow, Nat.reduceMod, c1]
    refine bran_dec (fun c2 => ?_) (fun c2 => ?_)
    · simp (config := { maxSteps := 1000000 }) (disch := first | omega | (simp only [List.length_set, List.length_append, List.length_cons, List.length_nil, List.length_replicate]; omega)) only [go_sem, Nat.reduceEqDiff, Nat.reduceBEq, Nat.reduceAdd, Nat.reduceSub, Nat.reduceMul, Nat.reduceLT, Nat.reduceLeDiff, ↓reduceIte, reduceCtorEq, Nat.reduceDiv, Nat.reducePow, Nat.reduceMod, c2]
      refine call_by hw ?_
      simp (config := { maxSteps := 1000000 }) (disch := first | omega | (simp only [List.length_set, List.length_append, List.length_cons, List.length_nil, List.length_replicate]; omega)) only [go_sem, Nat.reduceEqDiff, Nat.reduceBEq, Nat.reduceAdd, Nat.reduceSub, Nat.reduceMul, Nat.reduceLT, Nat.reduceLeDiff, ↓reduceIte, reduceCtorEq, Nat.reduceDiv, Nat.reducePow, Nat.reduceMod]
    · simp (config := { maxSteps := 1000000 }) (disch := first | omega | (simp only [List.length_set, List.length_append, List.length_cons, List.length_nil, List.length_replicate]; omega)) only [go_sem, Nat.reduceEqDiff, Nat.reduceBEq, Nat.reduceAdd, Nat.reduceSub, Nat.reduceMul, Nat.reduceLT, Nat.reduceLeDiff, ↓reduceIte, reduceCtorEq, Nat.reduceDiv, Nat.reducePow, Nat.reduceMod, c2]
      refine bran_dec (fun c3 => ?_) (fun c3 => ?_)
      · simp (config := { maxSteps := 1000000 }) (disch := first | omega | (simp only [List.length_set, List.length_append, List.length_cons, List.length_nil, List.length_replicate]; omega)) only [go_sem, Nat.reduceEqDiff, Nat.reduceBEq, Nat.reduceAdd, Nat.reduceSub, Nat.reduceMul, Nat.reduceLT, Nat.reduceLeDiff, ↓reduceIte, reduceCtorEq, Nat.reduceDiv, Nat.reducePow, Nat.reduceMod, c3]
        refine call_by hw ?_
        simp (config := { maxSteps := 1000000 }) (disch := first | omega | (simp only [List.length_set, List.length_append, List.length_cons, List.length_nil, List.length_replicate]; omega)) only [go_sem, Nat.reduceEqDiff, Nat.reduceBEq, Nat.reduceAdd, Nat.reduceSub, Nat.reduceMul, Nat.reduceLT, Nat.reduceLeDiff, ↓reduceIte, reduceCtorEq, Nat.reduceDiv, Nat.reducePow, Nat.reduceMod]
      · simp (config := { maxSteps := 1000000 }) (disch := first | omega | (simp only [List.length_set, List.length_append, List.length_cons, List.length_nil, List.length_replicate]; omega)) only [go_sem, Nat.reduceEqDiff, Nat.reduceBEq, Nat.reduceAdd, Nat.reduceSub, Nat.reduceMul, Nat.reduceLT, Nat.reduceLeDiff, ↓reduceIte, reduceCtorEq, Nat.reduceDiv, Nat.reducePow, Nat.reduceMod, c3]
        simp only [drD] at rm
        refine call_by rm ?_
        simp (config := { maxSteps := 1000000 }) (disch := first | omega | (simp only [List.length_set, List.length_append, List.length_cons, List.length_nil, List.length_replicate]; omega)) only [go_sem, Nat.reduceEqDiff, Nat.reduceBEq, Nat.reduceAdd, Nat.reduceSub, Nat.reduceMul, Nat.reduceLT, Nat.reduceLeDiff, ↓reduceIte, reduceCtorEq, Nat.reduceDiv, Nat.reducePow, Nat.reduceMod]
        refine call_by (hsh gn.length cs (by omega) (by unfold maxL; omega) hc) ?_
        simp (config := { maxSteps := 1000000 }) (disch := first | omega | (simp only [List.length_set, List.length_append, List.length_cons, List.length_nil, List.length_replicate]; omega)) only [go_sem, Nat.reduceEqDiff, Nat.reduceBEq, Nat.reduceAdd, Nat.reduceSub, Nat.reduceMul, Nat.reduceLT, Nat.reduceLeDiff, ↓reduceIte, reduceCtorEq, Nat.reduceDiv, Nat.reducePow, Nat.reduceMod, shufL_len]
        refine call_by (hsh ge.length cs (by omega) (by unfold maxL; omega) hc) ?_
        simp (config := { maxSteps := 1000000 }) (disch := first | omega | (simp only [List.length_set, List.length_append, List.length_cons, List.length_nil, List.length_replicate]; omega)) only [go_sem, Nat.reduceEqDiff, Nat.reduceBEq, Nat.reduceAdd, Nat.reduceSub, Nat.reduceMul, Nat.reduceLT, Nat.reduceLeDiff, ↓reduceIte, reduceCtorEq, Nat.reduceDiv, Nat.reducePow, Nat.reduceMod, shufL_len]
        have p1 := shufL_perm (n := gn.length) hc (min gn.length cs.length) (by omega) (by omega)
        have p2 := shufL_perm (n := ge.length) hc (min ge.length cs.length) (by omega) (by omega)
        generalize shufL gn.length cs (min gn.length cs.length) = pn at p1
        generalize shufL ge.length cs (min ge.length cs.length) = pe at p2
        have e1 := perm_len p1
        have e2 := perm_len p2
        refine W_loop (fun i : Nat => ⟨[(5, D.pt 2 0), (6, D.pt 5 0), (7, D.pt 8 0), (66, D.sl 3 0 gn.length), (67, D.int IntKind.i64 gn.length), (68, D.int IntKind.i64 i)],
          [(0, Ent.arr 1 (ints gn)), (1, Ent.arr 3 (eds ge)), (2, Ent.box [D.sl 0 0 gn.length, D.sl 1 0 ge.length]), (3, Ent.arr 1 (ints pn)), (4, Ent.arr 1 (ints pe)), (5, Ent.box [D.sl 3 0 gn.length, D.sl 4 0 ge.length]),
            (6, Ent.arr 1 (ints (placeK pn (nums 0 gn.length) i))), (7, Ent.arr 1 (ints (List.replicate ge.length 0))), (8, Ent.box [D.sl 6 0 gn.length, D.sl 7 0 ge.length])], 9⟩) (fun i => i ≤ gn.length) (fun i => gn.length - i) 0 ?_ ?_ ?_
        · simp (config := { maxSteps := 1000000 }) (disch := first | omega | (simp only [List.length_set, List.length_append, List.length_cons, List.length_nil, List.length_replicate]; omega)) only [go_sem, Nat.reduceEqDiff, Nat.reduceBEq, Nat.reduceAdd, Nat.reduceSub, Nat.reduceMul, Nat.reduceLT, Nat.reduceLeDiff, ↓reduceIte, reduceCtorEq, Nat.reduceDiv, Nat.reducePow, Nat.reduceMod, placeK, nums_len]
          rfl
        · omega
        · intro i hi
          have el := placeK_len pn (nums 0 gn.length) i
          rw [nums_len] at el
          simp (config := { maxSteps := 1000000 }) (disch := first | omega | (simp only [List.length_set, List.length_append, List.length_cons, List.length_nil, List.length_replicate]; omega)) only [go_sem, Nat.reduceEqDiff, Nat.reduceBEq, Nat.reduceAdd, Nat.reduceSub, Nat.reduceMul, Nat.reduceLT, Nat.reduceLeDiff, ↓reduceIte, reduceCtorEq, Nat.reduceDiv, Nat.reducePow, Nat.reduceMod, c_l05_GraphBack_b11]
          refine bran_dec (fun c => ?_) (fun c => ?_)
          · have hpi := perm_in p1 (j := i) (by omega) (by omega)
            simp (config := { maxSteps := 1000000 }) (disch := first | omega | (simp only [List.length_set, List.length_append, List.length_cons, List.length_nil, List.length_replicate]; omega)) only [go_sem, Nat.reduceEqDiff, Nat.reduceBEq, Nat.reduceAdd, Nat.reduceSub, Nat.reduceMul, Nat.reduceLT, Nat.reduceLeDiff, ↓reduceIte, reduceCtorEq, Nat.reduceDiv, Nat.reducePow, Nat.reduceMod, el, e1]
            exact ⟨i + 1, by simp [placeK, gt_nums (show i < gn.length by omega)], by omega, by omega⟩
          · obtain rfl : i = gn.length := by omega
            simp (config := { maxSteps := 1000000 }) (disch := first | omega | (simp only [List.length_set, List.length_append, List.length_cons, List.length_nil, List.length_replicate]; omega)) only [go_sem, Nat.reduceEqDiff, Nat.reduceBEq, Nat.reduceAdd, Nat.reduceSub, Nat.reduceMul, Nat.reduceLT, Nat.reduceLeDiff, ↓reduceIte, reduceCtorEq, Nat.reduceDiv, Nat.reducePow, Nat.reduceMod, el, e1, e2]
            have hq1 : placeK pn (nums 0 gn.length) gn.length = invP pn := by unfold invP; rw [e1]
            rw [hq1] at el ⊢
            have rr := hr ⟨gn, ge⟩ ⟨pn, pe⟩ hv p1 p2
            have rv := reG_valid (m := ⟨pn, pe⟩) hv p1 p2
            have rb := reG_back (m := ⟨pn, pe⟩) hv p1 p2
            have ri := fun i => inc_len (m := ⟨pn, pe⟩) (i := i) hv p1 p2
            have hl1 : (reG ⟨gn, ge⟩ ⟨pn, pe⟩).n.length = gn.length := placeK_len _ _ _
            have hl2 : (reG ⟨gn, ge⟩ ⟨pn, pe⟩).e.length = ge.length := by simp only [reG, placeK_len, List.length_map]
            generalize reG ⟨gn, ge⟩ ⟨pn, pe⟩ = hh at rr rv rb ri hl1 hl2
            obtain ⟨hn, he⟩ := hh
            have rr2 := hr ⟨hn, he⟩ ⟨invP pn, invP pe⟩ rv (by rw [hl1]; exact invP_perm p1) (by rw [hl2]; exact invP_perm p2)
            rw [rb] at rr2
            simp only [gA, gD, mD] at rr rr2
            simp only at hl1 hl2 ri
            refine W_loop (fun i : Nat => ⟨[(5, D.pt 2 0), (6, D.pt 5 0), (7, D.pt 8 0), (80, D.sl 4 0 ge.length), (81, D.int IntKind.i64 ge.length), (82, D.int IntKind.i64 i)],
              [(0, Ent.arr 1 (ints gn)), (1, Ent.arr 3 (eds ge)), (2, Ent.box [D.sl 0 0 gn.length, D.sl 1 0 ge.length]), (3, Ent.arr 1 (ints pn)), (4, Ent.arr 1 (ints pe)), (5, Ent.box [D.sl 3 0 gn.length, D.sl 4 0 ge.length]),
                (6, Ent.arr 1 (ints (invP pn))), (7, Ent.arr 1 (ints (placeK pe (nums 0 ge.length) i))), (8, Ent.box [D.sl 6 0 gn.length, D.sl 7 0 ge.length])], 9⟩) (fun i => i ≤ ge.length) (fun i => ge.length - i) 0 ?_ ?_ ?_
            · simp (config := { maxSteps := 1000000 }) (disch := first | omega | (simp only [List.length_set, List.length_append, List.length_cons, List.length_nil, List.length_replicate]; omega)) only [go_sem, Nat.reduceEqDiff, Nat.reduceBEq, Nat.reduceAdd, Nat.reduceSub, Nat.reduceMul, Nat.reduceLT, Nat.reduceLeDiff, ↓reduceIte, reduceCtorEq, Nat.reduceDiv, Nat.reducePow, Nat.reduceMod, placeK, nums_len]
              rfl
            · omega
            · intro i hi
              have em := placeK_len pe (nums 0 ge.length) i
              rw [nums_len] at em
              simp (config := { maxSteps := 1000000 }) (disch := first | omega | (simp only [List.length_set, List.length_append, List.length_cons, List.length_nil, List.length_replicate]; omega)) only [go_sem, Nat.reduceEqDiff, Nat.reduceBEq, Nat.reduceAdd, Nat.reduceSub, Nat.reduceMul, Nat.reduceLT, Nat.reduceLeDiff, ↓reduceIte, reduceCtorEq, Nat.reduceDiv, Nat.reducePow, Nat.reduceMod, c_l05_GraphBack_b17]
              refine bran_dec (fun c => ?_) (fun c => ?_)
              · have hpi := perm_in p2 (j := i) (by omega) (by omega)
                simp (config := { maxSteps := 1000000 }) (disch := first | omega | (simp only [List.length_set, List.length_append, List.length_cons, List.length_nil, List.length_replicate]; omega)) only [go_sem, Nat.reduceEqDiff, Nat.reduceBEq, Nat.reduceAdd, Nat.reduceSub, Nat.reduceMul, Nat.reduceLT, Nat.reduceLeDiff, ↓reduceIte, reduceCtorEq, Nat.reduceDiv, Nat.reducePow, Nat.reduceMod, em, e2]
                exact ⟨i + 1, by simp [placeK, gt_nums (show i < ge.length by omega)], by omega, by omega⟩
              · obtain rfl : i = ge.length := by omega
                have hq2 : placeK pe (nums 0 ge.length) ge.length = invP pe := by unfold invP; rw [e2]
                rw [hq2] at em ⊢
                simp (config := { maxSteps := 1000000 }) (disch := first | omega | (simp only [List.length_set, List.length_append, List.length_cons, List.length_nil, List.length_replicate]; omega)) only [go_sem, Nat.reduceEqDiff, Nat.reduceBEq, Nat.reduceAdd, Nat.reduceSub, Nat.reduceMul, Nat.reduceLT, Nat.reduceLeDiff, ↓reduceIte, reduceCtorEq, Nat.reduceDiv, Nat.reducePow, Nat.reduceMod, el, em, e1, e2]
                refine call_by rr ?_
                simp (config := { maxSteps := 1000000 }) (disch := first | omega | (simp only [List.length_set, List.length_append, List.length_cons, List.length_nil, List.length_replicate]; omega)) only [go_sem, Nat.reduceEqDiff, Nat.reduceBEq, Nat.reduceAdd, Nat.reduceSub, Nat.reduceMul, Nat.reduceLT, Nat.reduceLeDiff, ↓reduceIte, reduceCtorEq, Nat.reduceDiv, Nat.reducePow, Nat.reduceMod]
                refine W_loop (fun i : Nat => ⟨[(5, D.pt 2 0), (6, D.pt 5 0), (7, D.pt 8 0), (12, D.pt 11 0), (103, D.int IntKind.i64 gn.length), (104, D.int IntKind.i64 i)],
                  [(0, Ent.arr 1 (ints gn)), (1, Ent.arr 3 (eds ge)), (2, Ent.box [D.sl 0 0 gn.length, D.sl 1 0 ge.length]), (3, Ent.arr 1 (ints pn)), (4, Ent.arr 1 (ints pe)), (5, Ent.box [D.sl 3 0 gn.length, D.sl 4 0 ge.length]),
                    (6, Ent.arr 1 (ints (invP pn))), (7, Ent.arr 1 (ints (invP pe))), (8, Ent.box [D.sl 6 0 gn.length, D.sl 7 0 ge.length]), (9, Ent.arr 1 (ints hn)), (10, Ent.arr 3 (eds he)), (11, Ent.box [D.sl 9 0 hn.length, D.sl 10 0 he.length])], 12⟩)
                  (fun i => i ≤ gn.length) (fun i => gn.length - i) 0 ?_ ?_ ?_
                · simp (config := { maxSteps := 1000000 }) (disch := first | omega | (simp only [List.length_set, List.length_append, List.length_cons, List.length_nil, List.length_replicate]; omega)) only [go_sem, Nat.reduceEqDiff, Nat.reduceBEq, Nat.reduceAdd, Nat.reduceSub, Nat.reduceMul, Nat.reduceLT, Nat.reduceLeDiff, ↓reduceIte, reduceCtorEq, Nat.reduceDiv, Nat.reducePow, Nat.reduceMod]
                  rfl
                · omega
                · intro i hi2
                  simp (config := { maxSteps := 1000000 }) (disch := first | omega | (simp only [List.length_set, List.length_append, List.length_cons, List.length_nil, List.length_replicate]; omega)) only [go_sem, Nat.reduceEqDiff, Nat.reduceBEq, Nat.reduceAdd, Nat.reduceSub, Nat.reduceMul, Nat.reduceLT, Nat.reduceLeDiff, ↓reduceIte, reduceCtorEq, Nat.reduceDiv, Nat.reducePow, Nat.reduceMod, c_l05_GraphBack_b29]
                  refine bran_dec (fun c => ?_) (fun c => ?_)
                  · obtain ⟨ia, ib, ic, id_, i1, i2, i3, i4, i5, i6⟩ := ri i (by omega)
                    have r1 := hinc ⟨gn, ge⟩ (i : Int)
                    have r2 := hinc ⟨hn, he⟩ (gt pn i)
                    rw [i1] at r1
                    rw [i2] at r2
                    simp only [incD, gD] at r1 r2
                    have k3 : (ia.length : Int) = ic.length := by omega
                    have k4 : (ib.length : Int) = id_.length := by omega
                    simp (config := { maxSteps := 1000000 }) (disch := first | omega | (simp only [List.length_set, List.length_append, List.length_cons, List.length_nil, List.length_replicate]; omega)) only [go_sem, Nat.reduceEqDiff, Nat.reduceBEq, Nat.reduceAdd, Nat.reduceSub, Nat.reduceMul, Nat.reduceLT, Nat.reduceLeDiff, ↓reduceIte, reduceCtorEq, Nat.reduceDiv, Nat.reducePow, Nat.reduceMod, el, em, e1, e2]
                    refine call_by r1 ?_
                    simp (config := { maxSteps := 1000000 }) (disch := first | omega | (simp only [List.length_set, List.length_append, List.length_cons, List.length_nil, List.length_replicate]; omega)) only [go_sem, Nat.reduceEqDiff, Nat.reduceBEq, Nat.reduceAdd, Nat.reduceSub, Nat.reduceMul, Nat.reduceLT, Nat.reduceLeDiff, ↓reduceIte, reduceCtorEq, Nat.reduceDiv, Nat.reducePow, Nat.reduceMod, el, em, e1, e2]
                    refine call_by r2 ?_
                    simp (config := { maxSteps := 1000000 }) (disch := first | omega | (simp only [List.length_set, List.length_append, List.length_cons, List.length_nil, List.length_replicate]; omega)) only [go_sem, Nat.reduceEqDiff, Nat.reduceBEq, Nat.reduceAdd, Nat.reduceSub, Nat.reduceMul, Nat.reduceLT, Nat.reduceLeDiff, ↓reduceIte, reduceCtorEq, Nat.reduceDiv, Nat.reducePow, Nat.reduceMod, k3, k4]
                    exact ⟨i + 1, by simp, by omega, by omega⟩
                  · simp (config := { maxSteps := 1000000 }) (disch := first | omega | (simp only [List.length_set, List.length_append, List.length_cons, List.length_nil, List.length_replicate]; omega)) only [go_sem, Nat.reduceEqDiff, Nat.reduceBEq, Nat.reduceAdd, Nat.reduceSub, Nat.reduceMul, Nat.reduceLT, Nat.reduceLeDiff, ↓reduceIte, reduceCtorEq, Nat.reduceDiv, Nat.reducePow, Nat.reduceMod, el, em, e1, e2]
                    refine call_by rr2 ?_
                    simp (config := { maxSteps := 1000000 }) (disch := first | omega | (simp only [List.length_set, List.length_append, List.length_cons, List.length_nil, List.length_replicate]; omega)) only [go_sem, Nat.reduceEqDiff, Nat.reduceBEq, Nat.reduceAdd, Nat.reduceSub, Nat.reduceMul, Nat.reduceLT, Nat.reduceLeDiff, ↓reduceIte, reduceCtorEq, Nat.reduceDiv, Nat.reducePow, Nat.reduceMod]
                    refine call_by (hs ⟨gn, ge⟩ ⟨gn, ge⟩ (by unfold maxL; simp only; omega) (by unfold maxL; simp only; omega)) ?_
                    simp (config := { maxSteps := 1000000 }) (disch := first | omega | (simp only [List.length_set, List.length_append, List.length_cons, List.length_nil, List.length_replicate]; omega)) only [go_sem, Nat.reduceEqDiff, Nat.reduceBEq, Nat.reduceAdd, Nat.reduceSub, Nat.reduceMul, Nat.reduceLT, Nat.reduceLeDiff, ↓reduceIte, reduceCtorEq, Nat.reduceDiv, Nat.reducePow, Nat.reduceMod]
def shU8 : Sh := .int .u8
def shU8s : Sh := .slc 1 1 shU8
def shTr : Sh := .cat [shU8, shU8, shU8]
def shDr : Sh := .cat [shU8s, .slc 3 3 shTr]
theorem rd_u8 {x : D} (h : HasEl shU8 x) : ∃ n : Int, x = .int .u8 n ∧ Byte n := by
  simp only [shU8, HasEl] at h
  obtain ⟨n, rfl, h1, h2⟩ := h
  exact ⟨n, rfl, h1, h2⟩
theorem rd_u8l : ∀ {xs : List D}, (∀ y ∈ xs, HasEl shU8 y) → ∃ l : List Int, xs = u8s l ∧ ∀ v ∈ l, Byte v
  | [], _ => ⟨[], rfl, by simp⟩
  | x :: xs, h => by
    obtain ⟨l, rfl, hl⟩ := rd_u8l (xs := xs) fun y hy => h y (by simp [hy])
    obtain ⟨n, rfl, hn⟩ := rd_u8 (h x (by simp))
    exact ⟨n :: l, rfl, by simpa [hn] using hl⟩
theorem rd_u8s {x : D} (h : HasEl shU8s x) : ∃ l : List Int, x = .lst 1 (u8s l) ∧ (∀ v ∈ l, Byte v) ∧ l.length ≤ maxL := by
  simp only [shU8s, HasEl] at h
  obtain ⟨xs, rfl, h1, h2⟩ := h
  obtain ⟨l, rfl, hl⟩ := rd_u8l h2
  refine ⟨l, rfl, hl, ?_⟩
  rw [u8s_length] at h1
  unfold reachBytes at h1
  unfold maxL
  omega
theorem rd_tr {x : D} (h : HasEl shTr x) : ∃ e : E, x = .agg [.int .u8 e.t, .int .u8 e.f, .int .u8 e.o] ∧ Byte e.t ∧ Byte e.f ∧ Byte e.o := by
  simp only [shTr, HasEl] at h
  obtain ⟨ds, rfl, h⟩ := h
  simp only [shU8, HasShs, HasEl] at h
  obtain ⟨_, _, rfl, ⟨a, rfl, a1, a2⟩, _, _, rfl, ⟨b, rfl, b1, b2⟩, _, _, rfl, ⟨c, rfl, c1, c2⟩, rfl⟩ := h
  exact ⟨⟨a, b, c⟩, rfl, ⟨a1, a2⟩, ⟨b1, b2⟩, ⟨c1, c2⟩⟩
theorem rd_trl : ∀ {xs : List D}, (∀ y ∈ xs, HasEl shTr y) → ∃ l : List E, xs = trs l ∧ ∀ v ∈ l, Byte v.t ∧ Byte v.f ∧ Byte v.o
  | [], _ => ⟨[], rfl, by simp⟩
  | x :: xs, h => by
    obtain ⟨l, rfl, hl⟩ := rd_trl (xs := xs) fun y hy => h y (by simp [hy])
    obtain ⟨n, rfl, hn⟩ := rd_tr (h x (by simp))
    refine ⟨n :: l, rfl, fun v hv => ?_⟩
    simp only [List.mem_cons] at hv
    rcases hv with rfl | hv
    · exact hn
    · exact hl v hv
theorem rd_draft {x : D} (h : HasEl shDr x) : ∃ g : Dr, x = drD g ∧ g.ok ∧ g.n.length ≤ maxL ∧ g.e.length ≤ maxL := by
  simp only [shDr, HasEl] at h
  obtain ⟨ds, rfl, h⟩ := h
  have h' : ∃ a b, ds = a :: b ∧ HasEl shU8s a ∧ HasShs [.slc 3 3 shTr] b := by simpa only [shU8s, HasShs] using h
  obtain ⟨a, _, rfl, h1, h'⟩ := h'
  obtain ⟨l, rfl, hl, hl2⟩ := rd_u8s h1
  simp only [HasShs, HasEl] at h'
  obtain ⟨_, _, rfl, ⟨xs, rfl, hb, h3⟩, rfl⟩ := h'
  obtain ⟨es, rfl, he⟩ := rd_trl h3
  refine ⟨⟨l, es⟩, rfl, ⟨hl, he⟩, hl2, ?_⟩
  rw [trs_length] at hb
  unfold reachBytes at hb
  simp only [maxL]
  omega
theorem x_l05_GraphBack (h : K_l05_GraphBack P F) (args : List D) (ha : HasEls [shDr, shU8s] args) : FC P (F "l05.GraphBack") args (.bool true) [] := by
  simp only [HasEls] at ha
  obtain ⟨_, _, rfl, h1, _, _, rfl, h2, rfl⟩ := ha
  obtain ⟨x, rfl, x1, x2, x3⟩ := rd_draft h1
  obtain ⟨cs, rfl, c1, c2⟩ := rd_u8s h2
  exact h x cs x1 c1 x2 x3 c2
end
end Go.Am
