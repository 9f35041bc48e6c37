/- The law: what mediates is one alone. -/
import Derived.Test.YtkllpeebnabdiaaSnD
namespace Go.Am
open Go
set_option linter.unusedVariables false
set_option linter.unusedSimpArgs false
attribute [local irreducible] W
/- l11.PullbackUnique -/
def c_l11_PullbackUnique_r0 (F : String → Nat) : List LI := [⟨some 2, .bx (.t 0), none⟩,
  ⟨some 3, .bx (.t 1), none⟩,
  ⟨some 4, .mov (.k (.bool false)), none⟩]
def c_l11_PullbackUnique_r1 (F : String → Nat) : List LI := [⟨some 21, .call (F "l11.awake") [] [], none⟩,
  ⟨some 22, .not (.t 21), none⟩,
  ⟨some 23, .mov (.t 22), none⟩,
  ⟨some 24, .load true 6 (.t 2), some (23, false)⟩,
  ⟨some 25, .call (F "l11.few") [.t 24] [], some (23, false)⟩,
  ⟨some 26, .not (.t 25), some (23, false)⟩,
  ⟨some 27, .pick (.t 23) (.k (.bool true)) (.t 26), none⟩,
  ⟨some 28, .mov (.t 27), none⟩,
  ⟨some 29, .fad 0 (.t 3), some (28, false)⟩,
  ⟨some 30, .load false 1 (.t 29), some (28, false)⟩,
  ⟨some 31, .len (.t 30), some (28, false)⟩,
  ⟨some 32, .bin .gtr (.t 31) (.k (.int .i64 (3))), some (28, false)⟩,
  ⟨some 33, .pick (.t 28) (.k (.bool true)) (.t 32), none⟩,
  ⟨some 34, .mov (.t 33), none⟩,
  ⟨some 35, .fad 1 (.t 3), some (34, false)⟩,
  ⟨some 36, .load false 1 (.t 35), some (34, false)⟩,
  ⟨some 37, .len (.t 36), some (34, false)⟩,
  ⟨some 38, .bin .gtr (.t 37) (.k (.int .i64 (3))), some (34, false)⟩,
  ⟨some 39, .pick (.t 34) (.k (.bool true)) (.t 38), none⟩]
def c_l11_PullbackUnique_r2 (F : String → Nat) : List LI := [⟨some 40, .call (F "l11.awake") [] [], none⟩,
  ⟨some 4, .mov (.t 40), none⟩]
def c_l11_PullbackUnique_r3 (F : String → Nat) : List LI := [⟨some 41, .load true 6 (.t 2), none⟩,
  ⟨some 42, .call (F "r11.Made") [.t 41] [], none⟩,
  ⟨some 5, .alloc [.nl 1, .nl 3, .nl 1, .nl 3, .nl 1, .nl 3, .nl 1, .nl 1, .nl 1, .nl 1], none⟩,
  ⟨none, .store 10 (.t 5) (.t 42), none⟩]
def c_l11_PullbackUnique_r4 (F : String → Nat) : List LI := [⟨some 44, .load true 10 (.t 5), none⟩,
  ⟨some 45, .call (F "pullback.Of") [.t 44] [], none⟩,
  ⟨some 43, .mov (.t 45), none⟩,
  ⟨some 46, .ext (.t 43) 0, none⟩,
  ⟨some 47, .ext (.t 43) 1, none⟩,
  ⟨some 48, .ext (.t 43) 2, none⟩,
  ⟨some 49, .ext (.t 43) 3, none⟩,
  ⟨some 6, .alloc [.nl 1, .nl 3], none⟩,
  ⟨some 7, .alloc [.nl 1, .nl 1], none⟩,
  ⟨some 8, .alloc [.nl 1, .nl 1], none⟩,
  ⟨none, .store 2 (.t 6) (.t 46), none⟩,
  ⟨none, .store 2 (.t 7) (.t 47), none⟩,
  ⟨none, .store 2 (.t 8) (.t 48), none⟩,
  ⟨some 9, .mov (.t 49), none⟩]
def c_l11_PullbackUnique_r5 (F : String → Nat) : List LI := [⟨some 50, .mov (.t 9), none⟩,
  ⟨some 51, .bin .neq (.t 50) (.k (.int .i64 (0))), none⟩,
  ⟨some 52, .mov (.t 51), none⟩,
  ⟨some 53, .load true 2 (.t 6), some (52, false)⟩,
  ⟨some 54, .call (F "r05.Valid") [.t 53] [], some (52, false)⟩,
  ⟨some 55, .bin .neq (.t 54) (.k (.int .i64 (0))), some (52, false)⟩,
  ⟨some 56, .pick (.t 52) (.k (.bool true)) (.t 55), none⟩]
def c_l11_PullbackUnique_r6 (F : String → Nat) : List LI := [⟨some 4, .mov (.k (.bool false)), none⟩]
def c_l11_PullbackUnique_r7 (F : String → Nat) : List LI := [⟨some 58, .load true 2 (.t 6), none⟩,
  ⟨some 59, .load true 2 (.t 3), none⟩,
  ⟨some 60, .call (F "r11.Over") [.t 58, .t 59] [], none⟩,
  ⟨some 57, .mov (.t 60), none⟩,
  ⟨some 61, .ext (.t 57) 0, none⟩,
  ⟨some 62, .ext (.t 57) 1, none⟩,
  ⟨some 10, .alloc [.nl 1, .nl 3], none⟩,
  ⟨some 11, .alloc [.nl 1, .nl 1], none⟩,
  ⟨none, .store 2 (.t 10) (.t 61), none⟩,
  ⟨none, .store 2 (.t 11) (.t 62), none⟩]
def c_l11_PullbackUnique_r8 (F : String → Nat) : List LI := [⟨some 63, .load true 2 (.t 11), none⟩,
  ⟨some 64, .load true 2 (.t 7), none⟩,
  ⟨some 65, .call (F "r06.Then") [.t 63, .t 64] [], none⟩,
  ⟨some 66, .load true 2 (.t 11), none⟩,
  ⟨some 67, .load true 2 (.t 8), none⟩,
  ⟨some 68, .call (F "r06.Then") [.t 66, .t 67] [], none⟩,
  ⟨some 12, .alloc [.nl 1, .nl 1], none⟩,
  ⟨some 13, .alloc [.nl 1, .nl 1], none⟩,
  ⟨none, .store 2 (.t 12) (.t 65), none⟩,
  ⟨none, .store 2 (.t 13) (.t 68), none⟩]
def c_l11_PullbackUnique_r9 (F : String → Nat) : List LI := [⟨some 70, .load true 10 (.t 5), none⟩,
  ⟨some 71, .load true 2 (.t 10), none⟩,
  ⟨some 72, .load true 2 (.t 12), none⟩,
  ⟨some 73, .load true 2 (.t 13), none⟩,
  ⟨some 74, .call (F "pullback.Mediate") [.t 70, .t 71, .t 72, .t 73] [], none⟩,
  ⟨some 69, .mov (.t 74), none⟩,
  ⟨some 75, .ext (.t 69) 0, none⟩,
  ⟨some 76, .ext (.t 69) 1, none⟩,
  ⟨some 14, .alloc [.nl 1, .nl 1], none⟩,
  ⟨none, .store 2 (.t 14) (.t 75), none⟩,
  ⟨some 15, .mov (.t 76), none⟩]
def c_l11_PullbackUnique_r10 (F : String → Nat) : List LI := [⟨some 77, .mov (.t 15), none⟩,
  ⟨some 78, .bin .neq (.t 77) (.k (.int .i64 (0))), none⟩,
  ⟨some 79, .mov (.t 78), none⟩,
  ⟨some 80, .load true 2 (.t 14), some (79, false)⟩,
  ⟨some 81, .load true 2 (.t 11), some (79, false)⟩,
  ⟨some 82, .call (F "r06.Same") [.t 80, .t 81] [], some (79, false)⟩,
  ⟨some 83, .not (.t 82), some (79, false)⟩,
  ⟨some 84, .pick (.t 79) (.k (.bool true)) (.t 83), none⟩]
def c_l11_PullbackUnique_r11 (F : String → Nat) : List LI := [⟨some 4, .mov (.k (.bool false)), none⟩]
def c_l11_PullbackUnique_r12 (F : String → Nat) : List LI := [⟨some 86, .load true 2 (.t 10), none⟩,
  ⟨some 87, .load true 2 (.t 6), none⟩,
  ⟨some 88, .call (F "r06.All") [.t 86, .t 87] [], none⟩,
  ⟨some 85, .mov (.t 88), none⟩,
  ⟨some 89, .ext (.t 85) 0, none⟩,
  ⟨some 90, .ext (.t 85) 1, none⟩,
  ⟨some 16, .mov (.t 89), none⟩,
  ⟨some 17, .mov (.t 90), none⟩]
def c_l11_PullbackUnique_r13 (F : String → Nat) : List LI := [⟨some 91, .mov (.t 17), none⟩,
  ⟨some 92, .bin .neq (.t 91) (.k (.int .i64 (0))), none⟩]
def c_l11_PullbackUnique_r14 (F : String → Nat) : List LI := [⟨some 93, .mov (.t 17), none⟩,
  ⟨some 94, .bin .eql (.t 93) (.k (.int .i64 (3))), none⟩,
  ⟨some 4, .mov (.t 94), none⟩]
def c_l11_PullbackUnique_r15 (F : String → Nat) : List LI := [⟨some 18, .mov (.k (.int .i64 (0))), none⟩]
def c_l11_PullbackUnique_r16 (F : String → Nat) : List LI := [⟨some 95, .mov (.t 16), none⟩,
  ⟨some 96, .len (.t 95), none⟩,
  ⟨some 97, .mov (.k (.int .i64 (0))), none⟩]
def c_l11_PullbackUnique_r17 (F : String → Nat) : List LI := [⟨some 98, .bin .lss (.t 97) (.t 96), none⟩]
def c_l11_PullbackUnique_r18 (F : String → Nat) : List LI := [⟨some 99, .iad 2 (.t 95) (.t 97), none⟩,
  ⟨some 100, .load true 2 (.t 99), none⟩,
  ⟨some 20, .alloc [.nl 1, .nl 1], none⟩,
  ⟨none, .store 2 (.t 20) (.t 100), none⟩]
def c_l11_PullbackUnique_r19 (F : String → Nat) : List LI := [⟨some 101, .load true 2 (.t 20), none⟩,
  ⟨some 102, .load true 2 (.t 7), none⟩,
  ⟨some 103, .call (F "r06.Then") [.t 101, .t 102] [], none⟩,
  ⟨some 104, .load true 2 (.t 12), none⟩,
  ⟨some 105, .call (F "r06.Same") [.t 103, .t 104] [], none⟩,
  ⟨some 106, .mov (.t 105), none⟩,
  ⟨some 107, .load true 2 (.t 20), some (106, true)⟩,
  ⟨some 108, .load true 2 (.t 8), some (106, true)⟩,
  ⟨some 109, .call (F "r06.Then") [.t 107, .t 108] [], some (106, true)⟩,
  ⟨some 110, .load true 2 (.t 13), some (106, true)⟩,
  ⟨some 111, .call (F "r06.Same") [.t 109, .t 110] [], some (106, true)⟩,
  ⟨some 112, .pick (.t 106) (.t 111) (.k (.bool false)), none⟩]
def c_l11_PullbackUnique_r20 (F : String → Nat) : List LI := [⟨some 113, .mov (.t 18), none⟩,
  ⟨some 114, .bin .add (.t 113) (.k (.int .i64 (1))), none⟩,
  ⟨some 18, .mov (.t 114), none⟩]
def c_l11_PullbackUnique_r21 (F : String → Nat) : List LI := [⟨some 115, .bin .add (.t 97) (.k (.int .i64 (1))), none⟩,
  ⟨some 97, .mov (.t 115), none⟩]
def c_l11_PullbackUnique_b22 (F : String → Nat) : LC := (.seq (.reg (c_l11_PullbackUnique_r17 F) [7, 8, 12, 13, 18, 95, 96, 97, 98]) (.seq (.cond (.t 98) .skip (.exit 0)) (.seq (.block 1 (.seq (.reg (c_l11_PullbackUnique_r18 F) [7, 8, 12, 13, 18, 20, 95, 96, 97]) (.seq (.dreg [(2, none, [], true), (3, (some 0), [2], false), (8, none, [], true), (9, (some 63), [8], false)] (c_l11_PullbackUnique_r19 F) [7, 8, 12, 13, 18, 95, 96, 97, 112]) (.cond (.t 112) (.reg (c_l11_PullbackUnique_r20 F) [7, 8, 12, 13, 18, 95, 96, 97]) .skip)))) (.reg (c_l11_PullbackUnique_r21 F) [7, 8, 12, 13, 18, 95, 96, 97]))))
def c_l11_PullbackUnique_r23 (F : String → Nat) : List LI := [⟨some 116, .mov (.t 18), none⟩,
  ⟨some 117, .bin .eql (.t 116) (.k (.int .i64 (1))), none⟩,
  ⟨some 4, .mov (.t 117), none⟩]
def c_l11_PullbackUnique (F : String → Nat) : LC := (.seq (.reg (c_l11_PullbackUnique_r0 F) [2, 3]) (.seq (.seq (.reg (c_l11_PullbackUnique_r1 F) [2, 3, 39]) (.cond (.t 39) (.seq (.reg (c_l11_PullbackUnique_r2 F) [4]) .ret) .skip)) (.seq (.reg (c_l11_PullbackUnique_r3 F) [3, 5]) (.seq (.reg (c_l11_PullbackUnique_r4 F) [3, 5, 6, 7, 8, 9]) (.seq (.seq (.reg (c_l11_PullbackUnique_r5 F) [3, 5, 6, 7, 8, 56]) (.cond (.t 56) (.seq (.reg (c_l11_PullbackUnique_r6 F) [4]) .ret) .skip)) (.seq (.reg (c_l11_PullbackUnique_r7 F) [5, 6, 7, 8, 10, 11]) (.seq (.dreg [(2, none, [], true), (3, (some 0), [2], false), (4, (some 0), [2], false)] (c_l11_PullbackUnique_r8 F) [5, 6, 7, 8, 10, 11, 12, 13]) (.seq (.reg (c_l11_PullbackUnique_r9 F) [6, 7, 8, 10, 11, 12, 13, 14, 15]) (.seq (.seq (.reg (c_l11_PullbackUnique_r10 F) [6, 7, 8, 10, 12, 13, 84]) (.cond (.t 84) (.seq (.reg (c_l11_PullbackUnique_r11 F) [4]) .ret) .skip)) (.seq (.reg (c_l11_PullbackUnique_r12 F) [7, 8, 12, 13, 16, 17]) (.seq (.seq (.reg (c_l11_PullbackUnique_r13 F) [7, 8, 12, 13, 16, 17, 92]) (.cond (.t 92) (.seq (.reg (c_l11_PullbackUnique_r14 F) [4]) .ret) .skip)) (.seq (.reg (c_l11_PullbackUnique_r15 F) [7, 8, 12, 13, 16, 18]) (.seq (.seq (.reg (c_l11_PullbackUnique_r16 F) [7, 8, 12, 13, 18, 95, 96, 97]) (.block 0 (.loop [7, 8, 12, 13, 18, 95, 96, 97] (c_l11_PullbackUnique_b22 F)))) (.seq (.reg (c_l11_PullbackUnique_r23 F) [4]) .ret))))))))))))))
def h_l11_PullbackUnique : Hints := ⟨[], fun _ => [], tab [(0, [2, 3]), (1, [2, 3, 39]), (2, [4]), (3, [3, 5]), (4, [3, 5, 6, 7, 8, 9]), (5, [3, 5, 6, 7, 8, 56]), (6, [4]), (7, [5, 6, 7, 8, 10, 11]), (8, [5, 6, 7, 8, 10, 11, 12, 13]), (9, [6, 7, 8, 10, 11, 12, 13, 14, 15]), (10, [6, 7, 8, 10, 12, 13, 84]), (11, [4]), (12, [7, 8, 12, 13, 16, 17]), (13, [7, 8, 12, 13, 16, 17, 92]), (14, [4]), (15, [7, 8, 12, 13, 16, 18]), (16, [7, 8, 12, 13, 18, 95, 96, 97]), (17, [7, 8, 12, 13, 18, 95, 96, 97, 98]), (18, [7, 8, 12, 13, 18, 20, 95, 96, 97]), (19, [7, 8, 12, 13, 18, 95, 96, 97, 112]), (20, [7, 8, 12, 13, 18, 95, 96, 97]), (21, [7, 8, 12, 13, 18, 95, 96, 97]), (22, [4])], tab [(17, [7, 8, 12, 13, 18, 95, 96, 97])]⟩

attribute [go_sem] c_l11_PullbackUnique_r0 c_l11_PullbackUnique_r1 c_l11_PullbackUnique_r2 c_l11_PullbackUnique_r3 c_l11_PullbackUnique_r4 c_l11_PullbackUnique_r5 c_l11_PullbackUnique_r6 c_l11_PullbackUnique_r7 c_l11_PullbackUnique_r8 c_l11_PullbackUnique_r9 c_l11_PullbackUnique_r10 c_l11_PullbackUnique_r11 c_l11_PullbackUnique_r12 c_l11_PullbackUnique_r13 c_l11_PullbackUnique_r14 c_l11_PullbackUnique_r15 c_l11_PullbackUnique_r16 c_l11_PullbackUnique_r17 c_l11_PullbackUnique_r18 c_l11_PullbackUnique_r19 c_l11_PullbackUnique_r20 c_l11_PullbackUnique_r21 c_l11_PullbackUnique_r23 c_l11_PullbackUnique
section
variable (P : Program) (F : String → Nat)
def K_l11_PullbackUnique : Prop := ∀ (x : Dt) (y : Dr), x.ok → y.ok → y.n.length ≤ maxL → y.e.length ≤ maxL → FC P (F "l11.PullbackUnique") [dtD x, drD y] (.bool true) []
end
section
variable {P : Program} {F : String → Nat} {α : Type}
theorem cnt_take {l : List Mo} {p : Mo → Bool} {i : Nat} (h : i < l.length) : ((l.take (i + 1)).filter p).length = ((l.take i).filter p).length + if p (gt l i) = true then 1 else 0 := by
  rw [take_gt h, List.filter_append, List.length_append]
  simp only [List.filter_cons, List.filter_nil]
  split <;> simp
set_option maxRecDepth 100000 in
set_option maxHeartbeats 4000000 in
theorem w_l11_PullbackUnique (hw : K_l11_awake P F) (hf : K_l11_few P F) (hm : K_r11_Made P F) (ho : K_pullback_Of P F) (hv : K_r05_Valid P F) (hov : K_r11_Over P F) (ht : K_r06_Then P F) (hmed : K_pullback_Mediate P F) (hs : K_r06_Same P F) (hall : K_r06_All P F) (x : Dt) (y : Dr) (hx : x.ok) (hy : y.ok) (ly1 : y.n.length ≤ maxL) (ly2 : y.e.length ≤ maxL) :
    W P (c_l11_PullbackUnique F) (Done [.t 4] [] (.bool true) []) (init [dtD x, drD y]) := by
  refine W_of ?_
  have f1 := hf x hx
  have r1 := hm x hx
  have hmad := @made_ok x hx
  generalize fewD x = fw at *
  generalize madeC x = s at *
  have yok := hy
  cases fw with
  | false =>
    obtain ⟨⟨xn, xe⟩, ⟨zn, ze⟩, ⟨vn, ve⟩⟩ := x
    obtain ⟨yn, ye⟩ := y
    simp only [dtD, drD] at *
    simp (config := { maxSteps := 1000000 }) (disch := first | omega | (simp only [go_sem]; omega)) only [go_sem, ↓reduceIte]
    refine call_by hw ?_
    simp (config := { maxSteps := 1000000 }) (disch := first | omega | (simp only [go_sem]; omega)) only [go_sem, ↓reduceIte]
    refine call_by f1 ?_
    simp (config := { maxSteps := 1000000 }) (disch := first | omega | (simp only [go_sem]; omega)) only [go_sem, ↓reduceIte]
    refine call_by hw ?_
    simp (config := { maxSteps := 1000000 }) (disch := first | omega | (simp only [go_sem]; omega)) only [go_sem, ↓reduceIte]
  | true =>
    have hmad := hmad rfl
    have e0 := hmad.err
    have pb := pb_of e0
    have va := pb.p.va
    have hu := over_ok va hy
    have r2 := ho s
    have e1 : pbG s = pbG0 s := by simp [pbG, e0]
    have e2 : pbP s = ⟨asA (pbN s), asA (pbE s)⟩ := by simp [pbP, e0]
    have e3 : pbQ s = ⟨asB (pbN s), asB (pbE s)⟩ := by simp [pbQ, e0]
    rw [e1, e2, e3, e0] at r2
    have r3 := hv (pbG0 s)
    rw [va] at r3
    have r4 := hov (pbG0 s) y va hy ly1 ly2
    have m1 := med_then e0 hu
    have hcnt := then_one e0 hu
    have hsm := allErr_small hu.va va
    have hok : ∀ v ∈ allM (overG (pbG0 s) y) (pbG0 s), MOk (overG (pbG0 s) y) (pbG0 s) v := fun v hv => mok.1 (allM_ok hv)
    have hlen := allM_len (overG (pbG0 s) y) (pbG0 s)
    have r9 := hall (overG (pbG0 s) y) (pbG0 s)
    have lp1 := pb.p.ln
    have lp2 := pb.p.le
    have lq1 := pb.q.ln
    have lq2 := pb.q.le
    have lg : (overG (pbG0 s) y).n.length ≤ 8 ∧ (overG (pbG0 s) y).e.length ≤ 10 := ⟨by have := (ovN_len (pbG0 s) y).1; simpa [overG] using this, by have := (overE_len (pbG0 s) y).1; simpa [overG] using this⟩
    clear e1 e2 e3 hmad
    generalize (⟨asA (pbN s), asA (pbE s)⟩ : Mo) = pm at *
    generalize (⟨asB (pbN s), asB (pbE s)⟩ : Mo) = qm at *
    generalize overG (pbG0 s) y = g at *
    generalize overM (pbG0 s) y = u at *
    have hT : ∀ v, MOk g (pbG0 s) v → FC P (F "r06.Then") [mD v, mD pm] (mA (thenM v pm)) [] ∧ FC P (F "r06.Then") [mD v, mD qm] (mA (thenM v qm)) [] := fun v hv => by
      have b := validM_bd (mok.2 hv)
      have l1 := hv.ln
      have l2 := hv.le
      exact ⟨ht v pm (by omega) (by omega) (by rw [lp1]; exact b.1) (by rw [lp2]; exact b.2), ht v qm (by omega) (by omega) (by rw [lq1]; exact b.1) (by rw [lq2]; exact b.2)⟩
    have hS : ∀ v w, MOk g (pbG0 s) v → FC P (F "r06.Same") [mD (thenM v pm), mD w] (.bool (decide (thenM v pm = w))) [] ∧ FC P (F "r06.Same") [mD (thenM v qm), mD w] (.bool (decide (thenM v qm = w))) [] := fun v w hv => by
      have l1 := hv.ln
      have l2 := hv.le
      exact ⟨hs _ _ (by simp only [thenM, thr_len, maxL]; omega) (by simp only [thenM, thr_len, maxL]; omega), hs _ _ (by simp only [thenM, thr_len, maxL]; omega) (by simp only [thenM, thr_len, maxL]; omega)⟩
    obtain ⟨r5, r6⟩ := hT u hu
    have r7 := hmed s g (thenM u pm) (thenM u qm)
    rw [m1] at r7
    have r8 := hs u u (by have := hu.ln; unfold maxL; omega) (by have := hu.le; unfold maxL; omega)
    rw [show decide (u = u) = true by simp] at r8
    have hl : ∀ i : Nat, i < (allM g (pbG0 s)).length → MOk g (pbG0 s) (gt (allM g (pbG0 s)) i) := fun i hi => hok _ (gt_mem (by omega) (by omega))
    have tl : ∀ i : Nat, i < (allM g (pbG0 s)).length → (FC P (F "r06.Then") [mD (gt (allM g (pbG0 s)) i), mD pm] (mA (thenM (gt (allM g (pbG0 s)) i) pm)) [] ∧ FC P (F "r06.Then") [mD (gt (allM g (pbG0 s)) i), mD qm] (mA (thenM (gt (allM g (pbG0 s)) i) qm)) []) ∧
        FC P (F "r06.Same") [mD (thenM (gt (allM g (pbG0 s)) i) pm), mD (thenM u pm)] (.bool (decide (thenM (gt (allM g (pbG0 s)) i) pm = thenM u pm))) [] ∧ FC P (F "r06.Same") [mD (thenM (gt (allM g (pbG0 s)) i) qm), mD (thenM u qm)] (.bool (decide (thenM (gt (allM g (pbG0 s)) i) qm = thenM u qm))) [] := fun i hi =>
      ⟨hT _ (hl i hi), (hS _ _ (hl i hi)).1, (hS _ _ (hl i hi)).2⟩
    clear hT hS hl hok m1
    generalize allM g (pbG0 s) = l at *
    generalize allErr g (pbG0 s) = er at *
    generalize hh : thenM u pm = h at *
    generalize hk : thenM u qm = k at *
    have hct : ∀ i : Nat, i < l.length → ((l.take (i + 1)).filter fun v => decide (thenM v pm = h) && decide (thenM v qm = k)).length = ((l.take i).filter fun v => decide (thenM v pm = h) && decide (thenM v qm = k)).length + if (decide (thenM (gt l i) pm = h) && decide (thenM (gt l i) qm = k)) = true then 1 else 0 := fun i hi => cnt_take (p := fun v => decide (thenM v pm = h) && decide (thenM v qm = k)) hi
    have hcl : ∀ i : Nat, ((l.take i).filter fun v => decide (thenM v pm = h) && decide (thenM v qm = k)).length ≤ 2001 := fun i => Nat.le_trans (List.length_filter_le _ _) (by simp; omega)
    have hc0 : ((l.take 0).filter fun v => decide (thenM v pm = h) && decide (thenM v qm = k)).length = 0 := by simp
    have hcn : er = 0 → ((l.take l.length).filter fun v => decide (thenM v pm = h) && decide (thenM v qm = k)).length = 1 := fun h => by rw [List.take_length]; exact hcnt h
    generalize hcc : (fun i : Nat => ((l.take i).filter fun v => decide (thenM v pm = h) && decide (thenM v qm = k)).length) = cc at *
    have hcc' : ∀ i, ((l.take i).filter fun v => decide (thenM v pm = h) && decide (thenM v qm = k)).length = cc i := fun i => by rw [← hcc]
    simp only [hcc'] at hct hcl hc0 hcn
    clear hcc' hcc hcnt hh hk
    have hpl := pts_length l
    have tl1 : ∀ i : Nat, i < l.length → ∃ a b : Mo, FC P (F "r06.Then") [mD (gt l i), mD pm] (mA a) [] ∧ FC P (F "r06.Then") [mD (gt l i), mD qm] (mA b) [] ∧ FC P (F "r06.Same") [mD a, mD h] (.bool (decide (a = h))) [] ∧ FC P (F "r06.Same") [mD b, mD k] (.bool (decide (b = k))) [] ∧ cc (i + 1) = cc i + if (decide (a = h) && decide (b = k)) = true then 1 else 0 := fun i hi =>
      ⟨_, _, (tl i hi).1.1, (tl i hi).1.2, (tl i hi).2.1, (tl i hi).2.2, hct i hi⟩
    clear tl hct pb hu va lp1 lp2 lq1 lq2 lg
    generalize pbG0 s = ag at *
    obtain ⟨⟨bn, be⟩, ⟨cn, ce⟩, ⟨dn, de⟩, ⟨fn, fe⟩, ⟨gn, ge⟩⟩ := s
    obtain ⟨⟨xn, xe⟩, ⟨zn, ze⟩, ⟨vn, ve⟩⟩ := x
    obtain ⟨yn, ye⟩ := y
    obtain ⟨agn, age⟩ := ag
    obtain ⟨gn', ge'⟩ := g
    obtain ⟨pn, pe⟩ := pm
    obtain ⟨qn, qe⟩ := qm
    obtain ⟨un, ue⟩ := u
    obtain ⟨hn, he⟩ := h
    obtain ⟨kn, ke⟩ := k
    simp only [csA, csD, gD, gA, mD, mA, dtD, drD] at *
    simp (config := { maxSteps := 1000000 }) (disch := first | omega | (simp only [go_sem]; omega)) only [go_sem, ↓reduceIte]
    refine call_by hw ?_
    simp (config := { maxSteps := 1000000 }) (disch := first | omega | (simp only [go_sem]; omega)) only [go_sem, ↓reduceIte]
    refine call_by f1 ?_
    by_cases c1 : yn.length ≤ 3
    · have d1 : decide ((3 : Int) < yn.length) = false := decide_eq_false (by omega)
      by_cases c2 : ye.length ≤ 3
      · have d2 : decide ((3 : Int) < ye.length) = false := decide_eq_false (by omega)
        simp (config := { maxSteps := 1000000 }) (disch := first | omega | (simp only [go_sem]; omega)) only [go_sem, ↓reduceIte, d1, d2]
        refine call_by r1 ?_
        simp (config := { maxSteps := 1000000 }) (disch := first | omega | (simp only [go_sem]; omega)) only [go_sem, ↓reduceIte]
        refine call_by r2 ?_
        simp (config := { maxSteps := 1000000 }) (disch := first | omega | (simp only [go_sem]; omega)) only [go_sem, ↓reduceIte]
        refine call_by r3 ?_
        simp (config := { maxSteps := 1000000 }) (disch := first | omega | (simp only [go_sem]; omega)) only [go_sem, ↓reduceIte]
        refine call_by r4 ?_
        simp (config := { maxSteps := 1000000 }) (disch := first | omega | (simp only [go_sem]; omega)) only [go_sem, ↓reduceIte]
        refine call_by r5 ?_
        simp (config := { maxSteps := 1000000 }) (disch := first | omega | (simp only [go_sem]; omega)) only [go_sem, ↓reduceIte]
        refine call_by r6 ?_
        simp (config := { maxSteps := 1000000 }) (disch := first | omega | (simp only [go_sem]; omega)) only [go_sem, ↓reduceIte]
        refine call_by r7 ?_
        simp (config := { maxSteps := 1000000 }) (disch := first | omega | (simp only [go_sem]; omega)) only [go_sem, ↓reduceIte]
        refine call_by r8 ?_
        simp (config := { maxSteps := 1000000 }) (disch := first | omega | (simp only [go_sem]; omega)) only [go_sem, ↓reduceIte]
        refine call_by r9 ?_
        rcases hsm with rfl | rfl
        · have hcn := hcn rfl
          cases hfl : (pts l).all D.flatE
          all_goals
            simp (config := { maxSteps := 1000000 }) (disch := first | omega | (simp only [go_sem]; omega)) only [go_sem, ↓reduceIte, hfl]
            refine W_loop (fun i : Nat => ⟨[(7, .pt 2 0), (8, .pt 5 0), (12, .pt 8 0), (13, .pt 11 0), (18, .int .i64 (cc i)), (95, .sl 12 0 l.length), (96, .int .i64 l.length), (97, .int .i64 i)],
              [(0, .arr 1 (ints pn)), (1, .arr 1 (ints pe)), (2, .box [.sl 0 0 pn.length, .sl 1 0 pe.length]), (3, .arr 1 (ints qn)), (4, .arr 1 (ints qe)), (5, .box [.sl 3 0 qn.length, .sl 4 0 qe.length]),
               (6, .arr 1 (ints hn)), (7, .arr 1 (ints he)), (8, .box [.sl 6 0 hn.length, .sl 7 0 he.length]), (9, .arr 1 (ints kn)), (10, .arr 1 (ints ke)), (11, .box [.sl 9 0 kn.length, .sl 10 0 ke.length]), (12, .arr 2 (pts l))], 13⟩) (fun i => i ≤ l.length) (fun i => l.length - i) 0 ?_ ?_ ?_
            · simp (config := { maxSteps := 1000000 }) (disch := first | omega | (simp only [go_sem]; omega)) only [go_sem, ↓reduceIte, hpl, hc0]
              rfl
            · omega
            · intro i hi
              have hci := hcl i
              simp (config := { maxSteps := 1000000 }) (disch := first | omega | (simp only [go_sem]; omega)) only [go_sem, ↓reduceIte, c_l11_PullbackUnique_b22]
              refine bran_dec (fun f => ?_) (fun f => ?_)
              · have q := pts_at (l := l) (i := i) (by omega)
                obtain ⟨⟨an, ae⟩, ⟨bn', be'⟩, t1, t2, t3, t4, t5⟩ := tl1 i (by omega)
                generalize decide ((⟨an, ae⟩ : Mo) = ⟨hn, he⟩) = b1 at *
                generalize decide ((⟨bn', be'⟩ : Mo) = ⟨kn, ke⟩) = b2 at *
                simp only at t1 t2 t3 t4
                simp (config := { maxSteps := 1000000 }) (disch := first | omega | (simp only [go_sem]; omega)) only [go_sem, ↓reduceIte, q]
                refine call_by t1 ?_
                simp (config := { maxSteps := 1000000 }) (disch := first | omega | (simp only [go_sem]; omega)) only [go_sem, ↓reduceIte]
                refine call_by t3 ?_
                cases b1
                · simp (config := { maxSteps := 1000000 }) (disch := first | omega | (simp only [go_sem]; omega)) only [go_sem, ↓reduceIte]
                  exact ⟨i + 1, by simp [t5], by omega, by omega⟩
                · simp (config := { maxSteps := 1000000 }) (disch := first | omega | (simp only [go_sem]; omega)) only [go_sem, ↓reduceIte]
                  refine call_by t2 ?_
                  simp (config := { maxSteps := 1000000 }) (disch := first | omega | (simp only [go_sem]; omega)) only [go_sem, ↓reduceIte]
                  refine call_by t4 ?_
                  cases b2
                  · simp (config := { maxSteps := 1000000 }) (disch := first | omega | (simp only [go_sem]; omega)) only [go_sem, ↓reduceIte]
                    exact ⟨i + 1, by simp [t5], by omega, by omega⟩
                  · simp (config := { maxSteps := 1000000 }) (disch := first | omega | (simp only [go_sem]; omega)) only [go_sem, ↓reduceIte]
                    exact ⟨i + 1, by simp [t5], by omega, by omega⟩
              · obtain rfl : i = l.length := by omega
                simp (config := { maxSteps := 1000000 }) (disch := first | omega | (simp only [go_sem]; omega)) only [go_sem, ↓reduceIte, hcn]
                try simp
        · cases hfl : (pts l).all D.flatE
          all_goals
            simp (config := { maxSteps := 1000000 }) (disch := first | omega | (simp only [go_sem]; omega)) only [go_sem, ↓reduceIte, hfl]
            refine bran_ndec (fun _ => ?_) (fun h => absurd h (by omega))
            simp (config := { maxSteps := 1000000 }) (disch := first | omega | (simp only [go_sem]; omega)) only [go_sem, ↓reduceIte]
            try simp
      · have d2 : decide ((3 : Int) < ye.length) = true := decide_eq_true (by omega)
        simp (config := { maxSteps := 1000000 }) (disch := first | omega | (simp only [go_sem]; omega)) only [go_sem, ↓reduceIte, d1, d2]
        refine call_by hw ?_
        simp (config := { maxSteps := 1000000 }) (disch := first | omega | (simp only [go_sem]; omega)) only [go_sem, ↓reduceIte]
    · have d1 : decide ((3 : Int) < yn.length) = true := decide_eq_true (by omega)
      simp (config := { maxSteps := 1000000 }) (disch := first | omega | (simp only [go_sem]; omega)) only [go_sem, ↓reduceIte, d1]
      refine call_by hw ?_
      simp (config := { maxSteps := 1000000 }) (disch := first | omega | (simp only [go_sem]; omega)) only [go_sem, ↓reduceIte]
theorem x_l11_PullbackUnique (h : K_l11_PullbackUnique P F) (args : List D) (ha : HasEls [shDt, shDr] args) : FC P (F "l11.PullbackUnique") args (.bool true) [] := by
  simp only [HasEls] at ha
  obtain ⟨_, _, rfl, h1, _, _, rfl, h2, rfl⟩ := ha
  obtain ⟨s, rfl, k1⟩ := rd_dt h1
  obtain ⟨y, rfl, k2, k3, k4⟩ := rd_draft h2
  exact h s y k1 k2 k3 k4
end
end Go.Am
