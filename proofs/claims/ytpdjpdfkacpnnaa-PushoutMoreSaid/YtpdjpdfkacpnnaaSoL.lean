/- Spans of drafts; the law PushoutMore. -/
import Derived.Test.YtpdjpdfkacpnnaaSoH
import Derived.Test.YtpdjpdfkacpnnaaSoJ
import Derived.Test.YtpdjpdfkacpnnaaSoK
namespace Go.Am
open Go
set_option linter.unusedVariables false
set_option linter.unusedSimpArgs false
attribute [local irreducible] W
/- r10.Made -/
def c_r10_Made_r0 (F : String → Nat) : List LI := [⟨some 3, .bx (.t 0), none⟩,
  ⟨some 6, .alloc [.nl 1, .nl 3, .nl 1, .nl 3, .nl 1, .nl 3, .nl 1, .nl 1, .nl 1, .nl 1], none⟩]
def c_r10_Made_r1 (F : String → Nat) : List LI := [⟨some 8, .load true 2 (.t 3), none⟩,
  ⟨some 9, .call (F "r05.Made") [.t 8] [], none⟩,
  ⟨some 10, .build [.nl 1, .nl 3, .nl 1, .nl 3, .nl 1, .nl 3, .nl 1, .nl 1, .nl 1, .nl 1] [(0, 2, .t 9)], none⟩,
  ⟨some 7, .alloc [.nl 1, .nl 3, .nl 1, .nl 3, .nl 1, .nl 3, .nl 1, .nl 1, .nl 1, .nl 1], none⟩,
  ⟨none, .store 10 (.t 7) (.t 10), none⟩]
def c_r10_Made_r2 (F : String → Nat) : List LI := [⟨some 12, .fad 0 (.t 7), none⟩,
  ⟨some 13, .load true 2 (.t 12), none⟩,
  ⟨some 14, .mov (.t 1), none⟩,
  ⟨some 15, .call (F "r10.Grown") [.t 13, .t 14] [], none⟩,
  ⟨some 11, .mov (.t 15), none⟩,
  ⟨some 16, .ext (.t 11) 0, none⟩,
  ⟨some 17, .ext (.t 11) 1, none⟩,
  ⟨some 18, .fad 2 (.t 7), none⟩,
  ⟨none, .store 2 (.t 18) (.t 16), none⟩,
  ⟨some 19, .fad 6 (.t 7), none⟩,
  ⟨none, .store 2 (.t 19) (.t 17), none⟩]
def c_r10_Made_r3 (F : String → Nat) : List LI := [⟨some 21, .fad 0 (.t 7), none⟩,
  ⟨some 22, .load true 2 (.t 21), none⟩,
  ⟨some 23, .mov (.t 2), none⟩,
  ⟨some 24, .call (F "r10.Grown") [.t 22, .t 23] [], none⟩,
  ⟨some 20, .mov (.t 24), none⟩,
  ⟨some 25, .ext (.t 20) 0, none⟩,
  ⟨some 26, .ext (.t 20) 1, none⟩,
  ⟨some 27, .fad 4 (.t 7), none⟩,
  ⟨none, .store 2 (.t 27) (.t 25), none⟩,
  ⟨some 28, .fad 8 (.t 7), none⟩,
  ⟨none, .store 2 (.t 28) (.t 26), none⟩]
def c_r10_Made_r4 (F : String → Nat) : List LI := [⟨some 29, .load true 10 (.t 7), none⟩,
  ⟨none, .store 10 (.t 6) (.t 29), none⟩]
def c_r10_Made (F : String → Nat) : LC := (.seq (.reg (c_r10_Made_r0 F) [1, 2, 3, 6]) (.seq (.reg (c_r10_Made_r1 F) [1, 2, 6, 7]) (.seq (.reg (c_r10_Made_r2 F) [2, 6, 7]) (.seq (.reg (c_r10_Made_r3 F) [6, 7]) (.seq (.reg (c_r10_Made_r4 F) [6]) .ret)))))
def h_r10_Made : Hints := ⟨[], fun _ => [], tab [(0, [1, 2, 3, 6]), (1, [1, 2, 6, 7]), (2, [2, 6, 7]), (3, [6, 7]), (4, [6])], tab []⟩

/- l10.PushoutMore -/
def c_l10_PushoutMore_r0 (F : String → Nat) : List LI := [⟨some 3, .bx (.t 0), none⟩,
  ⟨some 4, .bx (.t 1), none⟩,
  ⟨some 6, .mov (.k (.bool false)), none⟩]
def c_l10_PushoutMore_r1 (F : String → Nat) : List LI := [⟨some 15, .call (F "l10.awake") [] [], none⟩,
  ⟨some 16, .not (.t 15), none⟩,
  ⟨some 17, .mov (.t 16), none⟩,
  ⟨some 18, .iaa 2 1 (.t 4) (.k (.int .i64 (0))), some (17, false)⟩,
  ⟨some 19, .load false 1 (.t 18), some (17, false)⟩,
  ⟨some 20, .len (.t 19), some (17, false)⟩,
  ⟨some 21, .bin .gtr (.t 20) (.k (.int .i64 (10))), some (17, false)⟩,
  ⟨some 22, .pick (.t 17) (.k (.bool true)) (.t 21), none⟩,
  ⟨some 23, .mov (.t 22), none⟩,
  ⟨some 24, .iaa 2 1 (.t 4) (.k (.int .i64 (1))), some (23, false)⟩,
  ⟨some 25, .load false 1 (.t 24), some (23, false)⟩,
  ⟨some 26, .len (.t 25), some (23, false)⟩,
  ⟨some 27, .bin .gtr (.t 26) (.k (.int .i64 (10))), some (23, false)⟩,
  ⟨some 28, .pick (.t 23) (.k (.bool true)) (.t 27), none⟩,
  ⟨some 29, .mov (.t 28), none⟩,
  ⟨some 30, .mov (.t 2), some (29, false)⟩,
  ⟨some 31, .len (.t 30), some (29, false)⟩,
  ⟨some 32, .bin .gtr (.t 31) (.k (.int .i64 (10))), some (29, false)⟩,
  ⟨some 33, .pick (.t 29) (.k (.bool true)) (.t 32), none⟩]
def c_l10_PushoutMore_r2 (F : String → Nat) : List LI := [⟨some 34, .call (F "l10.awake") [] [], none⟩,
  ⟨some 6, .mov (.t 34), none⟩]
def c_l10_PushoutMore_r3 (F : String → Nat) : List LI := [⟨some 35, .load true 2 (.t 3), none⟩,
  ⟨some 36, .iaa 2 1 (.t 4) (.k (.int .i64 (0))), none⟩,
  ⟨some 37, .load false 1 (.t 36), none⟩,
  ⟨some 38, .iaa 2 1 (.t 4) (.k (.int .i64 (1))), none⟩,
  ⟨some 39, .load false 1 (.t 38), none⟩,
  ⟨some 40, .call (F "r10.Made") [.t 35, .t 37, .t 39] [], none⟩,
  ⟨some 7, .alloc [.nl 1, .nl 3, .nl 1, .nl 3, .nl 1, .nl 3, .nl 1, .nl 1, .nl 1, .nl 1], none⟩,
  ⟨none, .store 10 (.t 7) (.t 40), none⟩]
def c_l10_PushoutMore_r4 (F : String → Nat) : List LI := [⟨some 42, .load true 10 (.t 7), none⟩,
  ⟨some 43, .call (F "pushout.Of") [.t 42] [], none⟩,
  ⟨some 41, .mov (.t 43), none⟩,
  ⟨some 44, .ext (.t 41) 0, none⟩,
  ⟨some 45, .ext (.t 41) 1, none⟩,
  ⟨some 46, .ext (.t 41) 2, none⟩,
  ⟨some 47, .ext (.t 41) 3, none⟩,
  ⟨some 8, .alloc [.nl 1, .nl 3], none⟩,
  ⟨some 9, .alloc [.nl 1, .nl 1], none⟩,
  ⟨some 10, .alloc [.nl 1, .nl 1], none⟩,
  ⟨none, .store 2 (.t 8) (.t 44), none⟩,
  ⟨none, .store 2 (.t 9) (.t 45), none⟩,
  ⟨none, .store 2 (.t 10) (.t 46), none⟩,
  ⟨some 11, .mov (.t 47), none⟩]
def c_l10_PushoutMore_r5 (F : String → Nat) : List LI := [⟨some 48, .mov (.t 11), none⟩,
  ⟨some 49, .bin .neq (.t 48) (.k (.int .i64 (0))), none⟩,
  ⟨some 50, .mov (.t 49), none⟩,
  ⟨some 51, .fad 0 (.t 9), some (50, false)⟩,
  ⟨some 52, .load false 1 (.t 51), some (50, false)⟩,
  ⟨some 53, .len (.t 52), some (50, false)⟩,
  ⟨some 54, .fad 2 (.t 7), some (50, false)⟩,
  ⟨some 55, .fad 0 (.t 54), some (50, false)⟩,
  ⟨some 56, .load false 1 (.t 55), some (50, false)⟩,
  ⟨some 57, .len (.t 56), some (50, false)⟩,
  ⟨some 58, .bin .neq (.t 53) (.t 57), some (50, false)⟩,
  ⟨some 59, .pick (.t 50) (.k (.bool true)) (.t 58), none⟩,
  ⟨some 60, .mov (.t 59), none⟩,
  ⟨some 61, .fad 1 (.t 9), some (60, false)⟩,
  ⟨some 62, .load false 1 (.t 61), some (60, false)⟩,
  ⟨some 63, .len (.t 62), some (60, false)⟩,
  ⟨some 64, .fad 2 (.t 7), some (60, false)⟩,
  ⟨some 65, .fad 1 (.t 64), some (60, false)⟩,
  ⟨some 66, .load false 1 (.t 65), some (60, false)⟩,
  ⟨some 67, .len (.t 66), some (60, false)⟩,
  ⟨some 68, .bin .neq (.t 63) (.t 67), some (60, false)⟩,
  ⟨some 69, .pick (.t 60) (.k (.bool true)) (.t 68), none⟩,
  ⟨some 70, .mov (.t 69), none⟩,
  ⟨some 71, .fad 0 (.t 10), some (70, false)⟩,
  ⟨some 72, .load false 1 (.t 71), some (70, false)⟩,
  ⟨some 73, .len (.t 72), some (70, false)⟩,
  ⟨some 74, .fad 4 (.t 7), some (70, false)⟩,
  ⟨some 75, .fad 0 (.t 74), some (70, false)⟩,
  ⟨some 76, .load false 1 (.t 75), some (70, false)⟩,
  ⟨some 77, .len (.t 76), some (70, false)⟩,
  ⟨some 78, .bin .neq (.t 73) (.t 77), some (70, false)⟩,
  ⟨some 79, .pick (.t 70) (.k (.bool true)) (.t 78), none⟩,
  ⟨some 80, .mov (.t 79), none⟩,
  ⟨some 81, .fad 1 (.t 10), some (80, false)⟩,
  ⟨some 82, .load false 1 (.t 81), some (80, false)⟩,
  ⟨some 83, .len (.t 82), some (80, false)⟩,
  ⟨some 84, .fad 4 (.t 7), some (80, false)⟩,
  ⟨some 85, .fad 1 (.t 84), some (80, false)⟩,
  ⟨some 86, .load false 1 (.t 85), some (80, false)⟩,
  ⟨some 87, .len (.t 86), some (80, false)⟩,
  ⟨some 88, .bin .neq (.t 83) (.t 87), some (80, false)⟩,
  ⟨some 89, .pick (.t 80) (.k (.bool true)) (.t 88), none⟩]
def c_l10_PushoutMore_r6 (F : String → Nat) : List LI := [⟨some 6, .mov (.k (.bool false)), none⟩]
def c_l10_PushoutMore_r7 (F : String → Nat) : List LI := [⟨some 91, .load true 2 (.t 8), none⟩,
  ⟨some 92, .mov (.t 2), none⟩,
  ⟨some 93, .call (F "r10.Grown") [.t 91, .t 92] [], none⟩,
  ⟨some 90, .mov (.t 93), none⟩,
  ⟨some 94, .ext (.t 90) 0, none⟩,
  ⟨some 95, .ext (.t 90) 1, none⟩,
  ⟨some 12, .alloc [.nl 1, .nl 3], none⟩,
  ⟨some 13, .alloc [.nl 1, .nl 1], none⟩,
  ⟨none, .store 2 (.t 12) (.t 94), none⟩,
  ⟨none, .store 2 (.t 13) (.t 95), none⟩]
def c_l10_PushoutMore_r8 (F : String → Nat) : List LI := [⟨some 96, .fad 0 (.t 12), none⟩,
  ⟨some 97, .load false 1 (.t 96), none⟩,
  ⟨some 98, .len (.t 97), none⟩,
  ⟨some 99, .fad 0 (.t 8), none⟩,
  ⟨some 100, .load false 1 (.t 99), none⟩,
  ⟨some 101, .len (.t 100), none⟩,
  ⟨some 102, .bin .eql (.t 98) (.t 101), none⟩,
  ⟨some 103, .mov (.t 102), none⟩,
  ⟨some 104, .fad 1 (.t 12), some (103, true)⟩,
  ⟨some 105, .load false 1 (.t 104), some (103, true)⟩,
  ⟨some 106, .len (.t 105), some (103, true)⟩,
  ⟨some 107, .fad 1 (.t 8), some (103, true)⟩,
  ⟨some 108, .load false 1 (.t 107), some (103, true)⟩,
  ⟨some 109, .len (.t 108), some (103, true)⟩,
  ⟨some 110, .bin .eql (.t 106) (.t 109), some (103, true)⟩,
  ⟨some 111, .pick (.t 103) (.t 110) (.k (.bool false)), none⟩,
  ⟨some 112, .mov (.t 111), none⟩,
  ⟨some 113, .load true 2 (.t 8), some (112, true)⟩,
  ⟨some 114, .load true 2 (.t 12), some (112, true)⟩,
  ⟨some 115, .load true 2 (.t 13), some (112, true)⟩,
  ⟨some 116, .call (F "morphism.Injective") [.t 113, .t 114, .t 115] [], some (112, true)⟩,
  ⟨some 117, .pick (.t 112) (.t 116) (.k (.bool false)), none⟩,
  ⟨some 14, .mov (.t 117), none⟩]
def c_l10_PushoutMore_r9 (F : String → Nat) : List LI := [⟨some 118, .load true 10 (.t 7), none⟩,
  ⟨some 119, .load true 2 (.t 12), none⟩,
  ⟨some 120, .load true 2 (.t 9), none⟩,
  ⟨some 121, .load true 2 (.t 13), none⟩,
  ⟨some 122, .call (F "r06.Then") [.t 120, .t 121] [], none⟩,
  ⟨some 123, .load true 2 (.t 10), none⟩,
  ⟨some 124, .load true 2 (.t 13), none⟩,
  ⟨some 125, .call (F "r06.Then") [.t 123, .t 124] [], none⟩,
  ⟨some 126, .call (F "pushout.Check") [.t 118, .t 119, .t 122, .t 125] [], none⟩,
  ⟨some 127, .mov (.t 14), none⟩,
  ⟨some 128, .eqB false (.t 126) (.t 127), none⟩,
  ⟨some 6, .mov (.t 128), none⟩]
def c_l10_PushoutMore (F : String → Nat) : LC := (.seq (.reg (c_l10_PushoutMore_r0 F) [2, 3, 4]) (.seq (.seq (.reg (c_l10_PushoutMore_r1 F) [2, 3, 4, 33]) (.cond (.t 33) (.seq (.reg (c_l10_PushoutMore_r2 F) [6]) .ret) .skip)) (.seq (.reg (c_l10_PushoutMore_r3 F) [2, 7]) (.seq (.reg (c_l10_PushoutMore_r4 F) [2, 7, 8, 9, 10, 11]) (.seq (.seq (.reg (c_l10_PushoutMore_r5 F) [2, 7, 8, 9, 10, 89]) (.cond (.t 89) (.seq (.reg (c_l10_PushoutMore_r6 F) [6]) .ret) .skip)) (.seq (.reg (c_l10_PushoutMore_r7 F) [7, 8, 9, 10, 12, 13]) (.seq (.reg (c_l10_PushoutMore_r8 F) [7, 9, 10, 12, 13, 14]) (.seq (.dreg [(0, none, [], true), (1, none, [], true), (4, none, [0, 1], true), (5, (some 0), [4], false), (6, (some 0), [4], false), (7, none, [0, 1], false)] (c_l10_PushoutMore_r9 F) [6]) .ret))))))))
def h_l10_PushoutMore : Hints := ⟨[], fun _ => [], tab [(0, [2, 3, 4]), (1, [2, 3, 4, 33]), (2, [6]), (3, [2, 7]), (4, [2, 7, 8, 9, 10, 11]), (5, [2, 7, 8, 9, 10, 89]), (6, [6]), (7, [7, 8, 9, 10, 12, 13]), (8, [7, 9, 10, 12, 13, 14]), (9, [6])], tab []⟩

attribute [go_sem] c_r10_Made_r0 c_r10_Made_r1 c_r10_Made_r2 c_r10_Made_r3 c_r10_Made_r4 c_r10_Made c_l10_PushoutMore_r0 c_l10_PushoutMore_r1 c_l10_PushoutMore_r2 c_l10_PushoutMore_r3 c_l10_PushoutMore_r4 c_l10_PushoutMore_r5 c_l10_PushoutMore_r6 c_l10_PushoutMore_r7 c_l10_PushoutMore_r8 c_l10_PushoutMore_r9 c_l10_PushoutMore
def madeSp (d : Dr) (b c : List Int) : Sp := ⟨madeG d, grG (madeG d) b, grG (madeG d) c, grM (madeG d) b, grM (madeG d) c⟩
def spA (s : Sp) : D := .agg [.arr 1 (ints s.a.n), .arr 3 (eds s.a.e), .arr 1 (ints s.b.n), .arr 3 (eds s.b.e), .arr 1 (ints s.c.n), .arr 3 (eds s.c.e), .arr 1 (ints s.f.n), .arr 1 (ints s.f.e), .arr 1 (ints s.g.n), .arr 1 (ints s.g.e)]
def Bts (l : List Int) : Prop := (∀ v ∈ l, Byte v) ∧ l.length ≤ maxL
section
variable (P : Program) (F : String → Nat)
def K_r10_Made : Prop := ∀ (d : Dr) (b c : List Int), d.ok → d.n.length ≤ maxL → d.e.length ≤ maxL → b.length ≤ 1000 → (∀ v ∈ b, Byte v) → c.length ≤ 1000 → (∀ v ∈ c, Byte v) → FC P (F "r10.Made") [drD d, .lst 1 (u8s b), .lst 1 (u8s c)] (spA (madeSp d b c)) []
def K_l10_PushoutMore : Prop := ∀ (d : Dr) (b c m : List Int), d.ok → d.n.length ≤ maxL → d.e.length ≤ maxL → Bts b → Bts c → Bts m → FC P (F "l10.PushoutMore") [drD d, .agg [.lst 1 (u8s b), .lst 1 (u8s c)], .lst 1 (u8s m)] (.bool true) []
end
section
variable {P : Program} {F : String → Nat} {α : Type}
theorem made_ok {d : Dr} {b c : List Int} (hd : d.ok) (hb : ∀ v ∈ b, Byte v) (hc : ∀ v ∈ c, Byte v) : SOk (madeSp d b c) ∧ (madeSp d b c).b.n.length ≤ 11 ∧ (madeSp d b c).b.e.length ≤ 14 ∧ (madeSp d b c).c.n.length ≤ 11 ∧ (madeSp d b c).c.e.length ≤ 14 := by
  have va := madeG_valid hd
  have l1 := madeN_len d
  have l2 := madeE_len d
  have l3 : (madeG d).n.length ≤ 8 := l1
  obtain ⟨h1, h2, h3⟩ := gr_ok va hb (by omega) (by omega)
  obtain ⟨h4, h5, h6⟩ := gr_ok va hc (by omega) (by omega)
  have q1 : (madeSp d b c).b.n.length ≤ 11 := Nat.le_trans h2 (by omega)
  have q2 : (madeSp d b c).b.e.length ≤ 14 := Nat.le_trans h3 (by omega)
  have q3 : (madeSp d b c).c.n.length ≤ 11 := Nat.le_trans h5 (by omega)
  have q4 : (madeSp d b c).c.e.length ≤ 14 := Nat.le_trans h6 (by omega)
  exact ⟨⟨h1, h4, fun h => by unfold Big at h; omega⟩, q1, q2, q3, q4⟩
theorem w_r10_Made (hm : K_r05_Made P F) (hg : K_r10_Grown P F) (d : Dr) (b c : List Int) (hd : d.ok) (d1 : d.n.length ≤ maxL) (d2 : d.e.length ≤ maxL) (b1 : b.length ≤ 1000) (b2 : ∀ v ∈ b, Byte v) (c1 : c.length ≤ 1000) (c2 : ∀ v ∈ c, Byte v) :
    W P (c_r10_Made F) (Done [.c 6 true 10] [] (spA (madeSp d b c)) []) (init [drD d, .lst 1 (u8s b), .lst 1 (u8s c)]) := by
  refine W_of ?_
  have r1 := hm d hd d1 d2
  have va := madeG_valid hd
  have r2 := hg (madeG d) b va b1 b2
  have r3 := hg (madeG d) c va c1 c2
  unfold madeSp
  generalize grM (madeG d) b = bm at *
  generalize grM (madeG d) c = cm at *
  generalize grG (madeG d) b = bg at *
  generalize grG (madeG d) c = cg at *
  clear va
  generalize madeG d = a at *
  obtain ⟨an, ae⟩ := a
  obtain ⟨bn, be⟩ := bg
  obtain ⟨cn, ce⟩ := cg
  obtain ⟨bmn, bme⟩ := bm
  obtain ⟨cmn, cme⟩ := cm
  simp only [gD, gA, mD, mA, drD] at *
  simp (config := { maxSteps := 1000000 }) (disch := first | omega | (simp only [go_sem]; omega)) only [go_sem, ↓reduceIte]
  refine call_by r1 ?_
  simp (config := { maxSteps := 1000000 }) (disch := first | omega | (simp only [go_sem]; omega)) only [go_sem, ↓reduceIte]
  refine call_by r2 ?_
  simp (config := { maxSteps := 1000000 }) (disch := first | omega | (simp only [go_sem]; omega)) only [go_sem, ↓reduceIte]
  refine call_by r3 ?_
  simp (config := { maxSteps := 1000000 }) (disch := first | omega | (simp only [go_sem]; omega)) only [go_sem, ↓reduceIte]
  try rfl
set_option maxHeartbeats 2000000 in
set_option maxRecDepth 100000 in
theorem w_l10_PushoutMore (hw : K_l10_awake P F) (hm : K_r10_Made P F) (ho : K_pushout_Of P F) (hg : K_r10_Grown P F) (hi : K_morphism_Injective P F) (ht : K_r06_Then P F) (hk : K_pushout_Check P F) (d : Dr) (b c m : List Int) (hd : d.ok) (d1 : d.n.length ≤ maxL) (d2 : d.e.length ≤ maxL) (hb : Bts b) (hc : Bts c) (hm' : Bts m) :
    W P (c_l10_PushoutMore F) (Done [.t 6] [] (.bool true) []) (init [drD d, .agg [.lst 1 (u8s b), .lst 1 (u8s c)], .lst 1 (u8s m)]) := by
  refine W_of ?_
  obtain ⟨hb1, hb2⟩ := hb
  obtain ⟨hc1, hc2⟩ := hc
  obtain ⟨hm1, hm2⟩ := hm'
  unfold maxL at hb2 hc2 hm2
  by_cases a1 : b.length ≤ 10
  · have e1 : decide ((10 : Int) < b.length) = false := decide_eq_false (by omega)
    by_cases a2 : c.length ≤ 10
    · have e2 : decide ((10 : Int) < c.length) = false := decide_eq_false (by omega)
      by_cases a3 : m.length ≤ 10
      · have e3 : decide ((10 : Int) < m.length) = false := decide_eq_false (by omega)
        have r1 := hm d b c hd d1 d2 (by omega) hb1 (by omega) hc1
        obtain ⟨hs, z1, z2, z3, z4⟩ := made_ok hd hb1 hc1
        obtain ⟨p1, p2⟩ := po_len hs
        have r2 := ho (madeSp d b c)
        rw [poR_ok hs] at r2
        have r3 := hg (poG (madeSp d b c)) m hs.p.vb (by omega) hm1
        obtain ⟨hx, x1, x2⟩ := gr_ok hs.p.vb hm1 (by omega) (by omega)
        have r4 := hi (poG (madeSp d b c)) (grG (poG (madeSp d b c)) m) (grM (poG (madeSp d b c)) m)
        have bp := validM_bd (mok.2 hs.p)
        have bk := validM_bd (mok.2 hs.k)
        have y1 := hs.p.ln
        have y2 := hs.p.le
        have y3 := hs.k.ln
        have y4 := hs.k.le
        have y5 := hx.ln
        have y6 := hx.le
        have r5 := ht (poP (madeSp d b c)) (grM (poG (madeSp d b c)) m) (by omega) (by omega) (by rw [y5]; exact bp.1) (by rw [y6]; exact bp.2)
        have r6 := ht (poK (madeSp d b c)) (grM (poG (madeSp d b c)) m) (by omega) (by omega) (by rw [y5]; exact bk.1) (by rw [y6]; exact bk.2)
        have r7 := hk (madeSp d b c) (grG (poG (madeSp d b c)) m) (thenM (poP (madeSp d b c)) (grM (poG (madeSp d b c)) m)) (thenM (poK (madeSp d b c)) (grM (poG (madeSp d b c)) m))
        rw [hs.chk_grown hx] at r7
        have hsz := fun h => sur_size hx h
        clear hs hx z1 z2 z3 z4 bp bk y5 y6 x1 x2 p1 p2 hm ho hg hi ht hk
        generalize thenM (poP (madeSp d b c)) (grM (poG (madeSp d b c)) m) = t1 at *
        generalize thenM (poK (madeSp d b c)) (grM (poG (madeSp d b c)) m) = t2 at *
        generalize injM (poG (madeSp d b c)) (grG (poG (madeSp d b c)) m) (grM (poG (madeSp d b c)) m) = i1 at *
        generalize surM (poG (madeSp d b c)) (grG (poG (madeSp d b c)) m) (grM (poG (madeSp d b c)) m) = o1 at *
        generalize grM (poG (madeSp d b c)) m = xm at *
        generalize grG (poG (madeSp d b c)) m = x at *
        generalize poG (madeSp d b c) = p at *
        generalize poP (madeSp d b c) = h at *
        generalize poK (madeSp d b c) = k at *
        generalize madeSp d b c = s at *
        obtain ⟨pn, pe⟩ := p
        obtain ⟨hn, he⟩ := h
        obtain ⟨kn, ke⟩ := k
        obtain ⟨xn, xe⟩ := x
        obtain ⟨xmn, xme⟩ := xm
        obtain ⟨t1n, t1e⟩ := t1
        obtain ⟨t2n, t2e⟩ := t2
        simp only [gD, gA, mD, mA, spD, spA, poD, drD] at *
        have g1 : decide ((hn.length : Int) = s.b.n.length) = true := decide_eq_true (by omega)
        have g2 : decide ((he.length : Int) = s.b.e.length) = true := decide_eq_true (by omega)
        have g3 : decide ((kn.length : Int) = s.c.n.length) = true := decide_eq_true (by omega)
        have g4 : decide ((ke.length : Int) = s.c.e.length) = true := decide_eq_true (by omega)
        by_cases f1 : xn.length = pn.length
        · have f1' : decide ((xn.length : Int) = pn.length) = true := decide_eq_true (by omega)
          by_cases f2 : xe.length = pe.length
          · have f2' : decide ((xe.length : Int) = pe.length) = true := decide_eq_true (by omega)
            rw [decide_eq_true f1, decide_eq_true f2] at hsz
            have ho1 : (i1 && o1) = i1 := by cases i1 <;> simp_all
            rw [ho1] at r7
            clear hsz ho1
            simp (config := { maxSteps := 1000000 }) (disch := first | omega | (simp only [go_sem]; omega)) only [go_sem, ↓reduceIte]
            refine call_by hw ?_
            simp (config := { maxSteps := 1000000 }) (disch := first | omega | (simp only [go_sem]; omega)) only [go_sem, ↓reduceIte, e1, e2, e3]
            refine call_by r1 ?_
            simp (config := { maxSteps := 1000000 }) (disch := first | omega | (simp only [go_sem]; omega)) only [go_sem, ↓reduceIte]
            refine call_by r2 ?_
            simp (config := { maxSteps := 1000000 }) (disch := first | omega | (simp only [go_sem]; omega)) only [go_sem, ↓reduceIte, g1, g2, g3, g4]
            refine call_by r3 ?_
            simp (config := { maxSteps := 1000000 }) (disch := first | omega | (simp only [go_sem]; omega)) only [go_sem, ↓reduceIte, f1', f2']
            refine call_by r4 ?_
            simp (config := { maxSteps := 1000000 }) (disch := first | omega | (simp only [go_sem]; omega)) only [go_sem, ↓reduceIte]
            refine call_by r5 ?_
            simp (config := { maxSteps := 1000000 }) (disch := first | omega | (simp only [go_sem]; omega)) only [go_sem, ↓reduceIte]
            refine call_by r6 ?_
            simp (config := { maxSteps := 1000000 }) (disch := first | omega | (simp only [go_sem]; omega)) only [go_sem, ↓reduceIte]
            refine call_by r7 ?_
            simp (config := { maxSteps := 1000000 }) (disch := first | omega | (simp only [go_sem]; omega)) only [go_sem, ↓reduceIte]
            try simp
          · have f2' : decide ((xe.length : Int) = pe.length) = false := decide_eq_false (by omega)
            rw [decide_eq_false f2] at hsz
            have ho1 : (i1 && o1) = false := by cases i1 <;> simp_all
            rw [ho1] at r7
            clear hsz ho1
            simp (config := { maxSteps := 1000000 }) (disch := first | omega | (simp only [go_sem]; omega)) only [go_sem, ↓reduceIte]
            refine call_by hw ?_
            simp (config := { maxSteps := 1000000 }) (disch := first | omega | (simp only [go_sem]; omega)) only [go_sem, ↓reduceIte, e1, e2, e3]
            refine call_by r1 ?_
            simp (config := { maxSteps := 1000000 }) (disch := first | omega | (simp only [go_sem]; omega)) only [go_sem, ↓reduceIte]
            refine call_by r2 ?_
            simp (config := { maxSteps := 1000000 }) (disch := first | omega | (simp only [go_sem]; omega)) only [go_sem, ↓reduceIte, g1, g2, g3, g4]
            refine call_by r3 ?_
            simp (config := { maxSteps := 1000000 }) (disch := first | omega | (simp only [go_sem]; omega)) only [go_sem, ↓reduceIte, f1', f2']
            refine call_by r5 ?_
            simp (config := { maxSteps := 1000000 }) (disch := first | omega | (simp only [go_sem]; omega)) only [go_sem, ↓reduceIte]
            refine call_by r6 ?_
            simp (config := { maxSteps := 1000000 }) (disch := first | omega | (simp only [go_sem]; omega)) only [go_sem, ↓reduceIte]
            refine call_by r7 ?_
            simp (config := { maxSteps := 1000000 }) (disch := first | omega | (simp only [go_sem]; omega)) only [go_sem, ↓reduceIte]
            try simp
        · have f1' : decide ((xn.length : Int) = pn.length) = false := decide_eq_false (by omega)
          rw [decide_eq_false f1] at hsz
          have ho1 : (i1 && o1) = false := by cases i1 <;> simp_all
          rw [ho1] at r7
          clear hsz ho1
          simp (config := { maxSteps := 1000000 }) (disch := first | omega | (simp only [go_sem]; omega)) only [go_sem, ↓reduceIte]
          refine call_by hw ?_
          simp (config := { maxSteps := 1000000 }) (disch := first | omega | (simp only [go_sem]; omega)) only [go_sem, ↓reduceIte, e1, e2, e3]
          refine call_by r1 ?_
          simp (config := { maxSteps := 1000000 }) (disch := first | omega | (simp only [go_sem]; omega)) only [go_sem, ↓reduceIte]
          refine call_by r2 ?_
          simp (config := { maxSteps := 1000000 }) (disch := first | omega | (simp only [go_sem]; omega)) only [go_sem, ↓reduceIte, g1, g2, g3, g4]
          refine call_by r3 ?_
          simp (config := { maxSteps := 1000000 }) (disch := first | omega | (simp only [go_sem]; omega)) only [go_sem, ↓reduceIte, f1']
          refine call_by r5 ?_
          simp (config := { maxSteps := 1000000 }) (disch := first | omega | (simp only [go_sem]; omega)) only [go_sem, ↓reduceIte]
          refine call_by r6 ?_
          simp (config := { maxSteps := 1000000 }) (disch := first | omega | (simp only [go_sem]; omega)) only [go_sem, ↓reduceIte]
          refine call_by r7 ?_
          simp (config := { maxSteps := 1000000 }) (disch := first | omega | (simp only [go_sem]; omega)) only [go_sem, ↓reduceIte]
          try simp
      · have e3 : decide ((10 : Int) < m.length) = true := decide_eq_true (by omega)
        simp only [drD] at *
        simp (config := { maxSteps := 1000000 }) (disch := first | omega | (simp only [go_sem]; omega)) only [go_sem, ↓reduceIte]
        refine call_by hw ?_
        simp (config := { maxSteps := 1000000 }) (disch := first | omega | (simp only [go_sem]; omega)) only [go_sem, ↓reduceIte, e1, e2, e3]
        refine call_by hw ?_
        simp (config := { maxSteps := 1000000 }) (disch := first | omega | (simp only [go_sem]; omega)) only [go_sem, ↓reduceIte]
    · have e2 : decide ((10 : Int) < c.length) = true := decide_eq_true (by omega)
      simp only [drD] at *
      simp (config := { maxSteps := 1000000 }) (disch := first | omega | (simp only [go_sem]; omega)) only [go_sem, ↓reduceIte]
      refine call_by hw ?_
      simp (config := { maxSteps := 1000000 }) (disch := first | omega | (simp only [go_sem]; omega)) only [go_sem, ↓reduceIte, e1, e2]
      refine call_by hw ?_
      simp (config := { maxSteps := 1000000 }) (disch := first | omega | (simp only [go_sem]; omega)) only [go_sem, ↓reduceIte]
  · have e1 : decide ((10 : Int) < b.length) = true := decide_eq_true (by omega)
    simp only [drD] at *
    simp (config := { maxSteps := 1000000 }) (disch := first | omega | (simp only [go_sem]; omega)) only [go_sem, ↓reduceIte]
    refine call_by hw ?_
    simp (config := { maxSteps := 1000000 }) (disch := first | omega | (simp only [go_sem]; omega)) only [go_sem, ↓reduceIte, e1]
    refine call_by hw ?_
    simp (config := { maxSteps := 1000000 }) (disch := first | omega | (simp only [go_sem]; omega)) only [go_sem, ↓reduceIte]
def shU82 : Sh := .cat [shU8s, shU8s]
theorem rd_u82 {x : D} (h : HasEl shU82 x) : ∃ b c : List Int, x = .agg [.lst 1 (u8s b), .lst 1 (u8s c)] ∧ Bts b ∧ Bts c := by
  simp only [shU82, HasEl] at h
  obtain ⟨ds, rfl, h⟩ := h
  obtain ⟨_, _, rfl, h1, h⟩ := hasShs_slc h
  obtain ⟨_, _, rfl, h2, h⟩ := hasShs_slc h
  obtain rfl := hasShs_nil h
  obtain ⟨b, rfl, b1, b2⟩ := rd_u8s h1
  obtain ⟨c, rfl, c1, c2⟩ := rd_u8s h2
  exact ⟨b, c, rfl, ⟨b1, b2⟩, ⟨c1, c2⟩⟩
theorem x_l10_PushoutMore (h : K_l10_PushoutMore P F) (args : List D) (ha : HasEls [shDr, shU82, shU8s] args) : FC P (F "l10.PushoutMore") args (.bool true) [] := by
  simp only [HasEls] at ha
  obtain ⟨_, _, rfl, h1, _, _, rfl, h2, _, _, rfl, h3, rfl⟩ := ha
  obtain ⟨x, rfl, a1, a2, a3⟩ := rd_draft h1
  obtain ⟨b, c, rfl, hb, hc⟩ := rd_u82 h2
  obtain ⟨m, rfl, m1, m2⟩ := rd_u8s h3
  exact h x b c m a1 a2 a3 hb hc ⟨m1, m2⟩
end
end Go.Am
