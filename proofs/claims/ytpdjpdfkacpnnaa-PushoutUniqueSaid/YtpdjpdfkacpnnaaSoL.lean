/- Spans of drafts; the law PushoutMore. -/
import Derived.Test.YtpdjpdfkacpnnaaSoH
import Derived.Test.YtpdjpdfkacpnnaaSoJ
import Derived.Test.YtpdjpdfkacpnnaaSoK
namespace Go.Am
open Go
set_option linter.unusedVariables false
set_option linter.unusedSimpArgs false
attribute [local irreducible] W
/- r10.Made -/
def c_r10_Made_r0 (F : String → Nat) : List LI := [⟨some 3, .bx (.t 0), none⟩,
  ⟨some 6, .alloc [.nl 1, .nl 3, .nl 1, .nl 3, .nl 1, .nl 3, .nl 1, .nl 1, .nl 1, .nl 1], none⟩]
def c_r10_Made_r1 (F : String → Nat) : List LI := [⟨some 8, .load true 2 (.t 3), none⟩,
  ⟨some 9, .call (F "r05.Made") [.t 8] [], none⟩,
  ⟨some 10, .build [.nl 1, .nl 3, .nl 1, .nl 3, .nl 1, .nl 3, .nl 1, .nl 1, .nl 1, .nl 1] [(0, 2, .t 9)], none⟩,
  ⟨some 7, .alloc [.nl 1, .nl 3, .nl 1, .nl 3, .nl 1, .nl 3, .nl 1, .nl 1, .nl 1, .nl 1], none⟩,
  ⟨none, .store 10 (.t 7) (.t 10), none⟩]
def c_r10_Made_r2 (F : String → Nat) : List LI := [⟨some 12, .fad 0 (.t 7), none⟩,
  ⟨some 13, .load true 2 (.t 12), none⟩,
  ⟨some 14, .mov (.t 1), none⟩,
  ⟨some 15, .call (F "r10.Grown") [.t 13, .t 14] [], none⟩,
  ⟨some 11, .mov (.t 15), none⟩,
  ⟨some 16, .ext (.t 11) 0, none⟩,
  ⟨some 17, .ext (.t 11) 1, none⟩,
  ⟨some 18, .fad 2 (.t 7), none⟩,
  ⟨none, .store 2 (.t 18) (.t 16), none⟩,
  ⟨some 19, .fad 6 (.t 7), none⟩,
  ⟨none, .store 2 (.t 19) (.t 17), none⟩]
def c_r10_Made_r3 (F : String → Nat) : List LI := [⟨some 21, .fad 0 (.t 7), none⟩,
  ⟨some 22, .load true 2 (.t 21), none⟩,
  ⟨some 23, .mov (.t 2), none⟩,
  ⟨some 24, .call (F "r10.Grown") [.t 22, .t 23] [], none⟩,
  ⟨some 20, .mov (.t 24), none⟩,
  ⟨some 25, .ext (.t 20) 0, none⟩,
  ⟨some 26, .ext (.t 20) 1, none⟩,
  ⟨some 27, .fad 4 (.t 7), none⟩,
  ⟨none, .store 2 (.t 27) (.t 25), none⟩,
  ⟨some 28, .fad 8 (.t 7), none⟩,
  ⟨none, .store 2 (.t 28) (.t 26), none⟩]
def c_r10_Made_r4 (F : String → Nat) : List LI := [⟨some 29, .load true 10 (.t 7), none⟩,
  ⟨none, .store 10 (.t 6) (.t 29), none⟩]
def c_r10_Made (F : String → Nat) : LC := (.seq (.reg (c_r10_Made_r0 F) [1, 2, 3, 6]) (.seq (.reg (c_r10_Made_r1 F) [1, 2, 6, 7]) (.seq (.reg (c_r10_Made_r2 F) [2, 6, 7]) (.seq (.reg (c_r10_Made_r3 F) [6, 7]) (.seq (.reg (c_r10_Made_r4 F) [6]) .ret)))))
def h_r10_Made : Hints := ⟨[], fun _ => [], tab [(0, [1, 2, 3, 6]), (1, [1, 2, 6, 7]), (2, [2, 6, 7]), (3, [6, 7]), (4, [6])], tab []⟩

attribute [go_sem] c_r10_Made_r0 c_r10_Made_r1 c_r10_Made_r2 c_r10_Made_r3 c_r10_Made_r4 c_r10_Made
def madeSp (d : Dr) (b c : List Int) : Sp := ⟨madeG d, grG (madeG d) b, grG (madeG d) c, grM (madeG d) b, grM (madeG d) c⟩
def spA (s : Sp) : D := .agg [.arr 1 (ints s.a.n), .arr 3 (eds s.a.e), .arr 1 (ints s.b.n), .arr 3 (eds s.b.e), .arr 1 (ints s.c.n), .arr 3 (eds s.c.e), .arr 1 (ints s.f.n), .arr 1 (ints s.f.e), .arr 1 (ints s.g.n), .arr 1 (ints s.g.e)]
def Bts (l : List Int) : Prop := (∀ v ∈ l, Byte v) ∧ l.length ≤ maxL
section
variable (P : Program) (F : String → Nat)
def K_r10_Made : Prop := ∀ (d : Dr) (b c : List Int), d.ok → d.n.length ≤ maxL → d.e.length ≤ maxL → b.length ≤ 1000 → (∀ v ∈ b, Byte v) → c.length ≤ 1000 → (∀ v ∈ c, Byte v) → FC P (F "r10.Made") [drD d, .lst 1 (u8s b), .lst 1 (u8s c)] (spA (madeSp d b c)) []
end
section
variable {P : Program} {F : String → Nat} {α : Type}
theorem made_ok {d : Dr} {b c : List Int} (hd : d.ok) (hb : ∀ v ∈ b, Byte v) (hc : ∀ v ∈ c, Byte v) : SOk (madeSp d b c) ∧ (madeSp d b c).b.n.length ≤ 11 ∧ (madeSp d b c).b.e.length ≤ 14 ∧ (madeSp d b c).c.n.length ≤ 11 ∧ (madeSp d b c).c.e.length ≤ 14 := by
  have va := madeG_valid hd
  have l1 := madeN_len d
  have l2 := madeE_len d
  have l3 : (madeG d).n.length ≤ 8 := l1
  obtain ⟨h1, h2, h3⟩ := gr_ok va hb (by omega) (by omega)
  obtain ⟨h4, h5, h6⟩ := gr_ok va hc (by omega) (by omega)
  have q1 : (madeSp d b c).b.n.length ≤ 11 := Nat.le_trans h2 (by omega)
  have q2 : (madeSp d b c).b.e.length ≤ 14 := Nat.le_trans h3 (by omega)
  have q3 : (madeSp d b c).c.n.length ≤ 11 := Nat.le_trans h5 (by omega)
  have q4 : (madeSp d b c).c.e.length ≤ 14 := Nat.le_trans h6 (by omega)
  exact ⟨⟨h1, h4, fun h => by unfold Big at h; omega⟩, q1, q2, q3, q4⟩
theorem w_r10_Made (hm : K_r05_Made P F) (hg : K_r10_Grown P F) (d : Dr) (b c : List Int) (hd : d.ok) (d1 : d.n.length ≤ maxL) (d2 : d.e.length ≤ maxL) (b1 : b.length ≤ 1000) (b2 : ∀ v ∈ b, Byte v) (c1 : c.length ≤ 1000) (c2 : ∀ v ∈ c, Byte v) :
    W P (c_r10_Made F) (Done [.c 6 true 10] [] (spA (madeSp d b c)) []) (init [drD d, .lst 1 (u8s b), .lst 1 (u8s c)]) := by
  refine W_of ?_
  have r1 := hm d hd d1 d2
  have va := madeG_valid hd
  have r2 := hg (madeG d) b va b1 b2
  have r3 := hg (madeG d) c va c1 c2
  unfold madeSp
  generalize grM (madeG d) b = bm at *
  generalize grM (madeG d) c = cm at *
  generalize grG (madeG d) b = bg at *
  generalize grG (madeG d) c = cg at *
  clear va
  generalize madeG d = a at *
  obtain ⟨an, ae⟩ := a
  obtain ⟨bn, be⟩ := bg
  obtain ⟨cn, ce⟩ := cg
  obtain ⟨bmn, bme⟩ := bm
  obtain ⟨cmn, cme⟩ := cm
  simp only [gD, gA, mD, mA, drD] at *
  simp (config := { maxSteps := 1000000 }) (disch := first | omega | (simp only [go_sem]; omega)) only [go_sem, ↓reduceIte]
  refine call_by r1 ?_
  simp (config := { maxSteps := 1000000 }) (disch := first | omega | (simp only [go_sem]; omega)) only [go_sem, ↓reduceIte]
  refine call_by r2 ?_
  simp (config := { maxSteps := 1000000 }) (disch := first | omega | (simp only [go_sem]; omega)) only [go_sem, ↓reduceIte]
  refine call_by r3 ?_
  simp (config := { maxSteps := 1000000 }) (disch := first | omega | (simp only [go_sem]; omega)) only [go_sem, ↓reduceIte]
  try rfl
end
end Go.Am
