/- The law: kinds of composed morphisms. -/
import Derived.Test.YtgmojdpklekldaaSnJ
import Derived.Test.YtgmojdpklekldaaSmH
import Derived.Test.YtgmojdpklekldaaSmJ
namespace Go.Am
open Go
set_option linter.unusedVariables false
set_option linter.unusedSimpArgs false
attribute [local irreducible] W
/- l06.chain -/
def c_l06_chain_r0 (F : String → Nat) : List LI := [⟨some 3, .bx (.t 0), none⟩,
  ⟨some 6, .alloc [.nl 1, .nl 3], none⟩,
  ⟨some 7, .alloc [.nl 1, .nl 3, .nl 1, .nl 1], none⟩,
  ⟨some 8, .alloc [.nl 1, .nl 3, .nl 1, .nl 1], none⟩]
def c_l06_chain_r1 (F : String → Nat) : List LI := [⟨some 14, .load true 2 (.t 3), none⟩,
  ⟨some 15, .call (F "r05.Made") [.t 14] [], none⟩,
  ⟨some 9, .alloc [.nl 1, .nl 3], none⟩,
  ⟨none, .store 2 (.t 9) (.t 15), none⟩]
def c_l06_chain_r2 (F : String → Nat) : List LI := [⟨some 17, .load true 2 (.t 9), none⟩,
  ⟨some 18, .mov (.t 1), none⟩,
  ⟨some 19, .call (F "r06.Image") [.t 17, .t 18] [], none⟩,
  ⟨some 16, .mov (.t 19), none⟩,
  ⟨some 20, .ext (.t 16) 0, none⟩,
  ⟨some 21, .ext (.t 16) 1, none⟩,
  ⟨some 10, .alloc [.nl 1, .nl 3], none⟩,
  ⟨some 11, .alloc [.nl 1, .nl 1], none⟩,
  ⟨none, .store 2 (.t 10) (.t 20), none⟩,
  ⟨none, .store 2 (.t 11) (.t 21), none⟩]
def c_l06_chain_r3 (F : String → Nat) : List LI := [⟨some 23, .load true 2 (.t 10), none⟩,
  ⟨some 24, .mov (.t 2), none⟩,
  ⟨some 25, .call (F "r06.Image") [.t 23, .t 24] [], none⟩,
  ⟨some 22, .mov (.t 25), none⟩,
  ⟨some 26, .ext (.t 22) 0, none⟩,
  ⟨some 27, .ext (.t 22) 1, none⟩,
  ⟨some 12, .alloc [.nl 1, .nl 3], none⟩,
  ⟨some 13, .alloc [.nl 1, .nl 1], none⟩,
  ⟨none, .store 2 (.t 12) (.t 26), none⟩,
  ⟨none, .store 2 (.t 13) (.t 27), none⟩]
def c_l06_chain_r4 (F : String → Nat) : List LI := [⟨some 28, .load true 2 (.t 9), none⟩,
  ⟨some 29, .load true 2 (.t 10), none⟩,
  ⟨some 30, .load true 2 (.t 11), none⟩,
  ⟨some 31, .build [.nl 1, .nl 3, .nl 1, .nl 1] [(0, 2, .t 29), (2, 2, .t 30)], none⟩,
  ⟨some 32, .load true 2 (.t 12), none⟩,
  ⟨some 33, .load true 2 (.t 13), none⟩,
  ⟨some 34, .build [.nl 1, .nl 3, .nl 1, .nl 1] [(0, 2, .t 32), (2, 2, .t 33)], none⟩,
  ⟨none, .store 2 (.t 6) (.t 28), none⟩,
  ⟨none, .store 4 (.t 7) (.t 31), none⟩,
  ⟨none, .store 4 (.t 8) (.t 34), none⟩]
def c_l06_chain (F : String → Nat) : LC := (.seq (.reg (c_l06_chain_r0 F) [1, 2, 3, 6, 7, 8]) (.seq (.reg (c_l06_chain_r1 F) [1, 2, 6, 7, 8, 9]) (.seq (.reg (c_l06_chain_r2 F) [2, 6, 7, 8, 9, 10, 11]) (.seq (.reg (c_l06_chain_r3 F) [6, 7, 8, 9, 10, 11, 12, 13]) (.seq (.dreg [(1, none, [], true), (2, none, [], true), (4, none, [], true), (5, none, [], true), (7, none, [1, 2, 4, 5], false), (8, none, [4, 5], false)] (c_l06_chain_r4 F) [6, 7, 8]) .ret)))))
def h_l06_chain : Hints := ⟨[], fun _ => [], tab [(0, [1, 2, 3, 6, 7, 8]), (1, [1, 2, 6, 7, 8, 9]), (2, [2, 6, 7, 8, 9, 10, 11]), (3, [6, 7, 8, 9, 10, 11, 12, 13]), (4, [6, 7, 8])], tab []⟩

attribute [go_sem] c_l06_chain_r0 c_l06_chain_r1 c_l06_chain_r2 c_l06_chain_r3 c_l06_chain_r4 c_l06_chain
def awA (g : G) (m : Mo) : D := .agg [.arr 1 (ints g.n), .arr 3 (eds g.e), .arr 1 (ints m.n), .arr 1 (ints m.e)]
section
variable (P : Program) (F : String → Nat)
def K_l06_chain : Prop := ∀ (x : Dr) (l k : List Int), x.ok → x.n.length ≤ maxL → x.e.length ≤ maxL → l.length ≤ 1000 → (∀ v ∈ l, Byte v) → k.length ≤ 1000 → (∀ v ∈ k, Byte v) →
  FC P (F "l06.chain") [drD x, .lst 1 (u8s l), .lst 1 (u8s k)] (.tup [gA (madeG x), awA (imG (madeG x) l) (imMo (madeG x) l), awA (imG (imG (madeG x) l) k) (imMo (imG (madeG x) l) k)]) []
end
section
variable {P : Program} {F : String → Nat} {α : Type}
theorem w_l06_chain (hm : K_r05_Made P F) (hi : K_r06_Image P F) (x : Dr) (l k : List Int) (hx : x.ok) (x1 : x.n.length ≤ maxL) (x2 : x.e.length ≤ maxL) (l1 : l.length ≤ 1000) (l2 : ∀ v ∈ l, Byte v) (k1 : k.length ≤ 1000) (k2 : ∀ v ∈ k, Byte v) :
    W P (c_l06_chain F) (Done [.c 6 true 2, .c 7 true 4, .c 8 true 4] [] (.tup [gA (madeG x), awA (imG (madeG x) l) (imMo (madeG x) l), awA (imG (imG (madeG x) l) k) (imMo (imG (madeG x) l) k)]) []) (init [drD x, .lst 1 (u8s l), .lst 1 (u8s k)]) := by
  refine W_of ?_
  have r1 := hm x hx x1 x2
  have va := madeG_valid hx
  have r2 := hi (madeG x) l va l1 l2
  have vb := (img_okM va l2).vb
  have r3 := hi (imG (madeG x) l) k vb k1 k2
  generalize imMo (imG (madeG x) l) k = n at *
  generalize imG (imG (madeG x) l) k = c at *
  generalize imMo (madeG x) l = m at *
  generalize imG (madeG x) l = b at *
  generalize madeG x = a at *
  obtain ⟨an, ae⟩ := a
  obtain ⟨bn, be⟩ := b
  obtain ⟨cn, ce⟩ := c
  obtain ⟨mn, me⟩ := m
  obtain ⟨nn, ne⟩ := n
  simp only [gD, gA, mD, mA, awA, drD] at *
  simp (config := { maxSteps := 1000000 }) (disch := first | omega | (simp only [go_sem]; omega)) only [go_sem, ↓reduceIte]
  refine call_by r1 ?_
  simp (config := { maxSteps := 1000000 }) (disch := first | omega | (simp only [go_sem]; omega)) only [go_sem, ↓reduceIte]
  refine call_by r2 ?_
  simp (config := { maxSteps := 1000000 }) (disch := first | omega | (simp only [go_sem]; omega)) only [go_sem, ↓reduceIte]
  refine call_by r3 ?_
  simp (config := { maxSteps := 1000000 }) (disch := first | omega | (simp only [go_sem]; omega)) only [go_sem, ↓reduceIte]
  try rfl
theorem madeG_len8 (x : Dr) : (madeG x).n.length ≤ 8 ∧ (madeG x).e.length ≤ 10 := ⟨madeN_len x, madeE_len x⟩
end
end Go.Am
