/- Parts: deletion of numbers, intersections, images and preimages: the walks. -/
/- Chapter 07: helpers of the laws; the laws Valid, Close, Join, Image, Adjoint, Extract, Boundary. -/
import Derived.Test.YtbpjoianghehmaaSpPa
import Derived.Test.YtbpjoianghehmaaSpPb
import Derived.Test.YtbpjoianghehmaaSpPc
import Derived.Test.YtbpjoianghehmaaSpXa
namespace Go.Am
open Go
set_option linter.unusedVariables false
set_option linter.unusedSimpArgs false
attribute [local irreducible] W
/- r07.Image -/
def c_r07_Image_r0 (F : String → Nat) : List LI := [⟨some 3, .bx (.t 0), none⟩,
  ⟨some 4, .bx (.t 1), none⟩,
  ⟨some 5, .bx (.t 2), none⟩,
  ⟨some 6, .alloc [.nl 1, .nl 1], none⟩,
  ⟨some 7, .mov (.k (.int .i64 (0))), none⟩]
def c_r07_Image_r1 (F : String → Nat) : List LI := [⟨some 9, .load true 2 (.t 3), none⟩,
  ⟨some 10, .load true 2 (.t 4), none⟩,
  ⟨some 11, .load true 2 (.t 5), none⟩,
  ⟨some 12, .call (F "r06.Valid") [.t 9, .t 10, .t 11] [], none⟩,
  ⟨some 8, .mov (.t 12), none⟩]
def c_r07_Image_r2 (F : String → Nat) : List LI := [⟨some 13, .mov (.t 8), none⟩,
  ⟨some 14, .bin .neq (.t 13) (.k (.int .i64 (0))), none⟩]
def c_r07_Image_r3 (F : String → Nat) : List LI := [⟨some 15, .build [.nl 1, .nl 1] [], none⟩,
  ⟨some 16, .mov (.t 8), none⟩,
  ⟨none, .store 2 (.t 6) (.t 15), none⟩,
  ⟨some 7, .mov (.t 16), none⟩]
def c_r07_Image_r4 (F : String → Nat) : List LI := [⟨some 17, .fad 0 (.t 4), none⟩,
  ⟨some 18, .load false 1 (.t 17), none⟩,
  ⟨some 19, .len (.t 18), none⟩,
  ⟨some 20, .fad 0 (.t 5), none⟩,
  ⟨some 21, .load false 1 (.t 20), none⟩,
  ⟨some 22, .fad 0 (.t 5), none⟩,
  ⟨some 23, .load false 1 (.t 22), none⟩,
  ⟨some 24, .call (F "r07.merged") [.t 19, .t 21, .t 23, .k (.bool false)] [], none⟩,
  ⟨some 25, .fad 1 (.t 4), none⟩,
  ⟨some 26, .load false 1 (.t 25), none⟩,
  ⟨some 27, .len (.t 26), none⟩,
  ⟨some 28, .fad 1 (.t 5), none⟩,
  ⟨some 29, .load false 1 (.t 28), none⟩,
  ⟨some 30, .fad 1 (.t 5), none⟩,
  ⟨some 31, .load false 1 (.t 30), none⟩,
  ⟨some 32, .call (F "r07.merged") [.t 27, .t 29, .t 31, .k (.bool false)] [], none⟩,
  ⟨some 33, .build [.nl 1, .nl 1] [(0, 1, .t 24), (1, 1, .t 32)], none⟩,
  ⟨none, .store 2 (.t 6) (.t 33), none⟩,
  ⟨some 7, .mov (.k (.int .i64 (0))), none⟩]
def c_r07_Image (F : String → Nat) : LC := (.seq (.reg (c_r07_Image_r0 F) [3, 4, 5, 6]) (.seq (.seq (.reg (c_r07_Image_r1 F) [4, 5, 6, 8]) (.seq (.reg (c_r07_Image_r2 F) [4, 5, 6, 8, 14]) (.cond (.t 14) (.seq (.reg (c_r07_Image_r3 F) [6, 7]) .ret) .skip))) (.seq (.dreg [(7, none, [], true), (9, (some 256), [7], false), (12, (some 2048), [7], false), (14, (some 8192), [7], false)] (c_r07_Image_r4 F) [6, 7]) .ret)))
def h_r07_Image : Hints := ⟨[], fun _ => [], tab [(0, [3, 4, 5, 6]), (1, [4, 5, 6, 8]), (2, [4, 5, 6, 8, 14]), (3, [6, 7]), (4, [6, 7])], tab []⟩

/- r07.Preimage -/
def c_r07_Preimage_r0 (F : String → Nat) : List LI := [⟨some 4, .bx (.t 0), none⟩,
  ⟨some 5, .bx (.t 1), none⟩,
  ⟨some 6, .bx (.t 2), none⟩,
  ⟨some 7, .bx (.t 3), none⟩,
  ⟨some 8, .alloc [.nl 1, .nl 1], none⟩,
  ⟨some 9, .mov (.k (.int .i64 (0))), none⟩]
def c_r07_Preimage_r1 (F : String → Nat) : List LI := [⟨some 12, .load true 2 (.t 4), none⟩,
  ⟨some 13, .load true 2 (.t 5), none⟩,
  ⟨some 14, .load true 2 (.t 6), none⟩,
  ⟨some 15, .call (F "r06.Valid") [.t 12, .t 13, .t 14] [], none⟩,
  ⟨some 10, .mov (.t 15), none⟩]
def c_r07_Preimage_r2 (F : String → Nat) : List LI := [⟨some 16, .mov (.t 10), none⟩,
  ⟨some 17, .bin .neq (.t 16) (.k (.int .i64 (0))), none⟩]
def c_r07_Preimage_r3 (F : String → Nat) : List LI := [⟨some 18, .build [.nl 1, .nl 1] [], none⟩,
  ⟨some 19, .mov (.t 10), none⟩,
  ⟨none, .store 2 (.t 8) (.t 18), none⟩,
  ⟨some 9, .mov (.t 19), none⟩]
def c_r07_Preimage_r4 (F : String → Nat) : List LI := [⟨some 20, .load true 2 (.t 5), none⟩,
  ⟨some 21, .load true 2 (.t 7), none⟩,
  ⟨some 22, .call (F "r07.Right") [.t 20, .t 21] [], none⟩,
  ⟨some 11, .mov (.t 22), none⟩]
def c_r07_Preimage_r5 (F : String → Nat) : List LI := [⟨some 23, .mov (.t 11), none⟩,
  ⟨some 24, .bin .neq (.t 23) (.k (.int .i64 (0))), none⟩]
def c_r07_Preimage_r6 (F : String → Nat) : List LI := [⟨some 25, .build [.nl 1, .nl 1] [], none⟩,
  ⟨some 26, .mov (.t 11), none⟩,
  ⟨none, .store 2 (.t 8) (.t 25), none⟩,
  ⟨some 9, .mov (.t 26), none⟩]
def c_r07_Preimage_r7 (F : String → Nat) : List LI := [⟨some 27, .fad 0 (.t 6), none⟩,
  ⟨some 28, .load false 1 (.t 27), none⟩,
  ⟨some 29, .fad 0 (.t 7), none⟩,
  ⟨some 30, .load false 1 (.t 29), none⟩,
  ⟨some 31, .call (F "r07.into") [.t 28, .t 30] [], none⟩,
  ⟨some 32, .fad 1 (.t 6), none⟩,
  ⟨some 33, .load false 1 (.t 32), none⟩,
  ⟨some 34, .fad 1 (.t 7), none⟩,
  ⟨some 35, .load false 1 (.t 34), none⟩,
  ⟨some 36, .call (F "r07.into") [.t 33, .t 35] [], none⟩,
  ⟨some 37, .build [.nl 1, .nl 1] [(0, 1, .t 31), (1, 1, .t 36)], none⟩,
  ⟨none, .store 2 (.t 8) (.t 37), none⟩,
  ⟨some 9, .mov (.k (.int .i64 (0))), none⟩]
def c_r07_Preimage (F : String → Nat) : LC := (.seq (.reg (c_r07_Preimage_r0 F) [4, 5, 6, 7, 8]) (.seq (.seq (.reg (c_r07_Preimage_r1 F) [5, 6, 7, 8, 10]) (.seq (.reg (c_r07_Preimage_r2 F) [5, 6, 7, 8, 10, 17]) (.cond (.t 17) (.seq (.reg (c_r07_Preimage_r3 F) [8, 9]) .ret) .skip))) (.seq (.seq (.reg (c_r07_Preimage_r4 F) [6, 7, 8, 11]) (.seq (.reg (c_r07_Preimage_r5 F) [6, 7, 8, 11, 24]) (.cond (.t 24) (.seq (.reg (c_r07_Preimage_r6 F) [8, 9]) .ret) .skip))) (.seq (.dreg [(4, none, [], true), (6, (some 32), [4], false), (8, (some 128), [4], false)] (c_r07_Preimage_r7 F) [8, 9]) .ret))))
def h_r07_Preimage : Hints := ⟨[], fun _ => [], tab [(0, [4, 5, 6, 7, 8]), (1, [5, 6, 7, 8, 10]), (2, [5, 6, 7, 8, 10, 17]), (3, [8, 9]), (4, [6, 7, 8, 11]), (5, [6, 7, 8, 11, 24]), (6, [8, 9]), (7, [8, 9])], tab []⟩

attribute [go_sem] c_r07_Image_r0 c_r07_Image_r1 c_r07_Image_r2 c_r07_Image_r3 c_r07_Image_r4 c_r07_Image c_r07_Preimage_r0 c_r07_Preimage_r1 c_r07_Preimage_r2 c_r07_Preimage_r3 c_r07_Preimage_r4 c_r07_Preimage_r5 c_r07_Preimage_r6 c_r07_Preimage_r7 c_r07_Preimage
section
variable (P : Program) (F : String → Nat)
def K_r07_Image : Prop := ∀ (a b : G) (m : Mo), FC P (F "r07.Image") [gD a, gD b, mD m] (.tup [mA (imR a b m).1, .int .i64 (imR a b m).2]) []
def K_r07_Preimage : Prop := ∀ (a b : G) (m p : Mo), p.sm → FC P (F "r07.Preimage") [gD a, gD b, mD m, mD p] (.tup [mA (preR a b m p).1, .int .i64 (preR a b m p).2]) []
end
section
variable {P : Program} {F : String → Nat} {α : Type}
theorem imR_len (a b : G) (m : Mo) : (imR a b m).1.n.length ≤ 1000 ∧ (imR a b m).1.e.length ≤ 1000 := by
  unfold imR
  split
  · simp [m0]
  · rename_i h
    have := validM_len (Decidable.not_not.1 h)
    have h1 := imgs_len m.n
    have h2 := imgs_len m.e
    simp only
    omega
theorem preR_len (a b : G) (m p : Mo) : (preR a b m p).1.n.length ≤ 1000 ∧ (preR a b m p).1.e.length ≤ 1000 := by
  unfold preR
  split
  · simp [m0]
  · rename_i h
    have hv : validM a b m = 0 := by
      refine Decidable.byContradiction fun hn => h ?_
      unfold preE
      rw [if_pos hn]
      exact hn
    have := validM_len hv
    have h1 : (intoL m.n p.n).length ≤ m.n.length := sel_len _ _
    have h2 : (intoL m.e p.e).length ≤ m.e.length := sel_len _ _
    simp only
    omega
theorem w_subgraph_Image (hv : K_morphism_Valid P F) (hc : K_slices_Clone_I P F) (hs : K_subgraph_sorted P F) (a b : G) (m : Mo) : W P (c_subgraph_Image F) (Done [.c 6 true 2, .t 7] [] (.tup [mA (imR a b m).1, .int .i64 (imR a b m).2]) []) (init [gD a, gD b, mD m]) := by
  refine W_of ?_
  have r1 := hv a b m
  have hR : imR a b m = if validM a b m ≠ 0 then (m0, validM a b m) else (⟨imgs m.n, imgs m.e⟩, 0) := rfl
  have hl : validM a b m = 0 → _ := fun h => validM_len h
  generalize validM a b m = v at *
  rw [hR]
  clear hR
  obtain ⟨mn, me⟩ := m
  simp only [gD, mD, mA, m0] at *
  simp (config := { maxSteps := 1000000 }) (disch := first | omega | (simp only [go_sem]; omega)) only [go_sem, ↓reduceIte]
  refine call_by r1 ?_
  simp (config := { maxSteps := 1000000 }) (disch := first | omega | (simp only [go_sem]; omega)) only [go_sem, ↓reduceIte]
  refine bran_ndec (fun c => ?_) (fun c => ?_)
  · simp (config := { maxSteps := 1000000 }) (disch := first | omega | (simp only [go_sem]; omega)) only [go_sem, ↓reduceIte]
    simp [c, mA, m0, ints]
  · have l := hl c
    have r2 := hc mn (by omega)
    have r3 := hs mn (by unfold maxL; omega)
    have r4 := hc me (by omega)
    have r5 := hs me (by unfold maxL; omega)
    rw [if_neg (by simp [c])]
    generalize imgs mn = y1 at *
    generalize imgs me = y2 at *
    simp (config := { maxSteps := 1000000 }) (disch := first | omega | (simp only [go_sem]; omega)) only [go_sem, ↓reduceIte]
    refine call_by r2 ?_
    simp (config := { maxSteps := 1000000 }) (disch := first | omega | (simp only [go_sem]; omega)) only [go_sem, ↓reduceIte]
    refine call_by r3 ?_
    simp (config := { maxSteps := 1000000 }) (disch := first | omega | (simp only [go_sem]; omega)) only [go_sem, ↓reduceIte]
    refine call_by r4 ?_
    simp (config := { maxSteps := 1000000 }) (disch := first | omega | (simp only [go_sem]; omega)) only [go_sem, ↓reduceIte]
    refine call_by r5 ?_
    simp (config := { maxSteps := 1000000 }) (disch := first | omega | (simp only [go_sem]; omega)) only [go_sem, ↓reduceIte]
    try rfl
theorem w_r07_Image (hv : K_r06_Valid P F) (hm : K_r07_merged P F) (a b : G) (m : Mo) : W P (c_r07_Image F) (Done [.c 6 true 2, .t 7] [] (.tup [mA (imR a b m).1, .int .i64 (imR a b m).2]) []) (init [gD a, gD b, mD m]) := by
  refine W_of ?_
  have r1 := hv a b m
  have hR : imR a b m = if validM a b m ≠ 0 then (m0, validM a b m) else (⟨imgs m.n, imgs m.e⟩, 0) := rfl
  have hk : validM a b m = 0 → MOk a b m := mok.1
  have hl : validM a b m = 0 → _ := fun h => validM_len h
  generalize validM a b m = v at *
  rw [hR]
  clear hR
  by_cases c : v = 0
  case neg =>
    obtain ⟨mn, me⟩ := m
    simp only [gD, mD, mA, m0] at *
    simp (config := { maxSteps := 1000000 }) (disch := first | omega | (simp only [go_sem]; omega)) only [go_sem, ↓reduceIte]
    refine call_by r1 ?_
    simp (config := { maxSteps := 1000000 }) (disch := first | omega | (simp only [go_sem]; omega)) only [go_sem, ↓reduceIte]
    refine bran_ndec (fun c1 => ?_) (fun c1 => absurd c1 c)
    simp (config := { maxSteps := 1000000 }) (disch := first | omega | (simp only [go_sem]; omega)) only [go_sem, ↓reduceIte]
    simp [c, mA, m0, ints]
  have k := hk c
  have l := hl c
  have e1 : imgs m.n = mrgL b.n.length m.n m.n false := imgs_one k.nb
  have e2 : imgs m.e = mrgL b.e.length m.e m.e false := imgs_one k.eb
  rw [e1, e2, if_neg (by simp [c])]
  have r2 := hm b.n.length m.n m.n false (by omega) (by unfold maxL; omega) (by unfold maxL; omega)
  have r3 := hm b.e.length m.e m.e false (by omega) (by unfold maxL; omega) (by unfold maxL; omega)
  clear hk hl k l e1 e2 hm hv
  generalize mrgL b.n.length m.n m.n false = y1 at *
  generalize mrgL b.e.length m.e m.e false = y2 at *
  obtain ⟨bn, be⟩ := b
  obtain ⟨mn, me⟩ := m
  simp only [gD, mD, mA, m0] at *
  simp (config := { maxSteps := 1000000 }) (disch := first | omega | (simp only [go_sem]; omega)) only [go_sem, ↓reduceIte]
  refine call_by r1 ?_
  simp (config := { maxSteps := 1000000 }) (disch := first | omega | (simp only [go_sem]; omega)) only [go_sem, ↓reduceIte]
  refine bran_ndec (fun c1 => absurd c c1) (fun c1 => ?_)
  simp (config := { maxSteps := 1000000 }) (disch := first | omega | (simp only [go_sem]; omega)) only [go_sem, ↓reduceIte]
  refine call_by r2 ?_
  simp (config := { maxSteps := 1000000 }) (disch := first | omega | (simp only [go_sem]; omega)) only [go_sem, ↓reduceIte]
  refine call_by r3 ?_
  simp (config := { maxSteps := 1000000 }) (disch := first | omega | (simp only [go_sem]; omega)) only [go_sem, ↓reduceIte]
  try rfl
theorem w_r07_Preimage (hv : K_r06_Valid P F) (hp : K_r07_Right P F) (hb : K_r07_into P F) (a b : G) (m p : Mo) (h1 : p.sm) : W P (c_r07_Preimage F) (Done [.c 8 true 2, .t 9] [] (.tup [mA (preR a b m p).1, .int .i64 (preR a b m p).2]) []) (init [gD a, gD b, mD m, mD p]) := by
  refine W_of ?_
  have r1 := hv a b m
  have hR : preR a b m p = if preE a b m p ≠ 0 then (m0, preE a b m p) else (⟨intoL m.n p.n, intoL m.e p.e⟩, 0) := rfl
  have hE : preE a b m p = if validM a b m ≠ 0 then validM a b m else rightP b p := rfl
  by_cases c : validM a b m = 0
  case neg =>
    rw [if_pos c] at hE
    rw [hR, hE]
    clear hR hE
    generalize validM a b m = v at *
    simp only [gD, mD] at *
    simp (config := { maxSteps := 1000000 }) (disch := first | omega | (simp only [go_sem]; omega)) only [go_sem, ↓reduceIte]
    refine call_by r1 ?_
    simp (config := { maxSteps := 1000000 }) (disch := first | omega | (simp only [go_sem]; omega)) only [go_sem, ↓reduceIte]
    refine bran_ndec (fun c1 => ?_) (fun c1 => absurd c1 c)
    simp (config := { maxSteps := 1000000 }) (disch := first | omega | (simp only [go_sem]; omega)) only [go_sem, ↓reduceIte]
    simp [c, mA, m0, ints]
  rw [if_neg (by simp [c])] at hE
  rw [hR, hE]
  clear hR hE
  have hm := mok.1 c
  have r2 := hp b p hm.vb h1.1 h1.2
  have va := validM_len c
  have r3 := hb m.n p.n (by omega) h1.1
  have r4 := hb m.e p.e (by omega) h1.2
  clear va hm
  generalize validM a b m = v0 at *
  generalize rightP b p = v at *
  generalize intoL m.n p.n = y1 at *
  generalize intoL m.e p.e = y2 at *
  simp only [gD, mD] at *
  simp (config := { maxSteps := 1000000 }) (disch := first | omega | (simp only [go_sem]; omega)) only [go_sem, ↓reduceIte]
  refine call_by r1 ?_
  simp (config := { maxSteps := 1000000 }) (disch := first | omega | (simp only [go_sem]; omega)) only [go_sem, ↓reduceIte]
  refine bran_ndec (fun c1 => absurd c c1) (fun _ => ?_)
  simp (config := { maxSteps := 1000000 }) (disch := first | omega | (simp only [go_sem]; omega)) only [go_sem, ↓reduceIte]
  refine call_by r2 ?_
  simp (config := { maxSteps := 1000000 }) (disch := first | omega | (simp only [go_sem]; omega)) only [go_sem, ↓reduceIte]
  refine bran_ndec (fun c1 => ?_) (fun c1 => ?_)
  · simp (config := { maxSteps := 1000000 }) (disch := first | omega | (simp only [go_sem]; omega)) only [go_sem, ↓reduceIte]
    simp [c1, mA, m0, ints]
  · simp (config := { maxSteps := 1000000 }) (disch := first | omega | (simp only [go_sem]; omega)) only [go_sem, ↓reduceIte]
    refine call_by r3 ?_
    simp (config := { maxSteps := 1000000 }) (disch := first | omega | (simp only [go_sem]; omega)) only [go_sem, ↓reduceIte]
    refine call_by r4 ?_
    simp (config := { maxSteps := 1000000 }) (disch := first | omega | (simp only [go_sem]; omega)) only [go_sem, ↓reduceIte]
    simp [c1, mA]
end
end Go.Am
namespace Go.Am
open Go
set_option linter.unusedVariables false
set_option linter.unusedSimpArgs false
attribute [local irreducible] W
/- l07.own -/
def c_l07_own_r0 (F : String → Nat) : List LI := [⟨some 1, .bx (.t 0), none⟩,
  ⟨some 2, .alloc [.nl 1, .nl 1], none⟩]
def c_l07_own_r1 (F : String → Nat) : List LI := [⟨some 3, .fad 0 (.t 1), none⟩,
  ⟨some 4, .load false 1 (.t 3), none⟩,
  ⟨some 5, .call (F "slices.Clone.I") [.t 4] [], none⟩,
  ⟨some 6, .fad 1 (.t 1), none⟩,
  ⟨some 7, .load false 1 (.t 6), none⟩,
  ⟨some 8, .call (F "slices.Clone.I") [.t 7] [], none⟩,
  ⟨some 9, .build [.nl 1, .nl 1] [(0, 1, .t 5), (1, 1, .t 8)], none⟩,
  ⟨none, .store 2 (.t 2) (.t 9), none⟩]
def c_l07_own (F : String → Nat) : LC := (.seq (.reg (c_l07_own_r0 F) [1, 2]) (.seq (.dreg [(2, none, [], true), (4, (some 8), [2], false)] (c_l07_own_r1 F) [2]) .ret))
def h_l07_own : Hints := ⟨[], fun _ => [], tab [(0, [1, 2]), (1, [2])], tab []⟩

/- l07.Arrow.small -/
def c_l07_Arrow_small_r0 (F : String → Nat) : List LI := [⟨some 1, .bx (.t 0), none⟩,
  ⟨some 2, .mov (.k (.bool false)), none⟩]
def c_l07_Arrow_small_r1 (F : String → Nat) : List LI := [⟨some 3, .fad 0 (.t 1), none⟩,
  ⟨some 4, .load true 2 (.t 3), none⟩,
  ⟨some 5, .call (F "r05.Few") [.t 4] [], none⟩,
  ⟨some 6, .mov (.t 5), none⟩,
  ⟨some 7, .fad 2 (.t 1), some (6, true)⟩,
  ⟨some 8, .load true 2 (.t 7), some (6, true)⟩,
  ⟨some 9, .call (F "r05.Few") [.t 8] [], some (6, true)⟩,
  ⟨some 10, .pick (.t 6) (.t 9) (.k (.bool false)), none⟩,
  ⟨some 11, .mov (.t 10), none⟩,
  ⟨some 12, .fad 4 (.t 1), some (11, true)⟩,
  ⟨some 13, .load true 2 (.t 12), some (11, true)⟩,
  ⟨some 14, .call (F "r06.Few") [.t 13, .k (.int .i64 (150))] [], some (11, true)⟩,
  ⟨some 15, .pick (.t 11) (.t 14) (.k (.bool false)), none⟩,
  ⟨some 2, .mov (.t 15), none⟩]
def c_l07_Arrow_small (F : String → Nat) : LC := (.seq (.reg (c_l07_Arrow_small_r0 F) [1]) (.seq (.reg (c_l07_Arrow_small_r1 F) [2]) .ret))
def h_l07_Arrow_small : Hints := ⟨[], fun _ => [], tab [(0, [1]), (1, [2])], tab []⟩

/- l07.SubgraphImage -/
def c_l07_SubgraphImage_r0 (F : String → Nat) : List LI := [⟨some 2, .bx (.t 0), none⟩,
  ⟨some 3, .bx (.t 1), none⟩,
  ⟨some 4, .mov (.k (.bool false)), none⟩]
def c_l07_SubgraphImage_r1 (F : String → Nat) : List LI := [⟨some 13, .call (F "l07.awake") [] [], none⟩,
  ⟨some 14, .not (.t 13), none⟩,
  ⟨some 15, .mov (.t 14), none⟩,
  ⟨some 16, .load true 6 (.t 2), some (15, false)⟩,
  ⟨some 17, .call (F "l07.Arrow.small") [.t 16] [], some (15, false)⟩,
  ⟨some 18, .not (.t 17), some (15, false)⟩,
  ⟨some 19, .pick (.t 15) (.k (.bool true)) (.t 18), none⟩,
  ⟨some 20, .mov (.t 19), none⟩,
  ⟨some 21, .load true 2 (.t 3), some (20, false)⟩,
  ⟨some 22, .call (F "r07.Few") [.t 21, .k (.int .i64 (150))] [], some (20, false)⟩,
  ⟨some 23, .not (.t 22), some (20, false)⟩,
  ⟨some 24, .pick (.t 20) (.k (.bool true)) (.t 23), none⟩]
def c_l07_SubgraphImage_r2 (F : String → Nat) : List LI := [⟨some 25, .call (F "l07.awake") [] [], none⟩,
  ⟨some 4, .mov (.t 25), none⟩]
def c_l07_SubgraphImage_r3 (F : String → Nat) : List LI := [⟨some 27, .fad 0 (.t 2), none⟩,
  ⟨some 28, .load true 2 (.t 27), none⟩,
  ⟨some 29, .fad 2 (.t 2), none⟩,
  ⟨some 30, .load true 2 (.t 29), none⟩,
  ⟨some 31, .fad 4 (.t 2), none⟩,
  ⟨some 32, .load true 2 (.t 31), none⟩,
  ⟨some 33, .call (F "subgraph.Image") [.t 28, .t 30, .t 32] [], none⟩,
  ⟨some 26, .mov (.t 33), none⟩,
  ⟨some 34, .ext (.t 26) 0, none⟩,
  ⟨some 35, .ext (.t 26) 1, none⟩,
  ⟨some 5, .alloc [.nl 1, .nl 1], none⟩,
  ⟨none, .store 2 (.t 5) (.t 34), none⟩,
  ⟨some 6, .mov (.t 35), none⟩]
def c_l07_SubgraphImage_r4 (F : String → Nat) : List LI := [⟨some 37, .fad 0 (.t 2), none⟩,
  ⟨some 38, .load true 2 (.t 37), none⟩,
  ⟨some 39, .fad 2 (.t 2), none⟩,
  ⟨some 40, .load true 2 (.t 39), none⟩,
  ⟨some 41, .fad 4 (.t 2), none⟩,
  ⟨some 42, .load true 2 (.t 41), none⟩,
  ⟨some 43, .call (F "r07.Image") [.t 38, .t 40, .t 42] [], none⟩,
  ⟨some 36, .mov (.t 43), none⟩,
  ⟨some 44, .ext (.t 36) 0, none⟩,
  ⟨some 45, .ext (.t 36) 1, none⟩,
  ⟨some 7, .alloc [.nl 1, .nl 1], none⟩,
  ⟨none, .store 2 (.t 7) (.t 44), none⟩,
  ⟨some 8, .mov (.t 45), none⟩]
def c_l07_SubgraphImage_r5 (F : String → Nat) : List LI := [⟨some 47, .fad 0 (.t 2), none⟩,
  ⟨some 48, .load true 2 (.t 47), none⟩,
  ⟨some 49, .fad 2 (.t 2), none⟩,
  ⟨some 50, .load true 2 (.t 49), none⟩,
  ⟨some 51, .fad 4 (.t 2), none⟩,
  ⟨some 52, .load true 2 (.t 51), none⟩,
  ⟨some 53, .load true 2 (.t 3), none⟩,
  ⟨some 54, .call (F "l07.own") [.t 53] [], none⟩,
  ⟨some 55, .call (F "subgraph.Preimage") [.t 48, .t 50, .t 52, .t 54] [], none⟩,
  ⟨some 46, .mov (.t 55), none⟩,
  ⟨some 56, .ext (.t 46) 0, none⟩,
  ⟨some 57, .ext (.t 46) 1, none⟩,
  ⟨some 9, .alloc [.nl 1, .nl 1], none⟩,
  ⟨none, .store 2 (.t 9) (.t 56), none⟩,
  ⟨some 10, .mov (.t 57), none⟩]
def c_l07_SubgraphImage_r6 (F : String → Nat) : List LI := [⟨some 59, .fad 0 (.t 2), none⟩,
  ⟨some 60, .load true 2 (.t 59), none⟩,
  ⟨some 61, .fad 2 (.t 2), none⟩,
  ⟨some 62, .load true 2 (.t 61), none⟩,
  ⟨some 63, .fad 4 (.t 2), none⟩,
  ⟨some 64, .load true 2 (.t 63), none⟩,
  ⟨some 65, .load true 2 (.t 3), none⟩,
  ⟨some 66, .call (F "r07.Preimage") [.t 60, .t 62, .t 64, .t 65] [], none⟩,
  ⟨some 58, .mov (.t 66), none⟩,
  ⟨some 67, .ext (.t 58) 0, none⟩,
  ⟨some 68, .ext (.t 58) 1, none⟩,
  ⟨some 11, .alloc [.nl 1, .nl 1], none⟩,
  ⟨none, .store 2 (.t 11) (.t 67), none⟩,
  ⟨some 12, .mov (.t 68), none⟩]
def c_l07_SubgraphImage_r7 (F : String → Nat) : List LI := [⟨some 69, .load true 2 (.t 5), none⟩,
  ⟨some 70, .load true 2 (.t 7), none⟩,
  ⟨some 71, .call (F "r07.Same") [.t 69, .t 70] [], none⟩,
  ⟨some 72, .mov (.t 71), none⟩,
  ⟨some 73, .mov (.t 6), some (72, true)⟩,
  ⟨some 74, .mov (.t 8), some (72, true)⟩,
  ⟨some 75, .bin .eql (.t 73) (.t 74), some (72, true)⟩,
  ⟨some 76, .pick (.t 72) (.t 75) (.k (.bool false)), none⟩,
  ⟨some 77, .mov (.t 76), none⟩,
  ⟨some 78, .load true 2 (.t 9), some (77, true)⟩,
  ⟨some 79, .load true 2 (.t 11), some (77, true)⟩,
  ⟨some 80, .call (F "r07.Same") [.t 78, .t 79] [], some (77, true)⟩,
  ⟨some 81, .pick (.t 77) (.t 80) (.k (.bool false)), none⟩,
  ⟨some 82, .mov (.t 81), none⟩,
  ⟨some 83, .mov (.t 10), some (82, true)⟩,
  ⟨some 84, .mov (.t 12), some (82, true)⟩,
  ⟨some 85, .bin .eql (.t 83) (.t 84), some (82, true)⟩,
  ⟨some 86, .pick (.t 82) (.t 85) (.k (.bool false)), none⟩,
  ⟨some 4, .mov (.t 86), none⟩]
def c_l07_SubgraphImage (F : String → Nat) : LC := (.seq (.reg (c_l07_SubgraphImage_r0 F) [2, 3]) (.seq (.seq (.reg (c_l07_SubgraphImage_r1 F) [2, 3, 24]) (.cond (.t 24) (.seq (.reg (c_l07_SubgraphImage_r2 F) [4]) .ret) .skip)) (.seq (.reg (c_l07_SubgraphImage_r3 F) [2, 3, 5, 6]) (.seq (.reg (c_l07_SubgraphImage_r4 F) [2, 3, 5, 6, 7, 8]) (.seq (.dreg [(1, none, [], true), (3, none, [], true), (5, none, [], true), (7, none, [1, 3, 5], false)] (c_l07_SubgraphImage_r5 F) [2, 3, 5, 6, 7, 8, 9, 10]) (.seq (.reg (c_l07_SubgraphImage_r6 F) [5, 6, 7, 8, 9, 10, 11, 12]) (.seq (.reg (c_l07_SubgraphImage_r7 F) [4]) .ret)))))))
def h_l07_SubgraphImage : Hints := ⟨[], fun _ => [], tab [(0, [2, 3]), (1, [2, 3, 24]), (2, [4]), (3, [2, 3, 5, 6]), (4, [2, 3, 5, 6, 7, 8]), (5, [2, 3, 5, 6, 7, 8, 9, 10]), (6, [5, 6, 7, 8, 9, 10, 11, 12]), (7, [4])], tab []⟩

attribute [go_sem] c_l07_own_r0 c_l07_own_r1 c_l07_own c_l07_Arrow_small_r0 c_l07_Arrow_small_r1 c_l07_Arrow_small c_l07_SubgraphImage_r0 c_l07_SubgraphImage_r1 c_l07_SubgraphImage_r2 c_l07_SubgraphImage_r3 c_l07_SubgraphImage_r4 c_l07_SubgraphImage_r5 c_l07_SubgraphImage_r6 c_l07_SubgraphImage_r7 c_l07_SubgraphImage
/-- A morphism with its graphs. -/
structure Ar where
  a : G
  b : G
  m : Mo
def arD (x : Ar) : D := .agg [.lst 1 (ints x.a.n), .lst 3 (eds x.a.e), .lst 1 (ints x.b.n), .lst 3 (eds x.b.e), .lst 1 (ints x.m.n), .lst 1 (ints x.m.e)]
def fewAr (x : Ar) : Bool := few x.a && (few x.b && fewM x.m 150)
section
variable (P : Program) (F : String → Nat)
def K_l07_own : Prop := ∀ m : Mo, m.n.length ≤ 1000000 → m.e.length ≤ 1000000 → FC P (F "l07.own") [mD m] (mA m) []
def K_l07_Arrow_small : Prop := ∀ x : Ar, x.m.sm → FC P (F "l07.Arrow.small") [arD x] (.bool (fewAr x)) []
def K_l07_SubgraphImage : Prop := ∀ (x : Ar) (p : Mo), x.m.sm → p.sm → FC P (F "l07.SubgraphImage") [arD x, mD p] (.bool true) []
end
section
variable {P : Program} {F : String → Nat} {α : Type}
theorem w_l07_own (hc : K_slices_Clone_I P F) (m : Mo) (h1 : m.n.length ≤ 1000000) (h2 : m.e.length ≤ 1000000) : W P (c_l07_own F) (Done [.c 2 true 2] [] (mA m) []) (init [mD m]) := by
  refine W_of ?_
  have r1 := hc m.n (by omega)
  have r2 := hc m.e (by omega)
  simp only [mD, mA]
  simp (config := { maxSteps := 1000000 }) (disch := first | omega | (simp only [go_sem]; omega)) only [go_sem, ↓reduceIte]
  refine call_by r1 ?_
  simp (config := { maxSteps := 1000000 }) (disch := first | omega | (simp only [go_sem]; omega)) only [go_sem, ↓reduceIte]
  refine call_by r2 ?_
  simp (config := { maxSteps := 1000000 }) (disch := first | omega | (simp only [go_sem]; omega)) only [go_sem, ↓reduceIte]
  try rfl
theorem w_l07_Arrow_small (hg : K_r05_Few P F) (hm : K_r06_Few P F) (x : Ar) (h : x.m.sm) : W P (c_l07_Arrow_small F) (Done [.t 2] [] (.bool (fewAr x)) []) (init [arD x]) := by
  refine W_of ?_
  have r1 := hg x.a
  have r2 := hg x.b
  have r3 := hm x.m 150 h.1 h.2
  have e : fewAr x = (few x.a && (few x.b && fewM x.m 150)) := rfl
  rw [e]
  generalize few x.a = b1 at *
  generalize few x.b = b2 at *
  generalize fewM x.m 150 = b3 at *
  simp only [gD, mD, arD] at *
  cases b1
  · simp (config := { maxSteps := 1000000 }) (disch := first | omega | (simp only [go_sem]; omega)) only [go_sem, ↓reduceIte]
    refine call_by r1 ?_
    simp (config := { maxSteps := 1000000 }) (disch := first | omega | (simp only [go_sem]; omega)) only [go_sem, ↓reduceIte]
    try simp
  cases b2
  · simp (config := { maxSteps := 1000000 }) (disch := first | omega | (simp only [go_sem]; omega)) only [go_sem, ↓reduceIte]
    refine call_by r1 ?_
    simp (config := { maxSteps := 1000000 }) (disch := first | omega | (simp only [go_sem]; omega)) only [go_sem, ↓reduceIte]
    refine call_by r2 ?_
    simp (config := { maxSteps := 1000000 }) (disch := first | omega | (simp only [go_sem]; omega)) only [go_sem, ↓reduceIte]
    try simp
  · simp (config := { maxSteps := 1000000 }) (disch := first | omega | (simp only [go_sem]; omega)) only [go_sem, ↓reduceIte]
    refine call_by r1 ?_
    simp (config := { maxSteps := 1000000 }) (disch := first | omega | (simp only [go_sem]; omega)) only [go_sem, ↓reduceIte]
    refine call_by r2 ?_
    simp (config := { maxSteps := 1000000 }) (disch := first | omega | (simp only [go_sem]; omega)) only [go_sem, ↓reduceIte]
    refine call_by r3 ?_
    simp (config := { maxSteps := 1000000 }) (disch := first | omega | (simp only [go_sem]; omega)) only [go_sem, ↓reduceIte]
    try simp
theorem fewM_len {m : Mo} {n : Int} (h : fewM m n = true) : (m.n.length : Int) + m.e.length ≤ n := by
  simpa only [fewM, decide_eq_true_eq] using h
set_option maxHeartbeats 2000000 in
theorem w_l07_SubgraphImage (hw : K_l07_awake P F) (hf : K_l07_Arrow_small P F) (hfp : K_r07_Few P F) (ho : K_l07_own P F) (h1 : K_subgraph_Image P F) (h2 : K_r07_Image P F) (h3 : K_subgraph_Preimage P F) (h4 : K_r07_Preimage P F) (hs : K_r07_Same P F)
    (x : Ar) (p : Mo) (hx : x.m.sm) (hp : p.sm) : W P (c_l07_SubgraphImage F) (Done [.t 4] [] (.bool true) []) (init [arD x, mD p]) := by
  refine W_of ?_
  have r1 := hf x hx
  have r0 := hfp p 150 hp.1 hp.2
  cases c : fewAr x
  · rw [c] at r1
    simp only [arD, mD] at *
    simp (config := { maxSteps := 1000000 }) (disch := first | omega | (simp only [go_sem]; omega)) only [go_sem, ↓reduceIte]
    refine call_by hw ?_
    simp (config := { maxSteps := 1000000 }) (disch := first | omega | (simp only [go_sem]; omega)) only [go_sem, ↓reduceIte]
    refine call_by r1 ?_
    simp (config := { maxSteps := 1000000 }) (disch := first | omega | (simp only [go_sem]; omega)) only [go_sem, ↓reduceIte]
    refine call_by hw ?_
    simp (config := { maxSteps := 1000000 }) (disch := first | omega | (simp only [go_sem]; omega)) only [go_sem, ↓reduceIte]
  rw [c] at r1
  cases c0 : fewM p 150
  · rw [c0] at r0
    simp only [arD, mD] at *
    simp (config := { maxSteps := 1000000 }) (disch := first | omega | (simp only [go_sem]; omega)) only [go_sem, ↓reduceIte]
    refine call_by hw ?_
    simp (config := { maxSteps := 1000000 }) (disch := first | omega | (simp only [go_sem]; omega)) only [go_sem, ↓reduceIte]
    refine call_by r1 ?_
    simp (config := { maxSteps := 1000000 }) (disch := first | omega | (simp only [go_sem]; omega)) only [go_sem, ↓reduceIte]
    refine call_by r0 ?_
    simp (config := { maxSteps := 1000000 }) (disch := first | omega | (simp only [go_sem]; omega)) only [go_sem, ↓reduceIte]
    refine call_by hw ?_
    simp (config := { maxSteps := 1000000 }) (disch := first | omega | (simp only [go_sem]; omega)) only [go_sem, ↓reduceIte]
  rw [c0] at r0
  have c1 := fewM_len c0
  have r2 := ho p (by omega) (by omega)
  have r3 := h1 x.a x.b x.m
  have r4 := h2 x.a x.b x.m
  have r5 := h3 x.a x.b x.m p hp
  have r6 := h4 x.a x.b x.m p hp
  have l1 := imR_len x.a x.b x.m
  have l2 := preR_len x.a x.b x.m p
  have r7 := hs (imR x.a x.b x.m).1 (imR x.a x.b x.m).1 (by unfold maxL; omega) (by unfold maxL; omega)
  have r8 := hs (preR x.a x.b x.m p).1 (preR x.a x.b x.m p).1 (by unfold maxL; omega) (by unfold maxL; omega)
  rw [decide_eq_true rfl] at r7 r8
  clear l1 l2 c c0 c1
  generalize imR x.a x.b x.m = R at *
  generalize preR x.a x.b x.m p = S at *
  obtain ⟨⟨rn, re⟩, v⟩ := R
  obtain ⟨⟨sn, se⟩, u⟩ := S
  simp only [arD, gD, mD, mA] at *
  simp (config := { maxSteps := 1000000 }) (disch := first | omega | (simp only [go_sem]; omega)) only [go_sem, ↓reduceIte]
  refine call_by hw ?_
  simp (config := { maxSteps := 1000000 }) (disch := first | omega | (simp only [go_sem]; omega)) only [go_sem, ↓reduceIte]
  refine call_by r1 ?_
  simp (config := { maxSteps := 1000000 }) (disch := first | omega | (simp only [go_sem]; omega)) only [go_sem, ↓reduceIte]
  refine call_by r0 ?_
  simp (config := { maxSteps := 1000000 }) (disch := first | omega | (simp only [go_sem]; omega)) only [go_sem, ↓reduceIte]
  refine call_by r3 ?_
  simp (config := { maxSteps := 1000000 }) (disch := first | omega | (simp only [go_sem]; omega)) only [go_sem, ↓reduceIte]
  refine call_by r4 ?_
  simp (config := { maxSteps := 1000000 }) (disch := first | omega | (simp only [go_sem]; omega)) only [go_sem, ↓reduceIte]
  refine call_by r2 ?_
  simp (config := { maxSteps := 1000000 }) (disch := first | omega | (simp only [go_sem]; omega)) only [go_sem, ↓reduceIte]
  refine call_by r5 ?_
  simp (config := { maxSteps := 1000000 }) (disch := first | omega | (simp only [go_sem]; omega)) only [go_sem, ↓reduceIte]
  refine call_by r6 ?_
  simp (config := { maxSteps := 1000000 }) (disch := first | omega | (simp only [go_sem]; omega)) only [go_sem, ↓reduceIte]
  refine call_by r7 ?_
  simp (config := { maxSteps := 1000000 }) (disch := first | omega | (simp only [go_sem]; omega)) only [go_sem, ↓reduceIte]
  refine call_by r8 ?_
  simp (config := { maxSteps := 1000000 }) (disch := first | omega | (simp only [go_sem]; omega)) only [go_sem, ↓reduceIte]
  try simp
def shAr : Sh := .cat [shG, shG, shM]
theorem rd_ar {x : D} (h : HasEl shAr x) : ∃ c : Ar, x = arD c ∧ c.m.sm := by
  simp only [shAr, HasEl] at h
  obtain ⟨ds, rfl, h⟩ := h
  obtain ⟨_, _, rfl, h1, h⟩ := hasShs_cat h
  obtain ⟨_, _, rfl, h2, h⟩ := hasShs_cat h
  obtain ⟨_, _, rfl, h4, h⟩ := hasShs_cat h
  obtain rfl := hasShs_nil h
  obtain ⟨l, rfl⟩ := rd_gl h1
  obtain ⟨g, rfl⟩ := rd_gl h2
  obtain ⟨m, rfl, h6⟩ := rd_ml h4
  exact ⟨⟨l, g, m⟩, rfl, h6⟩
theorem x_l07_SubgraphImage (h : K_l07_SubgraphImage P F) (args : List D) (ha : HasEls [shAr, shM] args) : FC P (F "l07.SubgraphImage") args (.bool true) [] := by
  simp only [HasEls] at ha
  obtain ⟨_, _, rfl, h1, _, _, rfl, h2, rfl⟩ := ha
  obtain ⟨x, rfl, k⟩ := rd_ar h1
  obtain ⟨p, rfl, k2⟩ := rd_morph h2
  exact h x p k k2
end
end Go.Am
