/- Pullbacks: mediating morphisms; the example; the law PullbackEqualizer. -/
/- Chapter 11: the example's check. -/
import Derived.Test.YtkllpeebnabdiaaSkPc
namespace Go.Am
open Go
set_option linter.unusedVariables false
set_option linter.unusedSimpArgs false
/- l11.example -/
def c_l11_example_r0 (F : String → Nat) : List LI := [⟨some 0, .alloc [.nl 1, .nl 3, .nl 1, .nl 3, .nl 1, .nl 3, .nl 1, .nl 1, .nl 1, .nl 1], none⟩]
def c_l11_example_r1 (F : String → Nat) : List LI := [⟨some 4, .buildSl 1 8 (.int .i64 (0)) 2 [(0, .k (.int .i64 (0))), (1, .k (.int .i64 (0)))], none⟩,
  ⟨some 5, .build [.nl 1, .nl 3] [(0, 1, .t 4)], none⟩,
  ⟨some 6, .buildSl 1 8 (.int .i64 (0)) 1 [(0, .k (.int .i64 (0)))], none⟩,
  ⟨some 7, .build [.nl 1, .nl 3] [(0, 1, .t 6)], none⟩,
  ⟨some 1, .alloc [.nl 1, .nl 3], none⟩,
  ⟨some 2, .alloc [.nl 1, .nl 3], none⟩,
  ⟨none, .store 2 (.t 1) (.t 5), none⟩,
  ⟨none, .store 2 (.t 2) (.t 7), none⟩]
def c_l11_example_r2 (F : String → Nat) : List LI := [⟨some 8, .buildSl 1 8 (.int .i64 (0)) 2 [(0, .k (.int .i64 (0))), (1, .k (.int .i64 (0)))], none⟩,
  ⟨some 9, .build [.nl 1, .nl 1] [(0, 1, .t 8)], none⟩,
  ⟨some 3, .alloc [.nl 1, .nl 1], none⟩,
  ⟨none, .store 2 (.t 3) (.t 9), none⟩]
def c_l11_example_r3 (F : String → Nat) : List LI := [⟨some 10, .load true 2 (.t 1), none⟩,
  ⟨some 11, .load true 2 (.t 1), none⟩,
  ⟨some 12, .load true 2 (.t 2), none⟩,
  ⟨some 13, .load true 2 (.t 3), none⟩,
  ⟨some 14, .load true 2 (.t 3), none⟩,
  ⟨some 15, .build [.nl 1, .nl 3, .nl 1, .nl 3, .nl 1, .nl 3, .nl 1, .nl 1, .nl 1, .nl 1] [(0, 2, .t 10), (2, 2, .t 11), (4, 2, .t 12), (6, 2, .t 13), (8, 2, .t 14)], none⟩,
  ⟨none, .store 10 (.t 0) (.t 15), none⟩]
def c_l11_example (F : String → Nat) : LC := (.seq (.reg (c_l11_example_r0 F) [0]) (.seq (.reg (c_l11_example_r1 F) [0, 1, 2]) (.seq (.reg (c_l11_example_r2 F) [0, 1, 2, 3]) (.seq (.reg (c_l11_example_r3 F) [0]) .ret))))
def h_l11_example : Hints := ⟨[], fun _ => [], tab [(0, [0]), (1, [0, 1, 2]), (2, [0, 1, 2, 3]), (3, [0])], tab []⟩

/- l11.awake -/
def c_l11_awake_r0 (F : String → Nat) : List LI := [⟨some 0, .mov (.k (.bool false)), none⟩]
def c_l11_awake_r1 (F : String → Nat) : List LI := [⟨some 11, .call (F "l11.example") [] [], none⟩,
  ⟨some 1, .alloc [.nl 1, .nl 3, .nl 1, .nl 3, .nl 1, .nl 3, .nl 1, .nl 1, .nl 1, .nl 1], none⟩,
  ⟨none, .store 10 (.t 1) (.t 11), none⟩]
def c_l11_awake_r2 (F : String → Nat) : List LI := [⟨some 13, .load true 10 (.t 1), none⟩,
  ⟨some 14, .call (F "pullback.Of") [.t 13] [], none⟩,
  ⟨some 12, .mov (.t 14), none⟩,
  ⟨some 15, .ext (.t 12) 0, none⟩,
  ⟨some 16, .ext (.t 12) 1, none⟩,
  ⟨some 17, .ext (.t 12) 2, none⟩,
  ⟨some 18, .ext (.t 12) 3, none⟩,
  ⟨some 2, .alloc [.nl 1, .nl 3], none⟩,
  ⟨some 3, .alloc [.nl 1, .nl 1], none⟩,
  ⟨some 4, .alloc [.nl 1, .nl 1], none⟩,
  ⟨none, .store 2 (.t 2) (.t 15), none⟩,
  ⟨none, .store 2 (.t 3) (.t 16), none⟩,
  ⟨none, .store 2 (.t 4) (.t 17), none⟩,
  ⟨some 5, .mov (.t 18), none⟩]
def c_l11_awake_r3 (F : String → Nat) : List LI := [⟨some 20, .load true 10 (.t 1), none⟩,
  ⟨some 21, .fad 4 (.t 1), none⟩,
  ⟨some 22, .load true 2 (.t 21), none⟩,
  ⟨some 23, .buildSl 1 8 (.int .i64 (0)) 1 [(0, .k (.int .i64 (1)))], none⟩,
  ⟨some 24, .build [.nl 1, .nl 1] [(0, 1, .t 23)], none⟩,
  ⟨some 25, .buildSl 1 8 (.int .i64 (0)) 1 [(0, .k (.int .i64 (0)))], none⟩,
  ⟨some 26, .build [.nl 1, .nl 1] [(0, 1, .t 25)], none⟩,
  ⟨some 27, .call (F "pullback.Mediate") [.t 20, .t 22, .t 24, .t 26] [], none⟩,
  ⟨some 19, .mov (.t 27), none⟩,
  ⟨some 28, .ext (.t 19) 0, none⟩,
  ⟨some 29, .ext (.t 19) 1, none⟩,
  ⟨some 6, .alloc [.nl 1, .nl 1], none⟩,
  ⟨none, .store 2 (.t 6) (.t 28), none⟩,
  ⟨some 7, .mov (.t 29), none⟩]
def c_l11_awake_r4 (F : String → Nat) : List LI := [⟨some 31, .fad 0 (.t 1), none⟩,
  ⟨some 32, .load true 2 (.t 31), none⟩,
  ⟨some 33, .fad 4 (.t 1), none⟩,
  ⟨some 34, .load true 2 (.t 33), none⟩,
  ⟨some 35, .fad 6 (.t 1), none⟩,
  ⟨some 36, .load true 2 (.t 35), none⟩,
  ⟨some 37, .call (F "pullback.Kernel") [.t 32, .t 34, .t 36] [], none⟩,
  ⟨some 30, .mov (.t 37), none⟩,
  ⟨some 38, .ext (.t 30) 0, none⟩,
  ⟨some 39, .ext (.t 30) 1, none⟩,
  ⟨some 40, .ext (.t 30) 2, none⟩,
  ⟨some 8, .mov (.t 38), none⟩,
  ⟨some 9, .mov (.t 39), none⟩,
  ⟨some 10, .mov (.t 40), none⟩]
def c_l11_awake_r5 (F : String → Nat) : List LI := [⟨some 41, .mov (.t 5), none⟩,
  ⟨some 42, .bin .eql (.t 41) (.k (.int .i64 (0))), none⟩,
  ⟨some 43, .mov (.t 42), none⟩,
  ⟨some 44, .mov (.t 7), some (43, true)⟩,
  ⟨some 45, .bin .eql (.t 44) (.k (.int .i64 (0))), some (43, true)⟩,
  ⟨some 46, .pick (.t 43) (.t 45) (.k (.bool false)), none⟩,
  ⟨some 47, .mov (.t 46), none⟩,
  ⟨some 48, .mov (.t 10), some (47, true)⟩,
  ⟨some 49, .bin .eql (.t 48) (.k (.int .i64 (0))), some (47, true)⟩,
  ⟨some 50, .pick (.t 47) (.t 49) (.k (.bool false)), none⟩,
  ⟨some 51, .mov (.t 50), none⟩,
  ⟨some 52, .fad 0 (.t 2), some (51, true)⟩,
  ⟨some 53, .load false 1 (.t 52), some (51, true)⟩,
  ⟨some 54, .len (.t 53), some (51, true)⟩,
  ⟨some 55, .bin .eql (.t 54) (.k (.int .i64 (4))), some (51, true)⟩,
  ⟨some 56, .pick (.t 51) (.t 55) (.k (.bool false)), none⟩,
  ⟨some 57, .mov (.t 56), none⟩,
  ⟨some 58, .fad 0 (.t 3), some (57, true)⟩,
  ⟨some 59, .load false 1 (.t 58), some (57, true)⟩,
  ⟨some 60, .buildSl 1 8 (.int .i64 (0)) 4 [(0, .k (.int .i64 (0))), (1, .k (.int .i64 (0))), (2, .k (.int .i64 (1))), (3, .k (.int .i64 (1)))], some (57, true)⟩,
  ⟨some 61, .call (F "slices.Equal.I") [.t 59, .t 60] [], some (57, true)⟩,
  ⟨some 62, .pick (.t 57) (.t 61) (.k (.bool false)), none⟩,
  ⟨some 63, .mov (.t 62), none⟩,
  ⟨some 64, .fad 0 (.t 4), some (63, true)⟩,
  ⟨some 65, .load false 1 (.t 64), some (63, true)⟩,
  ⟨some 66, .buildSl 1 8 (.int .i64 (0)) 4 [(0, .k (.int .i64 (0))), (1, .k (.int .i64 (1))), (2, .k (.int .i64 (0))), (3, .k (.int .i64 (1)))], some (63, true)⟩,
  ⟨some 67, .call (F "slices.Equal.I") [.t 65, .t 66] [], some (63, true)⟩,
  ⟨some 68, .pick (.t 63) (.t 67) (.k (.bool false)), none⟩,
  ⟨some 69, .mov (.t 68), none⟩,
  ⟨some 70, .fad 0 (.t 6), some (69, true)⟩,
  ⟨some 71, .load false 1 (.t 70), some (69, true)⟩,
  ⟨some 72, .buildSl 1 8 (.int .i64 (0)) 1 [(0, .k (.int .i64 (2)))], some (69, true)⟩,
  ⟨some 73, .call (F "slices.Equal.I") [.t 71, .t 72] [], some (69, true)⟩,
  ⟨some 74, .pick (.t 69) (.t 73) (.k (.bool false)), none⟩,
  ⟨some 75, .mov (.t 74), none⟩,
  ⟨some 76, .mov (.t 8), some (75, true)⟩,
  ⟨some 77, .build [.int .i64 (0), .int .i64 (0)] [(0, 1, .k (.int .i64 (0))), (1, 1, .k (.int .i64 (1)))], some (75, true)⟩,
  ⟨some 78, .buildSl 2 16 (.agg [.int .i64 (0), .int .i64 (0)]) 1 [(0, .t 77)], some (75, true)⟩,
  ⟨some 79, .call (F "r11.SamePairs") [.t 76, .t 78] [], some (75, true)⟩,
  ⟨some 80, .pick (.t 75) (.t 79) (.k (.bool false)), none⟩,
  ⟨some 0, .mov (.t 80), none⟩]
def c_l11_awake (F : String → Nat) : LC := (.seq (.reg (c_l11_awake_r0 F) []) (.seq (.reg (c_l11_awake_r1 F) [1]) (.seq (.reg (c_l11_awake_r2 F) [1, 2, 3, 4, 5]) (.seq (.reg (c_l11_awake_r3 F) [1, 2, 3, 4, 5, 6, 7]) (.seq (.reg (c_l11_awake_r4 F) [2, 3, 4, 5, 6, 7, 8, 10]) (.seq (.reg (c_l11_awake_r5 F) [0]) .ret))))))
def h_l11_awake : Hints := ⟨[], fun _ => [], tab [(0, []), (1, [1]), (2, [1, 2, 3, 4, 5]), (3, [1, 2, 3, 4, 5, 6, 7]), (4, [2, 3, 4, 5, 6, 7, 8, 10]), (5, [0])], tab []⟩

attribute [go_sem] c_l11_example_r0 c_l11_example_r1 c_l11_example_r2 c_l11_example_r3 c_l11_example c_l11_awake_r0 c_l11_awake_r1 c_l11_awake_r2 c_l11_awake_r3 c_l11_awake_r4 c_l11_awake_r5 c_l11_awake
def exCs : Cs := ⟨⟨[0, 0], []⟩, ⟨[0, 0], []⟩, ⟨[0], []⟩, ⟨[0, 0], []⟩, ⟨[0, 0], []⟩⟩
def meetI (l : List Pr) (h k : List Int) (n : Nat) : List Int := (List.range n).map fun i : Nat => idx (fun p => decide (p = ⟨gt h i, gt k i⟩)) l 0
def meetL (l : List Pr) (h k : List Int) : List Int := meetI l h k h.length
def meetOk (l : List Pr) (h k : List Int) : Bool := (meetL l h k).all fun x => decide (0 ≤ x)
def medErr (s : Cs) (x : G) (h k : Mo) : Int := if pbErr s ≠ 0 then pbErr s else if validM x s.b h ≠ 0 then validM x s.b h else validM x s.c k
def medM (s : Cs) (x : G) (h k : Mo) : Mo × Int := if medErr s x h k ≠ 0 then (m0, medErr s x h k) else
  if meetOk (pbN s) h.n k.n = true ∧ meetOk (pbE s) h.e k.e = true then (⟨meetL (pbN s) h.n k.n, meetL (pbE s) h.e k.e⟩, 0) else (m0, 11)
def fewG (g : G) : Bool := few g
def fewCs (s : Cs) : Bool := few s.b && (few s.c && (few s.d && (fewM s.f 150 && fewM s.g 150)))
def Cs.sm (s : Cs) : Prop := s.f.sm ∧ s.g.sm
section
variable (P : Program) (F : String → Nat)
def K_pullback_meet : Prop := ∀ (l : List Pr) (h k : List Int), l.length ≤ maxL → h.length ≤ 10000 → k.length = h.length → FC P (F "pullback.meet") [.lst 2 (prs l), .lst 1 (ints h), .lst 1 (ints k)] (.tup [.arr 1 (ints (if meetOk l h k = true then meetL l h k else [])), .bool (meetOk l h k)]) []
def K_pullback_Mediate : Prop := ∀ (s : Cs) (x : G) (h k : Mo), FC P (F "pullback.Mediate") [csD s, gD x, mD h, mD k] (.tup [mA (medM s x h k).1, .int .i64 (medM s x h k).2]) []
def K_r11_Few : Prop := ∀ s : Cs, s.sm → FC P (F "r11.Few") [csD s] (.bool (fewCs s)) []
def K_l11_example : Prop := FC P (F "l11.example") [] (.agg [.lst 1 (ints [0, 0]), .arr 3 [], .lst 1 (ints [0, 0]), .arr 3 [], .lst 1 (ints [0]), .arr 3 [], .lst 1 (ints [0, 0]), .arr 1 [], .lst 1 (ints [0, 0]), .arr 1 []]) []
def K_l11_awake : Prop := FC P (F "l11.awake") [] (.bool true) []
end
section
variable {P : Program} {F : String → Nat} {α : Type}
theorem meetI_zero (l : List Pr) (h k : List Int) : meetI l h k 0 = [] := rfl
theorem meetI_succ (l : List Pr) (h k : List Int) (n : Nat) : meetI l h k (n + 1) = meetI l h k n ++ [idx (fun p => decide (p = ⟨gt h n, gt k n⟩)) l 0] := by simp [meetI, List.range_succ]
theorem meetI_len (l : List Pr) (h k : List Int) (n : Nat) : (meetI l h k n).length = n := by simp [meetI]
theorem meetI_take (l : List Pr) (h k : List Int) {n m : Nat} (hn : n ≤ m) : (meetI l h k m).take n = meetI l h k n := by
  unfold meetI
  rw [← List.map_take, List.take_range]
  congr 2
  omega
theorem w_pullback_meet (hx : K_slices_Index_apiPair P F) (l : List Pr) (h k : List Int) (hl : l.length ≤ maxL) (h1 : h.length ≤ 10000) (h2 : k.length = h.length) :
    W P (c_pullback_meet F) (Done [.t 6, .t 7] [] (.tup [.arr 1 (ints (if meetOk l h k = true then meetL l h k else [])), .bool (meetOk l h k)]) []) (init [.lst 2 (prs l), .lst 1 (ints h), .lst 1 (ints k)]) := by
  refine W_of ?_
  have hll := hl
  unfold maxL at hl
  simp (config := { maxSteps := 1000000 }) (disch := first | omega | (simp only [go_sem]; omega)) only [go_sem, ↓reduceIte]
  refine W_loop (fun i : Nat => ⟨[(0, .lst 2 (prs l)), (1, .lst 1 (ints h)), (2, .lst 1 (ints k)), (8, .sl 0 0 i), (12, .int .i64 h.length), (13, .int .i64 i)], [(0, .arr 1 (ints (meetI l h k i)))], 1⟩)
    (fun i => i ≤ h.length ∧ ∀ x ∈ meetI l h k i, 0 ≤ x) (fun i => h.length - i) 0 ?_ ?_ ?_
  · simp (config := { maxSteps := 1000000 }) (disch := first | omega | (simp only [go_sem]; omega)) only [go_sem, ↓reduceIte, meetI_zero]
    rfl
  · simp [meetI_zero]
  · rintro i ⟨hi, ha⟩
    have e1 := meetI_len l h k i
    simp (config := { maxSteps := 1000000 }) (disch := first | omega | (simp only [go_sem]; omega)) only [go_sem, ↓reduceIte, c_pullback_meet_b10]
    refine bran_dec (fun c => ?_) (fun c => ?_)
    · have q := hx l (gt h i) (gt k i) hll
      have hs := meetI_succ l h k i
      have ht := meetI_take l h k (n := i + 1) (m := h.length) (by omega)
      generalize idx (fun p => decide (p = ⟨gt h i, gt k i⟩)) l 0 = y at *
      simp (config := { maxSteps := 1000000 }) (disch := first | omega | (simp only [go_sem]; omega)) only [go_sem, ↓reduceIte, e1]
      refine call_by q ?_
      simp (config := { maxSteps := 1000000 }) (disch := first | omega | (simp only [go_sem]; omega)) only [go_sem, ↓reduceIte, e1]
      refine bran_dec (fun d => ?_) (fun d => ?_)
      · have hno : meetOk l h k = false := by
          rw [← Bool.not_eq_true, meetOk, List.all_eq_true]
          intro hall
          have hm : y ∈ meetL l h k := by
            have : y ∈ (meetI l h k h.length).take (i + 1) := by rw [ht, hs]; simp
            exact List.mem_of_mem_take this
          have := hall y hm
          simp at this; omega
        simp (config := { maxSteps := 1000000 }) (disch := first | omega | (simp only [go_sem]; omega)) only [go_sem, ↓reduceIte, e1]
        rw [hno]
        simp [ints]
      · simp (config := { maxSteps := 1000000 }) (disch := first | omega | (simp only [go_sem]; omega)) only [go_sem, ↓reduceIte, e1]
        exact ⟨i + 1, by simp [hs], ⟨by omega, fun x hx => by
          rw [hs] at hx
          rcases List.mem_append.1 hx with hx | hx
          · exact ha x hx
          · simp at hx; omega⟩, by omega⟩
    · obtain rfl : i = h.length := by omega
      have hyes : meetOk l h k = true := by
        rw [meetOk, List.all_eq_true]
        intro x hx
        simpa using ha x hx
      simp (config := { maxSteps := 1000000 }) (disch := first | omega | (simp only [go_sem]; omega)) only [go_sem, ↓reduceIte, e1]
      rw [hyes]
      simp [meetL]
theorem w_pullback_Mediate (ho : K_pullback_of P F) (hv : K_morphism_Valid P F) (hm : K_pullback_meet P F) (s : Cs) (x : G) (h k : Mo) :
    W P (c_pullback_Mediate F) (Done [.c 8 true 2, .t 9] [] (.tup [mA (medM s x h k).1, .int .i64 (medM s x h k).2]) []) (init [csD s, gD x, mD h, mD k]) := by
  refine W_of ?_
  have ro := ho s
  have r1 := hv x s.b h
  have r2 := hv x s.c k
  have hl := @pbN_len s
  have hl1 := @validM_len x s.b h
  have hs1 := @validM_spec x s.b h
  have hs2 := @validM_spec x s.c k
  have hmd : medM s x h k = if medErr s x h k ≠ 0 then (m0, medErr s x h k) else
    if meetOk (pbN s) h.n k.n = true ∧ meetOk (pbE s) h.e k.e = true then (⟨meetL (pbN s) h.n k.n, meetL (pbE s) h.e k.e⟩, 0) else (m0, 11) := rfl
  have hE : medErr s x h k = if pbErr s ≠ 0 then pbErr s else if validM x s.b h ≠ 0 then validM x s.b h else validM x s.c k := rfl
  generalize medErr s x h k = er at *
  generalize medM s x h k = md at *
  generalize pbErr s = e0 at *
  generalize validM x s.b h = e1 at *
  generalize validM x s.c k = e2 at *
  generalize pbN s = ns at *
  generalize pbE s = es at *
  generalize pbG s = gg at *
  obtain ⟨⟨bn, be⟩, ⟨cn, ce⟩, ⟨dn, de⟩, ⟨fn, fe⟩, ⟨gn, ge⟩⟩ := s
  obtain ⟨xn, xe⟩ := x
  obtain ⟨hn, he⟩ := h
  obtain ⟨kn, ke⟩ := k
  obtain ⟨ggn, gge⟩ := gg
  simp only [csD, gD, mD] at ro r1 r2 ⊢
  simp (config := { maxSteps := 1000000 }) (disch := first | omega | (simp only [go_sem]; omega)) only [go_sem, ↓reduceIte]
  refine call_by ro ?_
  simp (config := { maxSteps := 1000000 }) (disch := first | omega | (simp only [go_sem]; omega)) only [go_sem, ↓reduceIte]
  refine bran_dec (fun c => ?_) (fun c => ?_)
  · subst c
    rw [if_neg (by simp)] at hE
    obtain ⟨p1, p2, _⟩ := hl rfl
    rw [if_pos rfl, if_pos rfl] at *
    simp (config := { maxSteps := 1000000 }) (disch := first | omega | (simp only [go_sem]; omega)) only [go_sem, ↓reduceIte]
    refine call_by r1 ?_
    simp (config := { maxSteps := 1000000 }) (disch := first | omega | (simp only [go_sem]; omega)) only [go_sem, ↓reduceIte]
    refine bran_dec (fun c => ?_) (fun c => ?_)
    · subst c
      rw [if_neg (by simp)] at hE
      subst hE
      obtain ⟨q1, q2, _⟩ := hl1 rfl
      obtain ⟨_, _, q3, q4, _⟩ := hs1 rfl
      simp (config := { maxSteps := 1000000 }) (disch := first | omega | (simp only [go_sem]; omega)) only [go_sem, ↓reduceIte]
      refine call_by r2 ?_
      simp (config := { maxSteps := 1000000 }) (disch := first | omega | (simp only [go_sem]; omega)) only [go_sem, ↓reduceIte]
      refine bran_ndec (fun c => ?_) (fun c => ?_)
      · rw [if_pos c] at hmd
        subst hmd
        simp (config := { maxSteps := 1000000 }) (disch := first | omega | (simp only [go_sem]; omega)) only [go_sem, ↓reduceIte]
        simp [m0, mA, ints]
      · subst c
        rw [if_neg (by simp)] at hmd
        obtain ⟨_, _, q5, q6, _⟩ := hs2 rfl
        simp only at q1 q2 q3 q4 q5 q6 hmd
        have t1 := hm ns hn kn (by unfold maxL; omega) (by omega) (by omega)
        have t2 := hm es he ke (by unfold maxL; omega) (by omega) (by omega)
        generalize meetOk ns hn kn = o1 at *
        generalize meetOk es he ke = o2 at *
        generalize meetL ns hn kn = l1 at *
        generalize meetL es he ke = l2 at *
        simp (config := { maxSteps := 1000000 }) (disch := first | omega | (simp only [go_sem]; omega)) only [go_sem, ↓reduceIte]
        refine call_by t1 ?_
        simp (config := { maxSteps := 1000000 }) (disch := first | omega | (simp only [go_sem]; omega)) only [go_sem, ↓reduceIte]
        refine call_by t2 ?_
        cases o1
        · rw [if_neg (by simp)] at hmd
          subst hmd
          simp (config := { maxSteps := 1000000 }) (disch := first | omega | (simp only [go_sem]; omega)) only [go_sem, ↓reduceIte]
          simp [m0, mA, ints]
        · cases o2
          · rw [if_neg (by simp)] at hmd
            subst hmd
            simp (config := { maxSteps := 1000000 }) (disch := first | omega | (simp only [go_sem]; omega)) only [go_sem, ↓reduceIte]
            simp [m0, mA, ints]
          · rw [if_pos (by simp)] at hmd
            subst hmd
            simp (config := { maxSteps := 1000000 }) (disch := first | omega | (simp only [go_sem]; omega)) only [go_sem, ↓reduceIte, mA]
            try simp
    · rw [if_pos c] at hE
      subst hE
      rw [if_pos c] at hmd
      subst hmd
      simp (config := { maxSteps := 1000000 }) (disch := first | omega | (simp only [go_sem]; omega)) only [go_sem, ↓reduceIte, c]
      simp [m0, mA, ints]
  · rw [if_pos c] at hE
    subst hE
    rw [if_pos c] at hmd
    subst hmd
    simp (config := { maxSteps := 1000000 }) (disch := first | omega | (simp only [go_sem]; omega)) only [go_sem, ↓reduceIte, c]
    simp [m0, mA, ints]
theorem w_r11_Few (hg : K_r05_Few P F) (hm : K_r06_Few P F) (s : Cs) (hs : s.sm) : W P (c_r11_Few F) (Done [.t 2] [] (.bool (fewCs s)) []) (init [csD s]) := by
  refine W_of ?_
  have r1 := hg s.b
  have r2 := hg s.c
  have r3 := hg s.d
  have r4 := hm s.f 150 hs.1.1 hs.1.2
  have r5 := hm s.g 150 hs.2.1 hs.2.2
  have hf : fewCs s = (few s.b && (few s.c && (few s.d && (fewM s.f 150 && fewM s.g 150)))) := rfl
  generalize few s.b = b1 at *
  generalize few s.c = b2 at *
  generalize few s.d = b3 at *
  generalize fewM s.f 150 = b4 at *
  generalize fewM s.g 150 = b5 at *
  generalize fewCs s = r at *
  subst hf
  simp only [csD, gD, mD] at r1 r2 r3 r4 r5 ⊢
  simp (config := { maxSteps := 1000000 }) (disch := first | omega | (simp only [go_sem]; omega)) only [go_sem, ↓reduceIte]
  refine call_by r1 ?_
  cases b1
  · simp (config := { maxSteps := 1000000 }) (disch := first | omega | (simp only [go_sem]; omega)) only [go_sem, ↓reduceIte]
    try simp
  · simp (config := { maxSteps := 1000000 }) (disch := first | omega | (simp only [go_sem]; omega)) only [go_sem, ↓reduceIte]
    refine call_by r2 ?_
    cases b2
    · simp (config := { maxSteps := 1000000 }) (disch := first | omega | (simp only [go_sem]; omega)) only [go_sem, ↓reduceIte]
      try simp
    · simp (config := { maxSteps := 1000000 }) (disch := first | omega | (simp only [go_sem]; omega)) only [go_sem, ↓reduceIte]
      refine call_by r3 ?_
      cases b3
      · simp (config := { maxSteps := 1000000 }) (disch := first | omega | (simp only [go_sem]; omega)) only [go_sem, ↓reduceIte]
        try simp
      · simp (config := { maxSteps := 1000000 }) (disch := first | omega | (simp only [go_sem]; omega)) only [go_sem, ↓reduceIte]
        refine call_by r4 ?_
        cases b4
        · simp (config := { maxSteps := 1000000 }) (disch := first | omega | (simp only [go_sem]; omega)) only [go_sem, ↓reduceIte]
          try simp
        · simp (config := { maxSteps := 1000000 }) (disch := first | omega | (simp only [go_sem]; omega)) only [go_sem, ↓reduceIte]
          refine call_by r5 ?_
          simp (config := { maxSteps := 1000000 }) (disch := first | omega | (simp only [go_sem]; omega)) only [go_sem, ↓reduceIte]
          try simp
theorem w_l11_example : W P (c_l11_example F) (DoneF [.c 0 true 10] [] (.agg [.lst 1 (ints [0, 0]), .arr 3 [], .lst 1 (ints [0, 0]), .arr 3 [], .lst 1 (ints [0]), .arr 3 [], .lst 1 (ints [0, 0]), .arr 1 [], .lst 1 (ints [0, 0]), .arr 1 []]) []) (init []) := by
  refine W_ofF ?_
  simp (config := { maxSteps := 1000000 }) (disch := first | omega | (simp only [go_sem]; omega)) only [go_sem, ↓reduceIte]
  rfl
end
end Go.Am
namespace Go.Am
open Go
set_option linter.unusedVariables false
set_option linter.unusedSimpArgs false
section
variable {P : Program} {F : String → Nat} {α : Type}
def shAr : Sh := .cat [shG, shG, shM, shM]
theorem rd_arrows {x : D} (h : HasEl shAr x) : ∃ (a b : G) (f g : Mo), x = .agg (gL a ++ (gL b ++ (moL f ++ moL g))) ∧ f.sm ∧ g.sm := by
  simp only [shAr, HasEl] at h
  obtain ⟨ds, rfl, h⟩ := h
  obtain ⟨_, _, rfl, h1, h⟩ := hasShs_cat h
  obtain ⟨_, _, rfl, h2, h⟩ := hasShs_cat h
  obtain ⟨_, _, rfl, h3, h⟩ := hasShs_cat h
  obtain ⟨_, _, rfl, h4, h⟩ := hasShs_cat h
  obtain rfl := hasShs_nil h
  obtain ⟨a, rfl⟩ := rd_gl h1
  obtain ⟨b, rfl⟩ := rd_gl h2
  obtain ⟨f, rfl, h5⟩ := rd_ml h3
  obtain ⟨g, rfl, h6⟩ := rd_ml h4
  exact ⟨a, b, f, g, by simp, h5, h6⟩
theorem w_l11_awake (he : K_l11_example P F) (ho : K_pullback_Of P F) (hm : K_pullback_Mediate P F) (hk : K_pullback_Kernel P F) (hq : K_slices_Equal_I P F) (hp : K_r11_SamePairs P F) : W P (c_l11_awake F) (Done [.t 0] [] (.bool true) []) (init []) := by
  refine W_of ?_
  have r1 := ho exCs
  rw [show pbG exCs = ⟨[0, 0, 0, 0], []⟩ by decide +kernel, show pbP exCs = ⟨[0, 0, 1, 1], []⟩ by decide +kernel, show pbQ exCs = ⟨[0, 1, 0, 1], []⟩ by decide +kernel, show pbErr exCs = 0 by decide +kernel] at r1
  have r2 := hm exCs ⟨[0], []⟩ ⟨[1], []⟩ ⟨[0], []⟩
  rw [show medM exCs ⟨[0], []⟩ ⟨[1], []⟩ ⟨[0], []⟩ = (⟨[2], []⟩, 0) by decide +kernel] at r2
  have r3 := hk ⟨[0, 0], []⟩ ⟨[0], []⟩ ⟨[0, 0], []⟩
  rw [show kernN ⟨[0, 0], []⟩ ⟨[0], []⟩ ⟨[0, 0], []⟩ = [⟨0, 1⟩] by decide +kernel, show kernE ⟨[0, 0], []⟩ ⟨[0], []⟩ ⟨[0, 0], []⟩ = [] by decide +kernel, show validM ⟨[0, 0], []⟩ ⟨[0], []⟩ ⟨[0, 0], []⟩ = 0 by decide +kernel] at r3
  have r0 := he
  unfold K_l11_example at r0
  simp only [csD, exCs, gD, mD, gA, mA] at r1 r2 r3
  simp (config := { maxSteps := 1000000 }) (disch := first | omega | (simp only [go_sem]; omega)) only [go_sem, ↓reduceIte]
  refine call_by r0 ?_
  simp (config := { maxSteps := 1000000 }) (disch := first | omega | (simp only [go_sem]; omega)) only [go_sem, ↓reduceIte]
  refine call_by r1 ?_
  simp (config := { maxSteps := 1000000 }) (disch := first | omega | (simp only [go_sem]; omega)) only [go_sem, ↓reduceIte]
  refine call_by r2 ?_
  simp (config := { maxSteps := 1000000 }) (disch := first | omega | (simp only [go_sem]; omega)) only [go_sem, ↓reduceIte]
  refine call_by r3 ?_
  simp (config := { maxSteps := 1000000 }) (disch := first | omega | (simp only [go_sem]; omega)) only [go_sem, ↓reduceIte, Int.cast_ofNat_Int, eq_self]
  refine call_by (hq [0, 0, 1, 1] [0, 0, 1, 1] (by decide)) ?_
  simp (config := { maxSteps := 1000000 }) (disch := first | omega | (simp only [go_sem]; omega)) only [go_sem, ↓reduceIte]
  refine call_by (hq [0, 1, 0, 1] [0, 1, 0, 1] (by decide)) ?_
  simp (config := { maxSteps := 1000000 }) (disch := first | omega | (simp only [go_sem]; omega)) only [go_sem, ↓reduceIte]
  refine call_by (hq [2] [2] (by decide)) ?_
  simp (config := { maxSteps := 1000000 }) (disch := first | omega | (simp only [go_sem]; omega)) only [go_sem, ↓reduceIte]
  refine call_by (hp [⟨0, 1⟩] [⟨0, 1⟩] (by decide)) ?_
  simp (config := { maxSteps := 1000000 }) (disch := first | omega | (simp only [go_sem]; omega)) only [go_sem, ↓reduceIte]
  try simp
end
end Go.Am
