/- Morphisms: validity, comparison, composition. -/
import Derived.Test.YtoeomfoohdheoaaSkA
namespace Go.Am
open Go
set_option linter.unusedVariables false
set_option linter.unusedSimpArgs false
/- morphism.Valid -/
def c_morphism_Valid_r0 (F : String → Nat) : List LI := [⟨some 3, .bx (.t 0), none⟩,
  ⟨some 4, .bx (.t 1), none⟩,
  ⟨some 5, .bx (.t 2), none⟩,
  ⟨some 6, .mov (.k (.int .i64 (0))), none⟩]
def c_morphism_Valid_r1 (F : String → Nat) : List LI := [⟨some 15, .load true 2 (.t 3), none⟩,
  ⟨some 16, .call (F "graph.Valid") [.t 15] [], none⟩,
  ⟨some 7, .mov (.t 16), none⟩]
def c_morphism_Valid_r2 (F : String → Nat) : List LI := [⟨some 17, .mov (.t 7), none⟩,
  ⟨some 18, .bin .neq (.t 17) (.k (.int .i64 (0))), none⟩]
def c_morphism_Valid_r3 (F : String → Nat) : List LI := [⟨some 19, .mov (.t 7), none⟩,
  ⟨some 6, .mov (.t 19), none⟩]
def c_morphism_Valid_r4 (F : String → Nat) : List LI := [⟨some 20, .load true 2 (.t 4), none⟩,
  ⟨some 21, .call (F "graph.Valid") [.t 20] [], none⟩,
  ⟨some 8, .mov (.t 21), none⟩]
def c_morphism_Valid_r5 (F : String → Nat) : List LI := [⟨some 22, .mov (.t 8), none⟩,
  ⟨some 23, .bin .neq (.t 22) (.k (.int .i64 (0))), none⟩]
def c_morphism_Valid_r6 (F : String → Nat) : List LI := [⟨some 24, .mov (.t 8), none⟩,
  ⟨some 6, .mov (.t 24), none⟩]
def c_morphism_Valid_r7 (F : String → Nat) : List LI := [⟨some 25, .fad 0 (.t 5), none⟩,
  ⟨some 26, .load false 1 (.t 25), none⟩,
  ⟨some 27, .len (.t 26), none⟩,
  ⟨some 28, .fad 0 (.t 3), none⟩,
  ⟨some 29, .load false 1 (.t 28), none⟩,
  ⟨some 30, .len (.t 29), none⟩,
  ⟨some 31, .bin .neq (.t 27) (.t 30), none⟩,
  ⟨some 32, .mov (.t 31), none⟩,
  ⟨some 33, .fad 1 (.t 5), some (32, false)⟩,
  ⟨some 34, .load false 1 (.t 33), some (32, false)⟩,
  ⟨some 35, .len (.t 34), some (32, false)⟩,
  ⟨some 36, .fad 1 (.t 3), some (32, false)⟩,
  ⟨some 37, .load false 1 (.t 36), some (32, false)⟩,
  ⟨some 38, .len (.t 37), some (32, false)⟩,
  ⟨some 39, .bin .neq (.t 35) (.t 38), some (32, false)⟩,
  ⟨some 40, .pick (.t 32) (.k (.bool true)) (.t 39), none⟩]
def c_morphism_Valid_r8 (F : String → Nat) : List LI := [⟨some 6, .mov (.k (.int .i64 (20))), none⟩]
def c_morphism_Valid_r9 (F : String → Nat) : List LI := [⟨some 41, .fad 0 (.t 5), none⟩,
  ⟨some 42, .load false 1 (.t 41), none⟩,
  ⟨some 43, .len (.t 42), none⟩,
  ⟨some 44, .mov (.k (.int .i64 (0))), none⟩]
def c_morphism_Valid_r10 (F : String → Nat) : List LI := [⟨some 45, .bin .lss (.t 44) (.t 43), none⟩]
def c_morphism_Valid_r11 (F : String → Nat) : List LI := [⟨some 46, .mov (.t 44), none⟩,
  ⟨some 47, .iad 1 (.t 42) (.t 44), none⟩,
  ⟨some 48, .load false 1 (.t 47), none⟩,
  ⟨some 9, .mov (.t 46), none⟩,
  ⟨some 10, .mov (.t 48), none⟩]
def c_morphism_Valid_r12 (F : String → Nat) : List LI := [⟨some 49, .mov (.t 10), none⟩,
  ⟨some 50, .bin .lss (.t 49) (.k (.int .i64 (0))), none⟩,
  ⟨some 51, .mov (.t 50), none⟩,
  ⟨some 52, .mov (.t 10), some (51, false)⟩,
  ⟨some 53, .fad 0 (.t 4), some (51, false)⟩,
  ⟨some 54, .load false 1 (.t 53), some (51, false)⟩,
  ⟨some 55, .len (.t 54), some (51, false)⟩,
  ⟨some 56, .bin .geq (.t 52) (.t 55), some (51, false)⟩,
  ⟨some 57, .pick (.t 51) (.k (.bool true)) (.t 56), none⟩]
def c_morphism_Valid_r13 (F : String → Nat) : List LI := [⟨some 6, .mov (.k (.int .i64 (6))), none⟩]
def c_morphism_Valid_r14 (F : String → Nat) : List LI := [⟨some 58, .fad 0 (.t 4), none⟩,
  ⟨some 59, .load false 1 (.t 58), none⟩,
  ⟨some 60, .mov (.t 10), none⟩,
  ⟨some 61, .iad 1 (.t 59) (.t 60), none⟩,
  ⟨some 62, .load false 1 (.t 61), none⟩,
  ⟨some 63, .fad 0 (.t 3), none⟩,
  ⟨some 64, .load false 1 (.t 63), none⟩,
  ⟨some 65, .mov (.t 9), none⟩,
  ⟨some 66, .iad 1 (.t 64) (.t 65), none⟩,
  ⟨some 67, .load false 1 (.t 66), none⟩,
  ⟨some 68, .bin .neq (.t 62) (.t 67), none⟩]
def c_morphism_Valid_r15 (F : String → Nat) : List LI := [⟨some 6, .mov (.k (.int .i64 (13))), none⟩]
def c_morphism_Valid_r16 (F : String → Nat) : List LI := [⟨some 69, .bin .add (.t 44) (.k (.int .i64 (1))), none⟩,
  ⟨some 44, .mov (.t 69), none⟩]
def c_morphism_Valid_b17 (F : String → Nat) : LC := (.seq (.reg (c_morphism_Valid_r10 F) [3, 4, 5, 42, 43, 44, 45]) (.seq (.cond (.t 45) .skip (.exit 0)) (.seq (.block 1 (.seq (.reg (c_morphism_Valid_r11 F) [3, 4, 5, 9, 10, 42, 43, 44]) (.seq (.seq (.reg (c_morphism_Valid_r12 F) [3, 4, 5, 9, 10, 42, 43, 44, 57]) (.cond (.t 57) (.seq (.reg (c_morphism_Valid_r13 F) [6]) .ret) .skip)) (.seq (.dreg [] (c_morphism_Valid_r14 F) [3, 4, 5, 42, 43, 44, 68]) (.cond (.t 68) (.seq (.reg (c_morphism_Valid_r15 F) [6]) .ret) .skip))))) (.reg (c_morphism_Valid_r16 F) [3, 4, 5, 42, 43, 44]))))
def c_morphism_Valid_r18 (F : String → Nat) : List LI := [⟨some 70, .fad 1 (.t 5), none⟩,
  ⟨some 71, .load false 1 (.t 70), none⟩,
  ⟨some 72, .len (.t 71), none⟩,
  ⟨some 73, .mov (.k (.int .i64 (0))), none⟩]
def c_morphism_Valid_r19 (F : String → Nat) : List LI := [⟨some 74, .bin .lss (.t 73) (.t 72), none⟩]
def c_morphism_Valid_r20 (F : String → Nat) : List LI := [⟨some 75, .mov (.t 73), none⟩,
  ⟨some 76, .iad 1 (.t 71) (.t 73), none⟩,
  ⟨some 77, .load false 1 (.t 76), none⟩,
  ⟨some 11, .mov (.t 75), none⟩,
  ⟨some 12, .mov (.t 77), none⟩]
def c_morphism_Valid_r21 (F : String → Nat) : List LI := [⟨some 78, .mov (.t 12), none⟩,
  ⟨some 79, .bin .lss (.t 78) (.k (.int .i64 (0))), none⟩,
  ⟨some 80, .mov (.t 79), none⟩,
  ⟨some 81, .mov (.t 12), some (80, false)⟩,
  ⟨some 82, .fad 1 (.t 4), some (80, false)⟩,
  ⟨some 83, .load false 1 (.t 82), some (80, false)⟩,
  ⟨some 84, .len (.t 83), some (80, false)⟩,
  ⟨some 85, .bin .geq (.t 81) (.t 84), some (80, false)⟩,
  ⟨some 86, .pick (.t 80) (.k (.bool true)) (.t 85), none⟩]
def c_morphism_Valid_r22 (F : String → Nat) : List LI := [⟨some 6, .mov (.k (.int .i64 (6))), none⟩]
def c_morphism_Valid_r23 (F : String → Nat) : List LI := [⟨some 87, .fad 1 (.t 3), none⟩,
  ⟨some 88, .load false 1 (.t 87), none⟩,
  ⟨some 89, .mov (.t 11), none⟩,
  ⟨some 90, .iad 3 (.t 88) (.t 89), none⟩,
  ⟨some 91, .load true 3 (.t 90), none⟩,
  ⟨some 92, .fad 1 (.t 4), none⟩,
  ⟨some 93, .load false 1 (.t 92), none⟩,
  ⟨some 94, .mov (.t 12), none⟩,
  ⟨some 95, .iad 3 (.t 93) (.t 94), none⟩,
  ⟨some 96, .load true 3 (.t 95), none⟩,
  ⟨some 13, .alloc [.int .i64 (0), .int .i64 (0), .int .i64 (0)], none⟩,
  ⟨some 14, .alloc [.int .i64 (0), .int .i64 (0), .int .i64 (0)], none⟩,
  ⟨none, .store 3 (.t 13) (.t 91), none⟩,
  ⟨none, .store 3 (.t 14) (.t 96), none⟩]
def c_morphism_Valid_r24 (F : String → Nat) : List LI := [⟨some 97, .fad 0 (.t 13), none⟩,
  ⟨some 98, .load false 1 (.t 97), none⟩,
  ⟨some 99, .fad 0 (.t 14), none⟩,
  ⟨some 100, .load false 1 (.t 99), none⟩,
  ⟨some 101, .bin .neq (.t 98) (.t 100), none⟩]
def c_morphism_Valid_r25 (F : String → Nat) : List LI := [⟨some 6, .mov (.k (.int .i64 (13))), none⟩]
def c_morphism_Valid_r26 (F : String → Nat) : List LI := [⟨some 102, .fad 0 (.t 5), none⟩,
  ⟨some 103, .load false 1 (.t 102), none⟩,
  ⟨some 104, .fad 1 (.t 13), none⟩,
  ⟨some 105, .load false 1 (.t 104), none⟩,
  ⟨some 106, .iad 1 (.t 103) (.t 105), none⟩,
  ⟨some 107, .load false 1 (.t 106), none⟩,
  ⟨some 108, .fad 1 (.t 14), none⟩,
  ⟨some 109, .load false 1 (.t 108), none⟩,
  ⟨some 110, .bin .neq (.t 107) (.t 109), none⟩,
  ⟨some 111, .mov (.t 110), none⟩,
  ⟨some 112, .fad 0 (.t 5), some (111, false)⟩,
  ⟨some 113, .load false 1 (.t 112), some (111, false)⟩,
  ⟨some 114, .fad 2 (.t 13), some (111, false)⟩,
  ⟨some 115, .load false 1 (.t 114), some (111, false)⟩,
  ⟨some 116, .iad 1 (.t 113) (.t 115), some (111, false)⟩,
  ⟨some 117, .load false 1 (.t 116), some (111, false)⟩,
  ⟨some 118, .fad 2 (.t 14), some (111, false)⟩,
  ⟨some 119, .load false 1 (.t 118), some (111, false)⟩,
  ⟨some 120, .bin .neq (.t 117) (.t 119), some (111, false)⟩,
  ⟨some 121, .pick (.t 111) (.k (.bool true)) (.t 120), none⟩]
def c_morphism_Valid_r27 (F : String → Nat) : List LI := [⟨some 6, .mov (.k (.int .i64 (11))), none⟩]
def c_morphism_Valid_r28 (F : String → Nat) : List LI := [⟨some 122, .bin .add (.t 73) (.k (.int .i64 (1))), none⟩,
  ⟨some 73, .mov (.t 122), none⟩]
def c_morphism_Valid_b29 (F : String → Nat) : LC := (.seq (.reg (c_morphism_Valid_r19 F) [3, 4, 5, 71, 72, 73, 74]) (.seq (.cond (.t 74) .skip (.exit 2)) (.seq (.block 3 (.seq (.reg (c_morphism_Valid_r20 F) [3, 4, 5, 11, 12, 71, 72, 73]) (.seq (.seq (.reg (c_morphism_Valid_r21 F) [3, 4, 5, 11, 12, 71, 72, 73, 86]) (.cond (.t 86) (.seq (.reg (c_morphism_Valid_r22 F) [6]) .ret) .skip)) (.seq (.dreg [(6, none, [], true), (8, none, [], true), (9, none, [], true), (12, none, [6, 8, 9], false)] (c_morphism_Valid_r23 F) [3, 4, 5, 13, 14, 71, 72, 73]) (.seq (.seq (.reg (c_morphism_Valid_r24 F) [3, 4, 5, 13, 14, 71, 72, 73, 101]) (.cond (.t 101) (.seq (.reg (c_morphism_Valid_r25 F) [6]) .ret) .skip)) (.seq (.dreg [] (c_morphism_Valid_r26 F) [3, 4, 5, 71, 72, 73, 121]) (.cond (.t 121) (.seq (.reg (c_morphism_Valid_r27 F) [6]) .ret) .skip))))))) (.reg (c_morphism_Valid_r28 F) [3, 4, 5, 71, 72, 73]))))
def c_morphism_Valid_r30 (F : String → Nat) : List LI := [⟨some 6, .mov (.k (.int .i64 (0))), none⟩]
def c_morphism_Valid (F : String → Nat) : LC := (.seq (.reg (c_morphism_Valid_r0 F) [3, 4, 5]) (.seq (.seq (.reg (c_morphism_Valid_r1 F) [3, 4, 5, 7]) (.seq (.reg (c_morphism_Valid_r2 F) [3, 4, 5, 7, 18]) (.cond (.t 18) (.seq (.reg (c_morphism_Valid_r3 F) [6]) .ret) .skip))) (.seq (.seq (.reg (c_morphism_Valid_r4 F) [3, 4, 5, 8]) (.seq (.reg (c_morphism_Valid_r5 F) [3, 4, 5, 8, 23]) (.cond (.t 23) (.seq (.reg (c_morphism_Valid_r6 F) [6]) .ret) .skip))) (.seq (.seq (.reg (c_morphism_Valid_r7 F) [3, 4, 5, 40]) (.cond (.t 40) (.seq (.reg (c_morphism_Valid_r8 F) [6]) .ret) .skip)) (.seq (.seq (.reg (c_morphism_Valid_r9 F) [3, 4, 5, 42, 43, 44]) (.block 0 (.loop [3, 4, 5, 42, 43, 44] (c_morphism_Valid_b17 F)))) (.seq (.seq (.reg (c_morphism_Valid_r18 F) [3, 4, 5, 71, 72, 73]) (.block 2 (.loop [3, 4, 5, 71, 72, 73] (c_morphism_Valid_b29 F)))) (.seq (.reg (c_morphism_Valid_r30 F) [6]) .ret)))))))
def h_morphism_Valid : Hints := ⟨[], fun _ => [], tab [(0, [3, 4, 5]), (1, [3, 4, 5, 7]), (2, [3, 4, 5, 7, 18]), (3, [6]), (4, [3, 4, 5, 8]), (5, [3, 4, 5, 8, 23]), (6, [6]), (7, [3, 4, 5, 40]), (8, [6]), (9, [3, 4, 5, 42, 43, 44]), (10, [3, 4, 5, 42, 43, 44, 45]), (11, [3, 4, 5, 9, 10, 42, 43, 44]), (12, [3, 4, 5, 9, 10, 42, 43, 44, 57]), (13, [6]), (14, [3, 4, 5, 42, 43, 44, 68]), (15, [6]), (16, [3, 4, 5, 42, 43, 44]), (17, [3, 4, 5, 71, 72, 73]), (18, [3, 4, 5, 71, 72, 73, 74]), (19, [3, 4, 5, 11, 12, 71, 72, 73]), (20, [3, 4, 5, 11, 12, 71, 72, 73, 86]), (21, [6]), (22, [3, 4, 5, 13, 14, 71, 72, 73]), (23, [3, 4, 5, 13, 14, 71, 72, 73, 101]), (24, [6]), (25, [3, 4, 5, 71, 72, 73, 121]), (26, [6]), (27, [3, 4, 5, 71, 72, 73]), (28, [6])], tab [(10, [3, 4, 5, 42, 43, 44]), (18, [3, 4, 5, 71, 72, 73])]⟩

attribute [go_sem] c_morphism_Valid_r0 c_morphism_Valid_r1 c_morphism_Valid_r2 c_morphism_Valid_r3 c_morphism_Valid_r4 c_morphism_Valid_r5 c_morphism_Valid_r6 c_morphism_Valid_r7 c_morphism_Valid_r8 c_morphism_Valid_r9 c_morphism_Valid_r10 c_morphism_Valid_r11 c_morphism_Valid_r12 c_morphism_Valid_r13 c_morphism_Valid_r14 c_morphism_Valid_r15 c_morphism_Valid_r16 c_morphism_Valid_r18 c_morphism_Valid_r19 c_morphism_Valid_r20 c_morphism_Valid_r21 c_morphism_Valid_r22 c_morphism_Valid_r23 c_morphism_Valid_r24 c_morphism_Valid_r25 c_morphism_Valid_r26 c_morphism_Valid_r27 c_morphism_Valid_r28 c_morphism_Valid_r30 c_morphism_Valid
/-- What is wrong with images of nodes. -/
def nodeE (bn : List Int) : List Int → List Int → Int
  | k :: ms, t :: as => if 0 ≤ k ∧ k < bn.length then (if gt bn k = t then nodeE bn ms as else 13) else 6
  | _, _ => 0
/-- What is wrong with images of edges. -/
def edgeE (be : List E) (mn : List Int) : List Int → List E → Int
  | k :: ms, x :: as => if 0 ≤ k ∧ k < be.length then (if x.t = (gt be k).t then (if gt mn x.f = (gt be k).f ∧ gt mn x.o = (gt be k).o then edgeE be mn ms as else 11) else 13) else 6
  | _, _ => 0
def validM (a b : G) (m : Mo) : Int :=
  if validG a ≠ 0 then validG a else if validG b ≠ 0 then validG b else if m.n.length ≠ a.n.length ∨ m.e.length ≠ a.e.length then 20
  else if nodeE b.n m.n a.n ≠ 0 then nodeE b.n m.n a.n else edgeE b.e m.n m.e a.e
def thr (l by_ : List Int) : List Int := l.map fun x => gt by_ x
def thenM (m n : Mo) : Mo := ⟨thr m.n n.n, thr m.e n.e⟩
section
variable (P : Program) (F : String → Nat)
def K_morphism_Valid : Prop := ∀ (a b : G) (m : Mo), FC P (F "morphism.Valid") [gD a, gD b, mD m] (.int .i64 (validM a b m)) []
end
section
variable {P : Program} {F : String → Nat} {α : Type}
theorem nodeE_step {bn ms as : List Int} {i : Nat} (h1 : i < ms.length) (h2 : i < as.length) : nodeE bn (ms.drop i) (as.drop i) =
    if 0 ≤ gt ms i ∧ gt ms i < bn.length then (if gt bn (gt ms i) = gt as i then nodeE bn (ms.drop (i + 1)) (as.drop (i + 1)) else 13) else 6 := by
  rw [drop_gt h1, drop_gt h2, nodeE]
theorem edgeE_step {be : List E} {mn ms : List Int} {as : List E} {i : Nat} (h1 : i < ms.length) (h2 : i < as.length) : edgeE be mn (ms.drop i) (as.drop i) =
    if 0 ≤ gt ms i ∧ gt ms i < be.length then (if (gt as i).t = (gt be (gt ms i)).t then (if gt mn (gt as i).f = (gt be (gt ms i)).f ∧ gt mn (gt as i).o = (gt be (gt ms i)).o then edgeE be mn (ms.drop (i + 1)) (as.drop (i + 1)) else 11) else 13) else 6 := by
  rw [drop_gt h1, drop_gt h2, edgeE]
theorem nodeE_end {bn ms as : List Int} {i : Nat} (h1 : ms.length ≤ i) : nodeE bn (ms.drop i) (as.drop i) = 0 := by
  rw [List.drop_of_length_le h1]; rfl
theorem edgeE_end {be : List E} {mn ms : List Int} {as : List E} {i : Nat} (h1 : ms.length ≤ i) : edgeE be mn (ms.drop i) (as.drop i) = 0 := by
  rw [List.drop_of_length_le h1]; cases as.drop i <;> rfl
theorem w_morphism_Valid (hv : K_graph_Valid P F) (a b : G) (m : Mo) : W P (c_morphism_Valid F) (Done [.t 6] [] (.int .i64 (validM a b m)) []) (init [gD a, gD b, mD m]) := by
  refine W_of ?_
  have rva := hv a
  have rvb := hv b
  have sva := @valid_spec a
  have svb := @valid_spec b
  have hvm : validM a b m = if validG a ≠ 0 then validG a else if validG b ≠ 0 then validG b else if m.n.length ≠ a.n.length ∨ m.e.length ≠ a.e.length then 20
    else if nodeE b.n m.n a.n ≠ 0 then nodeE b.n m.n a.n else edgeE b.e m.n m.e a.e := rfl
  rw [hvm]
  generalize validG a = va at *
  generalize validG b = vb at *
  clear hvm
  obtain ⟨an, ae⟩ := a
  obtain ⟨bn, be⟩ := b
  obtain ⟨mn, me⟩ := m
  simp only [gD] at rva rvb
  simp only at sva svb
  simp (config := { maxSteps := 1000000 }) (disch := first | omega | (simp only [go_sem]; omega)) only [go_sem, ↓reduceIte, gD, mD]
  refine call_by rva ?_
  simp (config := { maxSteps := 1000000 }) (disch := first | omega | (simp only [go_sem]; omega)) only [go_sem, ↓reduceIte]
  refine bran_ndec (fun c1 => ?_) (fun c1 => ?_)
  · simp (config := { maxSteps := 1000000 }) (disch := first | omega | (simp only [go_sem]; omega)) only [go_sem, ↓reduceIte]
  · subst c1
    obtain ⟨a1, a2, _, a4⟩ := sva rfl
    simp (config := { maxSteps := 1000000 }) (disch := first | omega | (simp only [go_sem]; omega)) only [go_sem, ↓reduceIte]
    refine call_by rvb ?_
    simp (config := { maxSteps := 1000000 }) (disch := first | omega | (simp only [go_sem]; omega)) only [go_sem, ↓reduceIte]
    refine bran_ndec (fun c2 => ?_) (fun c2 => ?_)
    · simp (config := { maxSteps := 1000000 }) (disch := first | omega | (simp only [go_sem]; omega)) only [go_sem, ↓reduceIte]
      simp [c2]
    · subst c2
      obtain ⟨b1, b2, _, b4⟩ := svb rfl
      simp (config := { maxSteps := 1000000 }) (disch := first | omega | (simp only [go_sem]; omega)) only [go_sem, ↓reduceIte]
      refine bran_ndec (fun c3 => ?_) (fun c3 => ?_)
      · simp (config := { maxSteps := 1000000 }) (disch := first | omega | (simp only [go_sem]; omega)) only [go_sem, ↓reduceIte, c3]
        rw [if_neg (by simp), if_neg (by simp)]
      · simp (config := { maxSteps := 1000000 }) (disch := first | omega | (simp only [go_sem]; omega)) only [go_sem, ↓reduceIte, c3]
        refine bran_ndec (fun c4 => ?_) (fun c4 => ?_)
        · simp (config := { maxSteps := 1000000 }) (disch := first | omega | (simp only [go_sem]; omega)) only [go_sem, ↓reduceIte, c3, c4]
          rw [if_neg (by simp), if_neg (by simp)]
        · have d3 : mn.length = an.length := by omega
          have d4 : me.length = ae.length := by omega
          rw [if_neg (by simp), if_neg (by simp), if_neg (by simp only; omega)]
          clear c3 c4
          simp (config := { maxSteps := 1000000 }) (disch := first | omega | (simp only [go_sem]; omega)) only [go_sem, ↓reduceIte, d3, d4]
          refine W_loop (fun i : Nat => ⟨[(3, .pt 0 0), (4, .pt 1 0), (5, .pt 2 0), (42, .lst 1 (ints mn)), (43, .int .i64 an.length), (44, .int .i64 i)],
            [(0, .box [.lst 1 (ints an), .lst 3 (eds ae)]), (1, .box [.lst 1 (ints bn), .lst 3 (eds be)]), (2, .box [.lst 1 (ints mn), .lst 1 (ints me)])], 3⟩)
            (fun i => i ≤ mn.length ∧ nodeE bn mn an = nodeE bn (mn.drop i) (an.drop i)) (fun i => mn.length - i) 0 ?_ ?_ ?_
          · simp (config := { maxSteps := 1000000 }) (disch := first | omega | (simp only [go_sem]; omega)) only [go_sem, ↓reduceIte, d3]
            rfl
          · simp
          · rintro i ⟨hi, hn⟩
            simp (config := { maxSteps := 1000000 }) (disch := first | omega | (simp only [go_sem]; omega)) only [go_sem, ↓reduceIte, c_morphism_Valid_b17]
            refine bran_dec (fun c5 => ?_) (fun c5 => ?_)
            · have hs := nodeE_step (bn := bn) (ms := mn) (as := an) (i := i) (by omega) (by omega)
              simp (config := { maxSteps := 1000000 }) (disch := first | omega | (simp only [go_sem]; omega)) only [go_sem, ↓reduceIte]
              refine bran_dec (fun c6 => ?_) (fun c6 => ?_)
              · simp (config := { maxSteps := 1000000 }) (disch := first | omega | (simp only [go_sem]; omega)) only [go_sem, ↓reduceIte, c6]
                rw [if_neg (show ¬ (0 ≤ gt mn i ∧ gt mn i < bn.length) by omega)] at hs
                rw [hn, hs]
                try simp
              · simp (config := { maxSteps := 1000000 }) (disch := first | omega | (simp only [go_sem]; omega)) only [go_sem, ↓reduceIte, c6]
                refine bran_dec (fun c7 => ?_) (fun c7 => ?_)
                · simp (config := { maxSteps := 1000000 }) (disch := first | omega | (simp only [go_sem]; omega)) only [go_sem, ↓reduceIte]
                  rw [if_neg (show ¬ (0 ≤ gt mn i ∧ gt mn i < bn.length) by omega)] at hs
                  rw [hn, hs]
                  try simp
                · rw [if_pos (show (0 ≤ gt mn i ∧ gt mn i < bn.length) by omega)] at hs
                  simp (config := { maxSteps := 1000000 }) (disch := first | omega | (simp only [go_sem]; omega)) only [go_sem, ↓reduceIte]
                  refine bran_ndec (fun c8 => ?_) (fun c8 => ?_)
                  · rw [if_neg c8] at hs
                    simp (config := { maxSteps := 1000000 }) (disch := first | omega | (simp only [go_sem]; omega)) only [go_sem, ↓reduceIte]
                    rw [hn, hs]
                    try simp
                  · rw [if_pos c8] at hs
                    simp (config := { maxSteps := 1000000 }) (disch := first | omega | (simp only [go_sem]; omega)) only [go_sem, ↓reduceIte]
                    exact ⟨i + 1, by simp, ⟨by omega, by rw [hn, hs]⟩, by omega⟩
            · rw [nodeE_end (by omega)] at hn
              simp (config := { maxSteps := 1000000 }) (disch := first | omega | (simp only [go_sem]; omega)) only [go_sem, ↓reduceIte]
              refine W_loop (fun i : Nat => ⟨[(3, .pt 0 0), (4, .pt 1 0), (5, .pt 2 0), (71, .lst 1 (ints me)), (72, .int .i64 ae.length), (73, .int .i64 i)],
                [(0, .box [.lst 1 (ints an), .lst 3 (eds ae)]), (1, .box [.lst 1 (ints bn), .lst 3 (eds be)]), (2, .box [.lst 1 (ints mn), .lst 1 (ints me)])], 3⟩)
                (fun i => i ≤ me.length ∧ edgeE be mn me ae = edgeE be mn (me.drop i) (ae.drop i)) (fun i => me.length - i) 0 ?_ ?_ ?_
              · simp (config := { maxSteps := 1000000 }) (disch := first | omega | (simp only [go_sem]; omega)) only [go_sem, ↓reduceIte, d4]
                rfl
              · simp
              · rintro i ⟨hi, he⟩
                simp (config := { maxSteps := 1000000 }) (disch := first | omega | (simp only [go_sem]; omega)) only [go_sem, ↓reduceIte, c_morphism_Valid_b29]
                refine bran_dec (fun c5 => ?_) (fun c5 => ?_)
                · have hs := edgeE_step (be := be) (mn := mn) (ms := me) (as := ae) (i := i) (by omega) (by omega)
                  have hae := fits_spec (a4 _ (gt_mem (l := ae) (j := i) (by omega) (by omega)))
                  simp (config := { maxSteps := 1000000 }) (disch := first | omega | (simp only [go_sem]; omega)) only [go_sem, ↓reduceIte]
                  refine bran_dec (fun c6 => ?_) (fun c6 => ?_)
                  · simp (config := { maxSteps := 1000000 }) (disch := first | omega | (simp only [go_sem]; omega)) only [go_sem, ↓reduceIte, c6]
                    rw [if_neg (show ¬ (0 ≤ gt me i ∧ gt me i < be.length) by omega)] at hs
                    rw [hn, he, hs]
                    simp
                  · simp (config := { maxSteps := 1000000 }) (disch := first | omega | (simp only [go_sem]; omega)) only [go_sem, ↓reduceIte, c6]
                    refine bran_dec (fun c7 => ?_) (fun c7 => ?_)
                    · simp (config := { maxSteps := 1000000 }) (disch := first | omega | (simp only [go_sem]; omega)) only [go_sem, ↓reduceIte]
                      rw [if_neg (show ¬ (0 ≤ gt me i ∧ gt me i < be.length) by omega)] at hs
                      rw [hn, he, hs]
                      simp
                    · rw [if_pos (show (0 ≤ gt me i ∧ gt me i < be.length) by omega)] at hs
                      simp (config := { maxSteps := 1000000 }) (disch := first | omega | (simp only [go_sem]; omega)) only [go_sem, ↓reduceIte]
                      refine bran_ndec (fun c8 => ?_) (fun c8 => ?_)
                      · rw [if_neg c8] at hs
                        simp (config := { maxSteps := 1000000 }) (disch := first | omega | (simp only [go_sem]; omega)) only [go_sem, ↓reduceIte]
                        rw [hn, he, hs]
                        simp
                      · rw [if_pos c8] at hs
                        simp (config := { maxSteps := 1000000 }) (disch := first | omega | (simp only [go_sem]; omega)) only [go_sem, ↓reduceIte]
                        refine bran_ndec (fun c9 => ?_) (fun c9 => ?_)
                        · rw [if_neg (fun h => c9 h.1)] at hs
                          simp (config := { maxSteps := 1000000 }) (disch := first | omega | (simp only [go_sem]; omega)) only [go_sem, ↓reduceIte, c9]
                          rw [hn, he, hs]
                          simp
                        · simp (config := { maxSteps := 1000000 }) (disch := first | omega | (simp only [go_sem]; omega)) only [go_sem, ↓reduceIte, c9]
                          refine bran_ndec (fun d1 => ?_) (fun d1 => ?_)
                          · rw [if_neg (fun h => d1 h.2)] at hs
                            simp (config := { maxSteps := 1000000 }) (disch := first | omega | (simp only [go_sem]; omega)) only [go_sem, ↓reduceIte]
                            rw [hn, he, hs]
                            simp
                          · rw [if_pos ⟨c9, d1⟩] at hs
                            simp (config := { maxSteps := 1000000 }) (disch := first | omega | (simp only [go_sem]; omega)) only [go_sem, ↓reduceIte]
                            exact ⟨i + 1, by simp, ⟨by omega, by rw [he, hs]⟩, by omega⟩
                · rw [edgeE_end (by omega)] at he
                  simp (config := { maxSteps := 1000000 }) (disch := first | omega | (simp only [go_sem]; omega)) only [go_sem, ↓reduceIte]
                  rw [hn, he]
                  simp
theorem thr_len (l b : List Int) : (thr l b).length = l.length := by simp [thr]
theorem thr_step {l b : List Int} {i : Nat} (h : i < l.length) : thr (l.take (i + 1)) b = thr (l.take i) b ++ [gt b (gt l i)] := by
  rw [take_gt h]; simp [thr]
end
end Go.Am
