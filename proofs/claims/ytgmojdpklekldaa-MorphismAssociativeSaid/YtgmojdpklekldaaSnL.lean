/- The law: composition is associative, identities are neutral. -/
import Derived.Test.YtgmojdpklekldaaSnK
import Derived.Test.YtgmojdpklekldaaSoE
namespace Go.Am
open Go
set_option linter.unusedVariables false
set_option linter.unusedSimpArgs false
attribute [local irreducible] W
/- l06.MorphismAssociative -/
def c_l06_MorphismAssociative_r0 (F : String → Nat) : List LI := [⟨some 3, .bx (.t 0), none⟩,
  ⟨some 6, .mov (.k (.bool false)), none⟩]
def c_l06_MorphismAssociative_r1 (F : String → Nat) : List LI := [⟨some 24, .call (F "l06.awake") [] [], none⟩,
  ⟨some 25, .not (.t 24), none⟩,
  ⟨some 26, .mov (.t 25), none⟩,
  ⟨some 27, .mov (.t 1), some (26, false)⟩,
  ⟨some 28, .len (.t 27), some (26, false)⟩,
  ⟨some 29, .bin .gtr (.t 28) (.k (.int .i64 (20))), some (26, false)⟩,
  ⟨some 30, .pick (.t 26) (.k (.bool true)) (.t 29), none⟩,
  ⟨some 31, .mov (.t 30), none⟩,
  ⟨some 32, .mov (.t 2), some (31, false)⟩,
  ⟨some 33, .len (.t 32), some (31, false)⟩,
  ⟨some 34, .bin .gtr (.t 33) (.k (.int .i64 (20))), some (31, false)⟩,
  ⟨some 35, .pick (.t 31) (.k (.bool true)) (.t 34), none⟩]
def c_l06_MorphismAssociative_r2 (F : String → Nat) : List LI := [⟨some 36, .call (F "l06.awake") [] [], none⟩,
  ⟨some 6, .mov (.t 36), none⟩]
def c_l06_MorphismAssociative_r3 (F : String → Nat) : List LI := [⟨some 38, .load true 2 (.t 3), none⟩,
  ⟨some 39, .mov (.t 1), none⟩,
  ⟨some 40, .mov (.t 2), none⟩,
  ⟨some 41, .call (F "l06.chain") [.t 38, .t 39, .t 40] [], none⟩,
  ⟨some 37, .mov (.t 41), none⟩,
  ⟨some 42, .ext (.t 37) 0, none⟩,
  ⟨some 43, .ext (.t 37) 1, none⟩,
  ⟨some 44, .ext (.t 37) 2, none⟩,
  ⟨some 7, .alloc [.nl 1, .nl 3], none⟩,
  ⟨some 8, .alloc [.nl 1, .nl 3, .nl 1, .nl 1], none⟩,
  ⟨some 9, .alloc [.nl 1, .nl 3, .nl 1, .nl 1], none⟩,
  ⟨none, .store 2 (.t 7) (.t 42), none⟩,
  ⟨none, .store 4 (.t 8) (.t 43), none⟩,
  ⟨none, .store 4 (.t 9) (.t 44), none⟩]
def c_l06_MorphismAssociative_r4 (F : String → Nat) : List LI := [⟨some 46, .fad 0 (.t 9), none⟩,
  ⟨some 47, .load true 2 (.t 46), none⟩,
  ⟨some 48, .mov (.t 2), none⟩,
  ⟨some 49, .call (F "slices.Clone.uint8") [.t 48] [], none⟩,
  ⟨some 50, .mov (.t 1), none⟩,
  ⟨some 51, .app 1 1 (.t 49) (.t 50), none⟩,
  ⟨some 52, .call (F "r06.Image") [.t 47, .t 51] [], none⟩,
  ⟨some 45, .mov (.t 52), none⟩,
  ⟨some 53, .ext (.t 45) 0, none⟩,
  ⟨some 54, .ext (.t 45) 1, none⟩,
  ⟨some 10, .alloc [.nl 1, .nl 3], none⟩,
  ⟨some 11, .alloc [.nl 1, .nl 1], none⟩,
  ⟨none, .store 2 (.t 10) (.t 53), none⟩,
  ⟨none, .store 2 (.t 11) (.t 54), none⟩]
def c_l06_MorphismAssociative_r5 (F : String → Nat) : List LI := [⟨some 56, .load true 2 (.t 7), none⟩,
  ⟨some 57, .fad 0 (.t 8), none⟩,
  ⟨some 58, .load true 2 (.t 57), none⟩,
  ⟨some 59, .fad 0 (.t 9), none⟩,
  ⟨some 60, .load true 2 (.t 59), none⟩,
  ⟨some 61, .fad 2 (.t 8), none⟩,
  ⟨some 62, .load true 2 (.t 61), none⟩,
  ⟨some 63, .fad 2 (.t 9), none⟩,
  ⟨some 64, .load true 2 (.t 63), none⟩,
  ⟨some 65, .call (F "morphism.Compose") [.t 56, .t 58, .t 60, .t 62, .t 64] [], none⟩,
  ⟨some 55, .mov (.t 65), none⟩,
  ⟨some 66, .ext (.t 55) 0, none⟩,
  ⟨some 67, .ext (.t 55) 1, none⟩,
  ⟨some 12, .alloc [.nl 1, .nl 1], none⟩,
  ⟨none, .store 2 (.t 12) (.t 66), none⟩,
  ⟨some 13, .mov (.t 67), none⟩]
def c_l06_MorphismAssociative_r6 (F : String → Nat) : List LI := [⟨some 69, .fad 0 (.t 8), none⟩,
  ⟨some 70, .load true 2 (.t 69), none⟩,
  ⟨some 71, .fad 0 (.t 9), none⟩,
  ⟨some 72, .load true 2 (.t 71), none⟩,
  ⟨some 73, .load true 2 (.t 10), none⟩,
  ⟨some 74, .fad 2 (.t 9), none⟩,
  ⟨some 75, .load true 2 (.t 74), none⟩,
  ⟨some 76, .load true 2 (.t 11), none⟩,
  ⟨some 77, .call (F "morphism.Compose") [.t 70, .t 72, .t 73, .t 75, .t 76] [], none⟩,
  ⟨some 68, .mov (.t 77), none⟩,
  ⟨some 78, .ext (.t 68) 0, none⟩,
  ⟨some 79, .ext (.t 68) 1, none⟩,
  ⟨some 14, .alloc [.nl 1, .nl 1], none⟩,
  ⟨none, .store 2 (.t 14) (.t 78), none⟩,
  ⟨some 15, .mov (.t 79), none⟩]
def c_l06_MorphismAssociative_r7 (F : String → Nat) : List LI := [⟨some 81, .load true 2 (.t 7), none⟩,
  ⟨some 82, .fad 0 (.t 9), none⟩,
  ⟨some 83, .load true 2 (.t 82), none⟩,
  ⟨some 84, .load true 2 (.t 10), none⟩,
  ⟨some 85, .load true 2 (.t 12), none⟩,
  ⟨some 86, .load true 2 (.t 11), none⟩,
  ⟨some 87, .call (F "morphism.Compose") [.t 81, .t 83, .t 84, .t 85, .t 86] [], none⟩,
  ⟨some 80, .mov (.t 87), none⟩,
  ⟨some 88, .ext (.t 80) 0, none⟩,
  ⟨some 89, .ext (.t 80) 1, none⟩,
  ⟨some 16, .alloc [.nl 1, .nl 1], none⟩,
  ⟨none, .store 2 (.t 16) (.t 88), none⟩,
  ⟨some 17, .mov (.t 89), none⟩]
def c_l06_MorphismAssociative_r8 (F : String → Nat) : List LI := [⟨some 91, .load true 2 (.t 7), none⟩,
  ⟨some 92, .fad 0 (.t 8), none⟩,
  ⟨some 93, .load true 2 (.t 92), none⟩,
  ⟨some 94, .load true 2 (.t 10), none⟩,
  ⟨some 95, .fad 2 (.t 8), none⟩,
  ⟨some 96, .load true 2 (.t 95), none⟩,
  ⟨some 97, .load true 2 (.t 14), none⟩,
  ⟨some 98, .call (F "morphism.Compose") [.t 91, .t 93, .t 94, .t 96, .t 97] [], none⟩,
  ⟨some 90, .mov (.t 98), none⟩,
  ⟨some 99, .ext (.t 90) 0, none⟩,
  ⟨some 100, .ext (.t 90) 1, none⟩,
  ⟨some 18, .alloc [.nl 1, .nl 1], none⟩,
  ⟨none, .store 2 (.t 18) (.t 99), none⟩,
  ⟨some 19, .mov (.t 100), none⟩]
def c_l06_MorphismAssociative_r9 (F : String → Nat) : List LI := [⟨some 102, .load true 2 (.t 7), none⟩,
  ⟨some 103, .call (F "morphism.Identity") [.t 102] [], none⟩,
  ⟨some 101, .mov (.t 103), none⟩,
  ⟨some 104, .ext (.t 101) 0, none⟩,
  ⟨some 105, .ext (.t 101) 1, none⟩,
  ⟨some 20, .alloc [.nl 1, .nl 1], none⟩,
  ⟨none, .store 2 (.t 20) (.t 104), none⟩,
  ⟨some 21, .mov (.t 105), none⟩]
def c_l06_MorphismAssociative_r10 (F : String → Nat) : List LI := [⟨some 107, .load true 2 (.t 7), none⟩,
  ⟨some 108, .load true 2 (.t 7), none⟩,
  ⟨some 109, .fad 0 (.t 8), none⟩,
  ⟨some 110, .load true 2 (.t 109), none⟩,
  ⟨some 111, .load true 2 (.t 20), none⟩,
  ⟨some 112, .fad 2 (.t 8), none⟩,
  ⟨some 113, .load true 2 (.t 112), none⟩,
  ⟨some 114, .call (F "morphism.Compose") [.t 107, .t 108, .t 110, .t 111, .t 113] [], none⟩,
  ⟨some 106, .mov (.t 114), none⟩,
  ⟨some 115, .ext (.t 106) 0, none⟩,
  ⟨some 116, .ext (.t 106) 1, none⟩,
  ⟨some 22, .alloc [.nl 1, .nl 1], none⟩,
  ⟨none, .store 2 (.t 22) (.t 115), none⟩,
  ⟨some 23, .mov (.t 116), none⟩]
def c_l06_MorphismAssociative_r11 (F : String → Nat) : List LI := [⟨some 117, .mov (.t 13), none⟩,
  ⟨some 118, .bin .neq (.t 117) (.k (.int .i64 (0))), none⟩,
  ⟨some 119, .mov (.t 118), none⟩,
  ⟨some 120, .mov (.t 15), some (119, false)⟩,
  ⟨some 121, .bin .neq (.t 120) (.k (.int .i64 (0))), some (119, false)⟩,
  ⟨some 122, .pick (.t 119) (.k (.bool true)) (.t 121), none⟩,
  ⟨some 123, .mov (.t 122), none⟩,
  ⟨some 124, .mov (.t 17), some (123, false)⟩,
  ⟨some 125, .bin .neq (.t 124) (.k (.int .i64 (0))), some (123, false)⟩,
  ⟨some 126, .pick (.t 123) (.k (.bool true)) (.t 125), none⟩,
  ⟨some 127, .mov (.t 126), none⟩,
  ⟨some 128, .mov (.t 19), some (127, false)⟩,
  ⟨some 129, .bin .neq (.t 128) (.k (.int .i64 (0))), some (127, false)⟩,
  ⟨some 130, .pick (.t 127) (.k (.bool true)) (.t 129), none⟩,
  ⟨some 131, .mov (.t 130), none⟩,
  ⟨some 132, .mov (.t 21), some (131, false)⟩,
  ⟨some 133, .bin .neq (.t 132) (.k (.int .i64 (0))), some (131, false)⟩,
  ⟨some 134, .pick (.t 131) (.k (.bool true)) (.t 133), none⟩,
  ⟨some 135, .mov (.t 134), none⟩,
  ⟨some 136, .mov (.t 23), some (135, false)⟩,
  ⟨some 137, .bin .neq (.t 136) (.k (.int .i64 (0))), some (135, false)⟩,
  ⟨some 138, .pick (.t 135) (.k (.bool true)) (.t 137), none⟩]
def c_l06_MorphismAssociative_r12 (F : String → Nat) : List LI := [⟨some 6, .mov (.k (.bool false)), none⟩]
def c_l06_MorphismAssociative_r13 (F : String → Nat) : List LI := [⟨some 139, .load true 2 (.t 16), none⟩,
  ⟨some 140, .load true 2 (.t 18), none⟩,
  ⟨some 141, .call (F "r06.Same") [.t 139, .t 140] [], none⟩,
  ⟨some 142, .mov (.t 141), none⟩,
  ⟨some 143, .load true 2 (.t 22), some (142, true)⟩,
  ⟨some 144, .fad 2 (.t 8), some (142, true)⟩,
  ⟨some 145, .load true 2 (.t 144), some (142, true)⟩,
  ⟨some 146, .call (F "r06.Same") [.t 143, .t 145] [], some (142, true)⟩,
  ⟨some 147, .pick (.t 142) (.t 146) (.k (.bool false)), none⟩,
  ⟨some 6, .mov (.t 147), none⟩]
def c_l06_MorphismAssociative (F : String → Nat) : LC := (.seq (.reg (c_l06_MorphismAssociative_r0 F) [1, 2, 3]) (.seq (.seq (.reg (c_l06_MorphismAssociative_r1 F) [1, 2, 3, 35]) (.cond (.t 35) (.seq (.reg (c_l06_MorphismAssociative_r2 F) [6]) .ret) .skip)) (.seq (.reg (c_l06_MorphismAssociative_r3 F) [1, 2, 7, 8, 9]) (.seq (.dreg [(1, none, [], true), (3, none, [1], false), (5, none, [1], false)] (c_l06_MorphismAssociative_r4 F) [7, 8, 9, 10, 11]) (.seq (.reg (c_l06_MorphismAssociative_r5 F) [7, 8, 9, 10, 11, 12, 13]) (.seq (.reg (c_l06_MorphismAssociative_r6 F) [7, 8, 9, 10, 11, 12, 13, 14, 15]) (.seq (.reg (c_l06_MorphismAssociative_r7 F) [7, 8, 10, 13, 14, 15, 16, 17]) (.seq (.reg (c_l06_MorphismAssociative_r8 F) [7, 8, 13, 15, 16, 17, 18, 19]) (.seq (.reg (c_l06_MorphismAssociative_r9 F) [7, 8, 13, 15, 16, 17, 18, 19, 20, 21]) (.seq (.reg (c_l06_MorphismAssociative_r10 F) [8, 13, 15, 16, 17, 18, 19, 21, 22, 23]) (.seq (.seq (.reg (c_l06_MorphismAssociative_r11 F) [8, 16, 18, 22, 138]) (.cond (.t 138) (.seq (.reg (c_l06_MorphismAssociative_r12 F) [6]) .ret) .skip)) (.seq (.reg (c_l06_MorphismAssociative_r13 F) [6]) .ret))))))))))))
def h_l06_MorphismAssociative : Hints := ⟨[], fun _ => [], tab [(0, [1, 2, 3]), (1, [1, 2, 3, 35]), (2, [6]), (3, [1, 2, 7, 8, 9]), (4, [7, 8, 9, 10, 11]), (5, [7, 8, 9, 10, 11, 12, 13]), (6, [7, 8, 9, 10, 11, 12, 13, 14, 15]), (7, [7, 8, 10, 13, 14, 15, 16, 17]), (8, [7, 8, 13, 15, 16, 17, 18, 19]), (9, [7, 8, 13, 15, 16, 17, 18, 19, 20, 21]), (10, [8, 13, 15, 16, 17, 18, 19, 21, 22, 23]), (11, [8, 16, 18, 22, 138]), (12, [6]), (13, [6])], tab []⟩

/- slices.Clone.uint8 -/
def c_slices_Clone_uint8_r0 (F : String → Nat) : List LI := [⟨some 2, .mov (.k (.nl 1)), none⟩]
def c_slices_Clone_uint8_r1 (F : String → Nat) : List LI := [⟨some 3, .mov (.t 0), none⟩,
  ⟨some 4, .isnil false (.t 3), none⟩]
def c_slices_Clone_uint8_r2 (F : String → Nat) : List LI := [⟨some 2, .mov (.k (.nl 1)), none⟩]
def c_slices_Clone_uint8_r3 (F : String → Nat) : List LI := [⟨some 5, .buildSl 1 1 (.int .u8 (0)) 0 [], none⟩,
  ⟨some 6, .mov (.t 0), none⟩,
  ⟨some 7, .app 1 1 (.t 5) (.t 6), none⟩,
  ⟨some 2, .mov (.t 7), none⟩]
def c_slices_Clone_uint8 (F : String → Nat) : LC := (.seq (.reg (c_slices_Clone_uint8_r0 F) [0]) (.seq (.seq (.reg (c_slices_Clone_uint8_r1 F) [0, 4]) (.cond (.t 4) (.seq (.reg (c_slices_Clone_uint8_r2 F) [2]) .ret) .skip)) (.seq (.reg (c_slices_Clone_uint8_r3 F) [2]) .ret)))
def h_slices_Clone_uint8 : Hints := ⟨[], fun _ => [], tab [(0, [0]), (1, [0, 4]), (2, [2]), (3, [2])], tab []⟩

attribute [go_sem] c_l06_MorphismAssociative_r0 c_l06_MorphismAssociative_r1 c_l06_MorphismAssociative_r2 c_l06_MorphismAssociative_r3 c_l06_MorphismAssociative_r4 c_l06_MorphismAssociative_r5 c_l06_MorphismAssociative_r6 c_l06_MorphismAssociative_r7 c_l06_MorphismAssociative_r8 c_l06_MorphismAssociative_r9 c_l06_MorphismAssociative_r10 c_l06_MorphismAssociative_r11 c_l06_MorphismAssociative_r12 c_l06_MorphismAssociative_r13 c_l06_MorphismAssociative c_slices_Clone_uint8_r0 c_slices_Clone_uint8_r1 c_slices_Clone_uint8_r2 c_slices_Clone_uint8_r3 c_slices_Clone_uint8
theorem u8s_app (l m : List Int) : u8s l ++ u8s m = u8s (l ++ m) := by simp [u8s]
theorem u8s_nil : u8s [] = [] := rfl
attribute [go_sem] u8s_app
section
variable (P : Program) (F : String → Nat)
def K_slices_Clone_uint8 : Prop := ∀ l : List Int, l.length ≤ 10000000000000 → FC P (F "slices.Clone.uint8") [.lst 1 (u8s l)] (.arr 1 (u8s l)) []
def K_l06_MorphismAssociative : Prop := ∀ (x : Dr) (l k : List Int), x.ok → x.n.length ≤ maxL → x.e.length ≤ maxL → (∀ v ∈ l, Byte v) → l.length ≤ maxL → (∀ v ∈ k, Byte v) → k.length ≤ maxL → FC P (F "l06.MorphismAssociative") [drD x, .lst 1 (u8s l), .lst 1 (u8s k)] (.bool true) []
end
section
variable {P : Program} {F : String → Nat} {α : Type}
theorem w_slices_Clone_uint8 (l : List Int) (hl : l.length ≤ 10000000000000) : W P (c_slices_Clone_uint8 F) (Done [.t 2] [] (.arr 1 (u8s l)) []) (init [.lst 1 (u8s l)]) := by
  refine W_of ?_
  simp (config := { maxSteps := 1000000 }) (disch := first | omega | (simp only [go_sem]; omega)) only [go_sem, ↓reduceIte]
  refine nil_by (fun h => ?_) (fun _ => ?_)
  · have : l = [] := by simpa [u8s] using h
    subst this
    simp (config := { maxSteps := 1000000 }) (disch := first | omega | (simp only [go_sem]; omega)) only [go_sem, ↓reduceIte, u8s_nil]
  · simp (config := { maxSteps := 1000000 }) (disch := first | omega | (simp only [go_sem]; omega)) only [go_sem, ↓reduceIte]
theorem id_then {a b : G} {m : Mo} (hm : MOk a b m) : thenM (idM a) m = m := by
  have l1 := hm.ln
  have l2 := hm.le
  refine mo_ext (list_ext_gt ?_ fun i hi => ?_) (list_ext_gt ?_ fun i hi => ?_)
  · simp only [thenM, thr_len, idM, nums_len]; omega
  · simp only [thenM, thr_len, idM, nums_len] at hi ⊢
    rw [thr_gt (by rw [nums_len]; exact hi), nums_gt hi]
  · simp only [thenM, thr_len, idM, nums_len]; omega
  · simp only [thenM, thr_len, idM, nums_len] at hi ⊢
    rw [thr_gt (by rw [nums_len]; exact hi), nums_gt hi]
set_option maxRecDepth 100000 in
set_option maxHeartbeats 8000000 in
theorem w_l06_MorphismAssociative (hw : K_l06_awake P F) (hch : K_l06_chain P F) (hcl : K_slices_Clone_uint8 P F) (him : K_r06_Image P F) (hco : K_morphism_Compose P F) (hid : K_morphism_Identity P F) (hsa : K_r06_Same P F) (x : Dr) (l k : List Int) (hx : x.ok) (x1 : x.n.length ≤ maxL) (x2 : x.e.length ≤ maxL) (l2 : ∀ v ∈ l, Byte v) (l1 : l.length ≤ maxL) (k2 : ∀ v ∈ k, Byte v) (k1 : k.length ≤ maxL) :
    W P (c_l06_MorphismAssociative F) (Done [.t 6] [] (.bool true) []) (init [drD x, .lst 1 (u8s l), .lst 1 (u8s k)]) := by
  refine W_of ?_
  unfold maxL at l1 k1
  by_cases c1 : l.length ≤ 20
  · have d1 : decide ((20 : Int) < l.length) = false := decide_eq_false (by omega)
    by_cases c2 : k.length ≤ 20
    · have d2 : decide ((20 : Int) < k.length) = false := decide_eq_false (by omega)
      have r0 := hch x l k hx x1 x2 (by omega) l2 (by omega) k2
      have va := madeG_valid hx
      have hA := madeG_len8 x
      have hm := img_okM va l2
      have hn := img_okM hm.vb k2
      have hkl : ∀ v ∈ k ++ l, Byte v := fun v hv => by
        rcases List.mem_append.1 hv with h | h
        · exact k2 v h
        · exact l2 v h
      have ho := img_okM hn.vb hkl
      have r1 := hcl k (by omega)
      have r2 := him (imG (imG (madeG x) l) k) (k ++ l) hn.vb (by simp; omega) hkl
      have r3 := hco (madeG x) (imG (madeG x) l) (imG (imG (madeG x) l) k) (imMo (madeG x) l) (imMo (imG (madeG x) l) k)
      rw [comM_ok hm hn] at r3
      have r4 := hco (imG (madeG x) l) (imG (imG (madeG x) l) k) (imG (imG (imG (madeG x) l) k) (k ++ l)) (imMo (imG (madeG x) l) k) (imMo (imG (imG (madeG x) l) k) (k ++ l))
      rw [comM_ok hn ho] at r4
      have r5 := hco (madeG x) (imG (imG (madeG x) l) k) (imG (imG (imG (madeG x) l) k) (k ++ l)) (thenM (imMo (madeG x) l) (imMo (imG (madeG x) l) k)) (imMo (imG (imG (madeG x) l) k) (k ++ l))
      rw [comM_ok (then_okP hm hn) ho, then_assoc hm hn] at r5
      have r6 := hco (madeG x) (imG (madeG x) l) (imG (imG (imG (madeG x) l) k) (k ++ l)) (imMo (madeG x) l) (thenM (imMo (imG (madeG x) l) k) (imMo (imG (imG (madeG x) l) k) (k ++ l)))
      rw [comM_ok hm (then_okP hn ho)] at r6
      have r7 := hid (madeG x)
      rw [show idE (madeG x) = (idM (madeG x), 0) by unfold idE; rw [if_neg (by simp [va])]] at r7
      have r8 := hco (madeG x) (madeG x) (imG (madeG x) l) (idM (madeG x)) (imMo (madeG x) l)
      rw [comM_ok (idM_ok va) hm, id_then hm] at r8
      have e1 := (then_okP hm (then_okP hn ho)).ln
      have e2 := (then_okP hm (then_okP hn ho)).le
      have e3 := hm.ln
      have e4 := hm.le
      have r9 := hsa (thenM (imMo (madeG x) l) (thenM (imMo (imG (madeG x) l) k) (imMo (imG (imG (madeG x) l) k) (k ++ l)))) (thenM (imMo (madeG x) l) (thenM (imMo (imG (madeG x) l) k) (imMo (imG (imG (madeG x) l) k) (k ++ l)))) (by unfold maxL; omega) (by unfold maxL; omega)
      have ra := hsa (imMo (madeG x) l) (imMo (madeG x) l) (by unfold maxL; omega) (by unfold maxL; omega)
      clear hm hn ho va hA e1 e2 e3 e4 hkl
      generalize thenM (imMo (madeG x) l) (thenM (imMo (imG (madeG x) l) k) (imMo (imG (imG (madeG x) l) k) (k ++ l))) = t1 at *
      generalize thenM (imMo (imG (madeG x) l) k) (imMo (imG (imG (madeG x) l) k) (k ++ l)) = t2 at *
      generalize thenM (imMo (madeG x) l) (imMo (imG (madeG x) l) k) = t3 at *
      generalize imMo (imG (imG (madeG x) l) k) (k ++ l) = o at *
      generalize imG (imG (imG (madeG x) l) k) (k ++ l) = d at *
      generalize imMo (imG (madeG x) l) k = n at *
      generalize imG (imG (madeG x) l) k = c at *
      generalize imMo (madeG x) l = m at *
      generalize imG (madeG x) l = b at *
      generalize idM (madeG x) = im at *
      generalize madeG x = a at *
      obtain ⟨an, ae⟩ := a
      obtain ⟨bn, be⟩ := b
      obtain ⟨cn, ce⟩ := c
      obtain ⟨dn, de⟩ := d
      obtain ⟨mn, me⟩ := m
      obtain ⟨nn, ne⟩ := n
      obtain ⟨on, oe⟩ := o
      obtain ⟨in_, ie⟩ := im
      obtain ⟨t1n, t1e⟩ := t1
      obtain ⟨t2n, t2e⟩ := t2
      obtain ⟨t3n, t3e⟩ := t3
      simp only [gD, gA, mD, mA, awA, drD, decide_true] at *
      simp (config := { maxSteps := 1000000 }) (disch := first | omega | (simp only [go_sem]; omega)) only [go_sem, ↓reduceIte]
      refine call_by hw ?_
      simp (config := { maxSteps := 1000000 }) (disch := first | omega | (simp only [go_sem]; omega)) only [go_sem, ↓reduceIte, d1, d2]
      refine call_by r0 ?_
      simp (config := { maxSteps := 1000000 }) (disch := first | omega | (simp only [go_sem]; omega)) only [go_sem, ↓reduceIte]
      refine call_by r1 ?_
      simp (config := { maxSteps := 1000000 }) (disch := first | omega | (simp only [go_sem]; omega)) only [go_sem, ↓reduceIte]
      refine call_by r2 ?_
      simp (config := { maxSteps := 1000000 }) (disch := first | omega | (simp only [go_sem]; omega)) only [go_sem, ↓reduceIte]
      refine call_by r3 ?_
      simp (config := { maxSteps := 1000000 }) (disch := first | omega | (simp only [go_sem]; omega)) only [go_sem, ↓reduceIte]
      refine call_by r4 ?_
      simp (config := { maxSteps := 1000000 }) (disch := first | omega | (simp only [go_sem]; omega)) only [go_sem, ↓reduceIte]
      refine call_by r5 ?_
      simp (config := { maxSteps := 1000000 }) (disch := first | omega | (simp only [go_sem]; omega)) only [go_sem, ↓reduceIte]
      refine call_by r6 ?_
      simp (config := { maxSteps := 1000000 }) (disch := first | omega | (simp only [go_sem]; omega)) only [go_sem, ↓reduceIte]
      refine call_by r7 ?_
      simp (config := { maxSteps := 1000000 }) (disch := first | omega | (simp only [go_sem]; omega)) only [go_sem, ↓reduceIte]
      refine call_by r8 ?_
      simp (config := { maxSteps := 1000000 }) (disch := first | omega | (simp only [go_sem]; omega)) only [go_sem, ↓reduceIte]
      refine call_by r9 ?_
      simp (config := { maxSteps := 1000000 }) (disch := first | omega | (simp only [go_sem]; omega)) only [go_sem, ↓reduceIte]
      refine call_by ra ?_
      simp (config := { maxSteps := 1000000 }) (disch := first | omega | (simp only [go_sem]; omega)) only [go_sem, ↓reduceIte]
    · have d2 : decide ((20 : Int) < k.length) = true := decide_eq_true (by omega)
      simp only [drD]
      simp (config := { maxSteps := 1000000 }) (disch := first | omega | (simp only [go_sem]; omega)) only [go_sem, ↓reduceIte]
      refine call_by hw ?_
      simp (config := { maxSteps := 1000000 }) (disch := first | omega | (simp only [go_sem]; omega)) only [go_sem, ↓reduceIte, d1, d2]
      refine call_by hw ?_
      simp (config := { maxSteps := 1000000 }) (disch := first | omega | (simp only [go_sem]; omega)) only [go_sem, ↓reduceIte]
  · have d1 : decide ((20 : Int) < l.length) = true := decide_eq_true (by omega)
    simp only [drD]
    simp (config := { maxSteps := 1000000 }) (disch := first | omega | (simp only [go_sem]; omega)) only [go_sem, ↓reduceIte]
    refine call_by hw ?_
    simp (config := { maxSteps := 1000000 }) (disch := first | omega | (simp only [go_sem]; omega)) only [go_sem, ↓reduceIte, d1]
    refine call_by hw ?_
    simp (config := { maxSteps := 1000000 }) (disch := first | omega | (simp only [go_sem]; omega)) only [go_sem, ↓reduceIte]
theorem x_l06_MorphismAssociative (h : K_l06_MorphismAssociative P F) (args : List D) (ha : HasEls [shDr, shU8s, shU8s] args) : FC P (F "l06.MorphismAssociative") args (.bool true) [] := by
  simp only [HasEls] at ha
  obtain ⟨_, _, rfl, h1, _, _, rfl, h2, _, _, rfl, h3, rfl⟩ := ha
  obtain ⟨x, rfl, a1, a2, a3⟩ := rd_draft h1
  obtain ⟨l, rfl, b1, b2⟩ := rd_u8s h2
  obtain ⟨k, rfl, c1, c2⟩ := rd_u8s h3
  exact h x l k a1 a2 a3 b1 b2 c1 c2
end
end Go.Am
