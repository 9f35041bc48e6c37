/- Graphs that grow as numbers say; spans of drafts. -/
import Derived.Test.YtoeomfoohdheoaaSoE
import Derived.Test.YtoeomfoohdheoaaSnJ
namespace Go.Am
open Go
set_option linter.unusedVariables false
set_option linter.unusedSimpArgs false
attribute [local irreducible] W
/- r10.Grown -/
def c_r10_Grown_r0 (F : String → Nat) : List LI := [⟨some 2, .bx (.t 0), none⟩,
  ⟨some 4, .alloc [.nl 1, .nl 3], none⟩,
  ⟨some 5, .alloc [.nl 1, .nl 1], none⟩]
def c_r10_Grown_r1 (F : String → Nat) : List LI := [⟨some 10, .load true 2 (.t 2), none⟩,
  ⟨some 11, .call (F "r05.Copied") [.t 10] [], none⟩,
  ⟨some 12, .load true 2 (.t 2), none⟩,
  ⟨some 13, .call (F "r06.Of") [.t 12] [], none⟩,
  ⟨some 6, .alloc [.nl 1, .nl 3], none⟩,
  ⟨some 7, .alloc [.nl 1, .nl 1], none⟩,
  ⟨none, .store 2 (.t 6) (.t 11), none⟩,
  ⟨none, .store 2 (.t 7) (.t 13), none⟩]
def c_r10_Grown_r2 (F : String → Nat) : List LI := [⟨some 14, .mov (.t 1), none⟩,
  ⟨some 15, .len (.t 14), none⟩,
  ⟨some 16, .bin .gtr (.t 15) (.k (.int .i64 (0))), none⟩,
  ⟨some 17, .mov (.t 16), none⟩,
  ⟨some 18, .mov (.t 1), some (17, true)⟩,
  ⟨some 19, .iad 1 (.t 18) (.k (.int .i64 (0))), some (17, true)⟩,
  ⟨some 20, .load false 1 (.t 19), some (17, true)⟩,
  ⟨some 21, .bin .lss (.t 20) (.k (.int .u8 (255))), some (17, true)⟩,
  ⟨some 22, .pick (.t 17) (.t 21) (.k (.bool false)), none⟩]
def c_r10_Grown_r3 (F : String → Nat) : List LI := [⟨some 24, .load true 2 (.t 2), none⟩,
  ⟨some 25, .mov (.t 1), none⟩,
  ⟨some 26, .call (F "r06.Image") [.t 24, .t 25] [], none⟩,
  ⟨some 23, .mov (.t 26), none⟩,
  ⟨some 27, .ext (.t 23) 0, none⟩,
  ⟨some 28, .ext (.t 23) 1, none⟩,
  ⟨none, .store 2 (.t 6) (.t 27), none⟩,
  ⟨none, .store 2 (.t 7) (.t 28), none⟩]
def c_r10_Grown_r4 (F : String → Nat) : List LI := [⟨some 29, .load true 2 (.t 6), none⟩,
  ⟨some 30, .call (F "r05.Copied") [.t 29] [], none⟩,
  ⟨none, .store 2 (.t 6) (.t 30), none⟩]
def c_r10_Grown_r5 (F : String → Nat) : List LI := [⟨some 8, .mov (.k (.int .i64 (1))), none⟩]
def c_r10_Grown_r6 (F : String → Nat) : List LI := [⟨some 31, .mov (.t 8), none⟩,
  ⟨some 32, .mov (.t 1), none⟩,
  ⟨some 33, .len (.t 32), none⟩,
  ⟨some 34, .bin .lss (.t 31) (.t 33), none⟩,
  ⟨some 35, .mov (.t 34), none⟩,
  ⟨some 36, .mov (.t 8), some (35, true)⟩,
  ⟨some 37, .bin .leq (.t 36) (.k (.int .i64 (3))), some (35, true)⟩,
  ⟨some 38, .pick (.t 35) (.t 37) (.k (.bool false)), none⟩]
def c_r10_Grown_r7 (F : String → Nat) : List LI := [⟨some 41, .mov (.t 1), none⟩,
  ⟨some 42, .mov (.t 8), none⟩,
  ⟨some 43, .iad 1 (.t 41) (.t 42), none⟩,
  ⟨some 44, .load false 1 (.t 43), none⟩,
  ⟨some 45, .bin .rem (.t 44) (.k (.int .u8 (2))), none⟩,
  ⟨some 46, .bin .eql (.t 45) (.k (.int .u8 (1))), none⟩]
def c_r10_Grown_r8 (F : String → Nat) : List LI := [⟨some 47, .fad 0 (.t 6), none⟩,
  ⟨some 48, .load false 1 (.t 47), none⟩,
  ⟨some 49, .mov (.t 1), none⟩,
  ⟨some 50, .mov (.t 8), none⟩,
  ⟨some 51, .iad 1 (.t 49) (.t 50), none⟩,
  ⟨some 52, .load false 1 (.t 51), none⟩,
  ⟨some 53, .bin .quo (.t 52) (.k (.int .u8 (2))), none⟩,
  ⟨some 54, .conv .i64 (.t 53), none⟩,
  ⟨some 55, .bin .rem (.t 54) (.k (.int .i64 (3))), none⟩,
  ⟨some 56, .buildSl 1 8 (.int .i64 (0)) 1 [(0, .t 55)], none⟩,
  ⟨some 57, .app 1 8 (.t 48) (.t 56), none⟩,
  ⟨some 58, .fad 0 (.t 6), none⟩,
  ⟨none, .store 1 (.t 58) (.t 57), none⟩]
def c_r10_Grown_r9 (F : String → Nat) : List LI := [⟨some 39, .mov (.t 8), none⟩,
  ⟨some 40, .bin .add (.t 39) (.k (.int .i64 (1))), none⟩,
  ⟨some 8, .mov (.t 40), none⟩]
def c_r10_Grown_b10 (F : String → Nat) : LC := (.seq (.seq (.reg (c_r10_Grown_r6 F) [1, 4, 5, 6, 7, 8, 38]) (.cond (.t 38) .skip (.exit 0))) (.seq (.block 1 (.seq (.reg (c_r10_Grown_r7 F) [1, 4, 5, 6, 7, 8, 46]) (.cond (.t 46) (.dreg [(1, none, [], true), (9, none, [1], false)] (c_r10_Grown_r8 F) [1, 4, 5, 6, 7, 8]) .skip))) (.reg (c_r10_Grown_r9 F) [1, 4, 5, 6, 7, 8])))
def c_r10_Grown_r11 (F : String → Nat) : List LI := [⟨some 9, .mov (.k (.int .i64 (4))), none⟩]
def c_r10_Grown_r12 (F : String → Nat) : List LI := [⟨some 59, .mov (.t 9), none⟩,
  ⟨some 60, .mov (.t 1), none⟩,
  ⟨some 61, .len (.t 60), none⟩,
  ⟨some 62, .bin .lss (.t 59) (.t 61), none⟩,
  ⟨some 63, .mov (.t 62), none⟩,
  ⟨some 64, .mov (.t 9), some (63, true)⟩,
  ⟨some 65, .bin .leq (.t 64) (.k (.int .i64 (7))), some (63, true)⟩,
  ⟨some 66, .pick (.t 63) (.t 65) (.k (.bool false)), none⟩,
  ⟨some 67, .mov (.t 66), none⟩,
  ⟨some 68, .fad 0 (.t 6), some (67, true)⟩,
  ⟨some 69, .load false 1 (.t 68), some (67, true)⟩,
  ⟨some 70, .len (.t 69), some (67, true)⟩,
  ⟨some 71, .bin .gtr (.t 70) (.k (.int .i64 (0))), some (67, true)⟩,
  ⟨some 72, .pick (.t 67) (.t 71) (.k (.bool false)), none⟩]
def c_r10_Grown_r13 (F : String → Nat) : List LI := [⟨some 75, .fad 1 (.t 6), none⟩,
  ⟨some 76, .load false 1 (.t 75), none⟩,
  ⟨some 77, .mov (.t 1), none⟩,
  ⟨some 78, .mov (.t 9), none⟩,
  ⟨some 79, .iad 1 (.t 77) (.t 78), none⟩,
  ⟨some 80, .load false 1 (.t 79), none⟩,
  ⟨some 81, .conv .i64 (.t 80), none⟩,
  ⟨some 82, .bin .rem (.t 81) (.k (.int .i64 (2))), none⟩,
  ⟨some 83, .mov (.t 1), none⟩,
  ⟨some 84, .mov (.t 9), none⟩,
  ⟨some 85, .iad 1 (.t 83) (.t 84), none⟩,
  ⟨some 86, .load false 1 (.t 85), none⟩,
  ⟨some 87, .bin .quo (.t 86) (.k (.int .u8 (2))), none⟩,
  ⟨some 88, .conv .i64 (.t 87), none⟩,
  ⟨some 89, .fad 0 (.t 6), none⟩,
  ⟨some 90, .load false 1 (.t 89), none⟩,
  ⟨some 91, .len (.t 90), none⟩,
  ⟨some 92, .bin .rem (.t 88) (.t 91), none⟩,
  ⟨some 93, .mov (.t 1), none⟩,
  ⟨some 94, .mov (.t 9), none⟩,
  ⟨some 95, .iad 1 (.t 93) (.t 94), none⟩,
  ⟨some 96, .load false 1 (.t 95), none⟩,
  ⟨some 97, .bin .quo (.t 96) (.k (.int .u8 (16))), none⟩,
  ⟨some 98, .conv .i64 (.t 97), none⟩,
  ⟨some 99, .fad 0 (.t 6), none⟩,
  ⟨some 100, .load false 1 (.t 99), none⟩,
  ⟨some 101, .len (.t 100), none⟩,
  ⟨some 102, .bin .rem (.t 98) (.t 101), none⟩,
  ⟨some 103, .build [.int .i64 (0), .int .i64 (0), .int .i64 (0)] [(0, 1, .t 82), (1, 1, .t 92), (2, 1, .t 102)], none⟩,
  ⟨some 104, .buildSl 3 24 (.agg [.int .i64 (0), .int .i64 (0), .int .i64 (0)]) 1 [(0, .t 103)], none⟩,
  ⟨some 105, .app 3 24 (.t 76) (.t 104), none⟩,
  ⟨some 106, .fad 1 (.t 6), none⟩,
  ⟨none, .store 1 (.t 106) (.t 105), none⟩]
def c_r10_Grown_r14 (F : String → Nat) : List LI := [⟨some 73, .mov (.t 9), none⟩,
  ⟨some 74, .bin .add (.t 73) (.k (.int .i64 (1))), none⟩,
  ⟨some 9, .mov (.t 74), none⟩]
def c_r10_Grown_b15 (F : String → Nat) : LC := (.seq (.seq (.reg (c_r10_Grown_r12 F) [1, 4, 5, 6, 7, 9, 72]) (.cond (.t 72) .skip (.exit 2))) (.seq (.block 3 (.dreg [(1, none, [], true), (29, none, [1], false)] (c_r10_Grown_r13 F) [1, 4, 5, 6, 7, 9])) (.reg (c_r10_Grown_r14 F) [1, 4, 5, 6, 7, 9])))
def c_r10_Grown_r16 (F : String → Nat) : List LI := [⟨some 107, .load true 2 (.t 6), none⟩,
  ⟨some 108, .load true 2 (.t 7), none⟩,
  ⟨none, .store 2 (.t 4) (.t 107), none⟩,
  ⟨none, .store 2 (.t 5) (.t 108), none⟩]
def c_r10_Grown (F : String → Nat) : LC := (.seq (.reg (c_r10_Grown_r0 F) [1, 2, 4, 5]) (.seq (.dreg [(1, none, [], true), (2, (some 0), [1], false)] (c_r10_Grown_r1 F) [1, 2, 4, 5, 6, 7]) (.seq (.seq (.reg (c_r10_Grown_r2 F) [1, 2, 4, 5, 6, 7, 22]) (.cond (.t 22) (.reg (c_r10_Grown_r3 F) [1, 4, 5, 6, 7]) .skip)) (.seq (.reg (c_r10_Grown_r4 F) [1, 4, 5, 6, 7]) (.seq (.seq (.reg (c_r10_Grown_r5 F) [1, 4, 5, 6, 7, 8]) (.block 0 (.loop [1, 4, 5, 6, 7, 8] (c_r10_Grown_b10 F)))) (.seq (.seq (.reg (c_r10_Grown_r11 F) [1, 4, 5, 6, 7, 9]) (.block 2 (.loop [1, 4, 5, 6, 7, 9] (c_r10_Grown_b15 F)))) (.seq (.dreg [(1, none, [], true), (2, none, [1], false)] (c_r10_Grown_r16 F) [4, 5]) .ret)))))))
def h_r10_Grown : Hints := ⟨[], fun _ => [], tab [(0, [1, 2, 4, 5]), (1, [1, 2, 4, 5, 6, 7]), (2, [1, 2, 4, 5, 6, 7, 22]), (3, [1, 4, 5, 6, 7]), (4, [1, 4, 5, 6, 7]), (5, [1, 4, 5, 6, 7, 8]), (6, [1, 4, 5, 6, 7, 8, 38]), (7, [1, 4, 5, 6, 7, 8]), (8, [1, 4, 5, 6, 7, 8, 46]), (9, [1, 4, 5, 6, 7, 8]), (10, [1, 4, 5, 6, 7, 9]), (11, [1, 4, 5, 6, 7, 9, 72]), (12, [1, 4, 5, 6, 7, 9]), (13, [1, 4, 5, 6, 7, 9]), (14, [4, 5])], tab [(6, [1, 4, 5, 6, 7, 8]), (11, [1, 4, 5, 6, 7, 9])]⟩

attribute [go_sem] c_r10_Grown_r0 c_r10_Grown_r1 c_r10_Grown_r2 c_r10_Grown_r3 c_r10_Grown_r4 c_r10_Grown_r5 c_r10_Grown_r6 c_r10_Grown_r7 c_r10_Grown_r8 c_r10_Grown_r9 c_r10_Grown_r11 c_r10_Grown_r12 c_r10_Grown_r13 c_r10_Grown_r14 c_r10_Grown_r16 c_r10_Grown
/-- The nodes that numbers add. -/
def growN (c : List Int) : Nat → List Int
  | 0 => []
  | i + 1 => if (gt c (((i + 1 : Nat) : Int))).tmod 2 = 1 then growN c i ++ [((gt c (((i + 1 : Nat) : Int))).tdiv 2).tmod 3] else growN c i
/-- The edges that numbers add. -/
def growE (c : List Int) (n : Int) : Nat → List E
  | 0 => []
  | i + 1 => growE c n i ++ [⟨(gt c (((i + 4 : Nat) : Int))).tmod 2, ((gt c (((i + 4 : Nat) : Int))).tdiv 2).tmod n, ((gt c (((i + 4 : Nat) : Int))).tdiv 16).tmod n⟩]
def grB (a : G) (c : List Int) : G × Mo := if 0 < c.length ∧ gt c 0 < 255 then (imG a c, imMo a c) else (a, idM a)
def grN (c : List Int) : List Int := growN c (min (c.length - 1) 3)
def grE (n : Nat) (c : List Int) : List E := if n = 0 then [] else growE c n (min (c.length - 4) 4)
def grG (a : G) (c : List Int) : G := ⟨(grB a c).1.n ++ grN c, (grB a c).1.e ++ grE ((grB a c).1.n ++ grN c).length c⟩
def grM (a : G) (c : List Int) : Mo := (grB a c).2
section
variable (P : Program) (F : String → Nat)
def K_r10_Grown : Prop := ∀ (a : G) (c : List Int), validG a = 0 → c.length ≤ 2000000 → (∀ v ∈ c, Byte v) → FC P (F "r10.Grown") [gD a, .lst 1 (u8s c)] (.tup [gA (grG a c), mA (grM a c)]) []
end
section
variable {P : Program} {F : String → Nat} {α : Type}
theorem wrap_u8 {n : Int} (h : 0 ≤ n) (h' : n ≤ 255) : IntKind.u8.wrap n = n := by
  unfold IntKind.wrap
  simp [IntKind.bits, IntKind.signed]
  omega
theorem tdiv_bd {x : Int} (h : Byte x) (m : Int) (hm : 0 ≤ m := by omega) : 0 ≤ x.tdiv m ∧ x.tdiv m ≤ 255 := by
  obtain ⟨h1, h2⟩ := h
  refine ⟨Int.tdiv_nonneg h1 hm, ?_⟩
  rw [Int.tdiv_eq_ediv_of_nonneg h1]
  exact Int.le_trans (Int.ediv_le_self _ h1) h2
theorem growN_len (c : List Int) : ∀ i, (growN c i).length ≤ i
  | 0 => by simp [growN]
  | i + 1 => by rw [growN]; have := growN_len c i; split <;> simp <;> omega
theorem growE_len (c : List Int) (n : Int) : ∀ i, (growE c n i).length = i
  | 0 => by simp [growE]
  | i + 1 => by rw [growE, List.length_append, growE_len c n i]; rfl
theorem grN_len (c : List Int) : (grN c).length ≤ 3 := by
  have := growN_len c (min (c.length - 1) 3)
  unfold grN; omega
theorem grE_len (n : Nat) (c : List Int) : (grE n c).length ≤ 4 := by
  unfold grE
  split
  · simp
  · rw [growE_len]; omega
theorem growN_ok {c : List Int} (hc : ∀ v ∈ c, Byte v) : ∀ i : Nat, i < c.length → ∀ x ∈ growN c i, okN x = true
  | 0, _, x, hx => by simp [growN] at hx
  | i + 1, hi, x, hx => by
    rw [growN] at hx
    have hb := hc _ (gt_mem (l := c) (j := ((i + 1 : Nat) : Int)) (by omega) (by omega))
    split at hx
    · rcases List.mem_append.1 hx with hx | hx
      · exact growN_ok hc i (by omega) x hx
      · rw [List.mem_singleton] at hx
        have := tdiv_bd hb 2
        have := tmod_bd (x := (gt c (((i + 1 : Nat) : Int))).tdiv 2) (m := 3) this.1 (by omega)
        rw [hx]
        simp only [okN, decide_eq_true_eq]
        omega
    · exact growN_ok hc i (by omega) x hx
theorem growE_ok {c : List Int} (hc : ∀ v ∈ c, Byte v) {n : Nat} (hn : 0 < n) : ∀ i : Nat, i ≤ c.length - 4 → ∀ x ∈ growE c n i, fitsE n x = true
  | 0, _, x, hx => by simp [growE] at hx
  | i + 1, hi, x, hx => by
    rw [growE] at hx
    have hb := hc _ (gt_mem (l := c) (j := ((i + 4 : Nat) : Int)) (by omega) (by omega))
    rcases List.mem_append.1 hx with hx | hx
    · exact growE_ok hc hn i (by omega) x hx
    · rw [List.mem_singleton] at hx
      have h1 := tmod_bd (x := gt c (((i + 4 : Nat) : Int))) (m := 2) hb.1 (by omega)
      have h2 := tmod_bd (x := (gt c (((i + 4 : Nat) : Int))).tdiv 2) (m := n) (tdiv_bd hb 2).1 (by omega)
      have h3 := tmod_bd (x := (gt c (((i + 4 : Nat) : Int))).tdiv 16) (m := n) (tdiv_bd hb 16).1 (by omega)
      rw [hx]
      exact fits_mk (by simp only; omega) h2 h3
theorem grB_ok {a : G} {c : List Int} (hv : validG a = 0) (hc : ∀ v ∈ c, Byte v) : MOk a (grB a c).1 (grB a c).2 ∧ (grB a c).1.n.length ≤ a.n.length ∧ (grB a c).1.e.length ≤ a.e.length := by
  unfold grB
  split
  · have := img_sz hc hv
    exact ⟨img_okM hv hc, this.2.1, this.2.2⟩
  · exact ⟨idM_ok hv, Nat.le_refl _, Nat.le_refl _⟩
/-- More than there was. -/
theorem ext_okM {a b : G} {m : Mo} {ns : List Int} {es : List E} (hm : MOk a b m) (hv : validG ⟨b.n ++ ns, b.e ++ es⟩ = 0) : MOk a ⟨b.n ++ ns, b.e ++ es⟩ m := by
  refine ⟨hm.va, hv, hm.ln, hm.le, fun i hi => ?_, fun i hi => ?_⟩
  · obtain ⟨h1, h2⟩ := hm.nd i hi
    obtain ⟨k, hk, hk2⟩ := gtI h1
    simp only
    rw [hk2] at h1 h2 ⊢
    rw [gt_appL hk]
    exact ⟨by simp; omega, h2⟩
  · obtain ⟨h1, h2⟩ := hm.ed i hi
    obtain ⟨k, hk, hk2⟩ := gtI h1
    simp only
    rw [hk2] at h1 h2 ⊢
    rw [gt_appL hk]
    exact ⟨by simp; omega, h2⟩
theorem gr_ok {a : G} {c : List Int} (hv : validG a = 0) (hc : ∀ v ∈ c, Byte v) (s1 : a.n.length ≤ 37) (s2 : a.e.length ≤ 76) :
    MOk a (grG a c) (grM a c) ∧ (grG a c).n.length ≤ a.n.length + 3 ∧ (grG a c).e.length ≤ a.e.length + 4 := by
  obtain ⟨hm, l1, l2⟩ := grB_ok hv hc
  have n1 := grN_len c
  have n2 := grE_len ((grB a c).1.n ++ grN c).length c
  have vs := valid_spec hm.vb
  refine ⟨ext_okM hm (valid_mk ?_ ?_ (fun x hx => ?_) (fun x hx => ?_)), ?_, ?_⟩
  · simp only [List.length_append]; omega
  · simp only [List.length_append] at n2 ⊢; omega
  · rcases List.mem_append.1 hx with hx | hx
    · exact vs.2.2.1 x hx
    · by_cases c0 : c.length = 0
      · have : grN c = [] := by unfold grN; rw [show min (c.length - 1) 3 = 0 by omega]; rfl
        rw [this] at hx; simp at hx
      · exact growN_ok hc _ (by omega) x hx
  · rcases List.mem_append.1 hx with hx | hx
    · have := fits_spec (vs.2.2.2 x hx)
      have e : (((grB a c).1.n ++ grN c).length : Int) = (grB a c).1.n.length + (grN c).length := by simp
      exact fits_mk this.1 (by show 0 ≤ x.f ∧ x.f < (((grB a c).1.n ++ grN c).length : Int); rw [e]; omega) (by show 0 ≤ x.o ∧ x.o < (((grB a c).1.n ++ grN c).length : Int); rw [e]; omega)
    · unfold grE at hx
      split at hx
      · simp at hx
      · rename_i h0
        exact growE_ok hc (Nat.pos_of_ne_zero h0) (min (c.length - 4) 4) (by omega) x hx
  · simp only [grG, List.length_append]; omega
  · simp only [grG, List.length_append] at n2 ⊢; omega
set_option maxHeartbeats 4000000 in
set_option maxRecDepth 100000 in
theorem w_r10_Grown (hcp : K_r05_Copied P F) (hof : K_r06_Of P F) (hi : K_r06_Image P F) (a : G) (c : List Int) (hv : validG a = 0) (hl : c.length ≤ 2000000) (hb : ∀ v ∈ c, Byte v) : W P (c_r10_Grown F) (Done [.c 4 true 2, .c 5 true 2] [] (.tup [gA (grG a c), mA (grM a c)]) []) (init [gD a, .lst 1 (u8s c)]) := by
  refine W_of ?_
  have vs := valid_spec hv
  have r1 := hcp a (by omega) (by omega)
  have r2 := hof a (by omega) (by omega)
  have r3 := hi a c hv hl hb
  obtain ⟨hm, b1, b2⟩ := grB_ok hv hb
  have r4 := hcp (grB a c).1 (by omega) (by omega)
  have hB : grB a c = if 0 < c.length ∧ gt c 0 < 255 then (imG a c, imMo a c) else (a, idM a) := rfl
  have hG : grG a c = ⟨(grB a c).1.n ++ grN c, (grB a c).1.e ++ grE ((grB a c).1.n ++ grN c).length c⟩ := rfl
  have hM : grM a c = (grB a c).2 := rfl
  have hN : grN c = growN c (min (c.length - 1) 3) := rfl
  have hE : ∀ n, grE n c = if n = 0 then [] else growE c n (min (c.length - 4) 4) := fun n => rfl
  have n1 := growN_len c
  have n2 := growE_len c
  have n0 : growN c 0 = [] := rfl
  have e0 : ∀ n, growE c n 0 = [] := fun n => rfl
  have nS : ∀ i : Nat, growN c (i + 1) = if (gt c (((i + 1 : Nat) : Int))).tmod 2 = 1 then growN c i ++ [((gt c (((i + 1 : Nat) : Int))).tdiv 2).tmod 3] else growN c i := fun i => rfl
  have eS : ∀ (n : Int) (i : Nat), growE c n (i + 1) = growE c n i ++ [⟨(gt c (((i + 4 : Nat) : Int))).tmod 2, ((gt c (((i + 4 : Nat) : Int))).tdiv 2).tmod n, ((gt c (((i + 4 : Nat) : Int))).tdiv 16).tmod n⟩] := fun n i => rfl
  rw [hG, hM]
  clear hG hM hm
  generalize imG a c = ig at *
  generalize imMo a c = im at *
  generalize idM a = ia at *
  generalize grB a c = b at *
  generalize growN c = gN at *
  generalize growE c = gE at *
  generalize grN c = gNc at *
  generalize (fun n => grE n c) = gEc at *
  obtain ⟨⟨on, oe⟩, ⟨qn, qe⟩⟩ := b
  obtain ⟨an, ae⟩ := a
  simp only at *
  have cases3 : (c.length = 0 ∧ on = an ∧ oe = ae ∧ ia = ⟨qn, qe⟩) ∨ (0 < c.length ∧ ¬ gt c 0 < 255 ∧ on = an ∧ oe = ae ∧ ia = ⟨qn, qe⟩) ∨ (0 < c.length ∧ gt c 0 < 255 ∧ ig = ⟨on, oe⟩ ∧ im = ⟨qn, qe⟩) := by
    by_cases h1 : 0 < c.length
    · by_cases h2 : gt c 0 < 255
      · rw [if_pos ⟨h1, h2⟩] at hB
        simp only [Prod.mk.injEq] at hB
        exact .inr (.inr ⟨h1, h2, hB.1.symm, hB.2.symm⟩)
      · rw [if_neg (fun h => h2 h.2)] at hB
        simp only [Prod.mk.injEq, G.mk.injEq] at hB
        exact .inr (.inl ⟨h1, h2, hB.1.1, hB.1.2, hB.2.symm⟩)
    · rw [if_neg (fun h => h1 h.1)] at hB
      simp only [Prod.mk.injEq, G.mk.injEq] at hB
      exact .inl ⟨by omega, hB.1.1, hB.1.2, hB.2.symm⟩
  clear hB
  rcases cases3 with ⟨h1, h2, h3, h4⟩ | ⟨h1, h1', h2, h3, h4⟩ | ⟨h1, h1', h2, h3⟩
  case' inl =>
    have d1 : decide ((0 : Int) < c.length) = false := decide_eq_false (by omega)
    subst h2 h3 h4
    simp only [gD, gA, mA, mD] at *
    simp (config := { maxSteps := 1000000 }) (disch := first | omega | (simp only [go_sem]; omega)) only [go_sem, ↓reduceIte]
    refine call_by r1 ?_
    simp (config := { maxSteps := 1000000 }) (disch := first | omega | (simp only [go_sem]; omega)) only [go_sem, ↓reduceIte]
    refine call_by r2 ?_
    simp (config := { maxSteps := 1000000 }) (disch := first | omega | (simp only [go_sem]; omega)) only [go_sem, ↓reduceIte, d1]
    refine call_by r4 ?_
    simp (config := { maxSteps := 1000000 }) (disch := first | omega | (simp only [go_sem]; omega)) only [go_sem, ↓reduceIte]
  case' inr.inl =>
    have d1 : decide ((0 : Int) < c.length) = true := decide_eq_true (by omega)
    have d2 : decide (gt c ((0 : Nat) : Int) < 255) = false := decide_eq_false h1'
    subst h2 h3 h4
    simp only [gD, gA, mA, mD] at *
    simp (config := { maxSteps := 1000000 }) (disch := first | omega | (simp only [go_sem]; omega)) only [go_sem, ↓reduceIte]
    refine call_by r1 ?_
    simp (config := { maxSteps := 1000000 }) (disch := first | omega | (simp only [go_sem]; omega)) only [go_sem, ↓reduceIte]
    refine call_by r2 ?_
    simp (config := { maxSteps := 1000000 }) (disch := first | omega | (simp only [go_sem]; omega)) only [go_sem, ↓reduceIte, d1, d2]
    refine call_by r4 ?_
    simp (config := { maxSteps := 1000000 }) (disch := first | omega | (simp only [go_sem]; omega)) only [go_sem, ↓reduceIte]
  case' inr.inr =>
    have d1 : decide ((0 : Int) < c.length) = true := decide_eq_true (by omega)
    have d2 : decide (gt c ((0 : Nat) : Int) < 255) = true := decide_eq_true h1'
    subst h2 h3
    obtain ⟨iN, iE⟩ := ia
    simp only [gD, gA, mA, mD] at *
    simp (config := { maxSteps := 1000000 }) (disch := first | omega | (simp only [go_sem]; omega)) only [go_sem, ↓reduceIte]
    refine call_by r1 ?_
    simp (config := { maxSteps := 1000000 }) (disch := first | omega | (simp only [go_sem]; omega)) only [go_sem, ↓reduceIte]
    refine call_by r2 ?_
    simp (config := { maxSteps := 1000000 }) (disch := first | omega | (simp only [go_sem]; omega)) only [go_sem, ↓reduceIte, d1, d2]
    refine call_by r3 ?_
    simp (config := { maxSteps := 1000000 }) (disch := first | omega | (simp only [go_sem]; omega)) only [go_sem, ↓reduceIte]
    refine call_by r4 ?_
    simp (config := { maxSteps := 1000000 }) (disch := first | omega | (simp only [go_sem]; omega)) only [go_sem, ↓reduceIte]
  all_goals
    clear h1
    refine W_loop (fun i : Nat => ⟨[(1, .lst 1 (u8s c)), (4, .pt 2 0), (5, .pt 5 0), (6, .pt 8 0), (7, .pt 11 0), (8, .int .i64 (((i + 1 : Nat) : Int)))],
      [(0, .arr 1 []), (1, .arr 3 []), (2, .box [.sl 0 0 0, .sl 1 0 0]), (3, .arr 1 []), (4, .arr 1 []), (5, .box [.sl 3 0 0, .sl 4 0 0]), (6, .arr 1 (ints (on ++ gN i))), (7, .arr 3 (eds oe)), (8, .box [.sl 6 0 (on.length + (gN i).length), .sl 7 0 oe.length]),
       (9, .arr 1 (ints qn)), (10, .arr 1 (ints qe)), (11, .box [.sl 9 0 qn.length, .sl 10 0 qe.length])], 12⟩) (fun i => i ≤ min (c.length - 1) 3) (fun i => 4 - i) 0 ?_ ?_ ?_
    · simp (config := { maxSteps := 1000000 }) (disch := first | omega | (simp only [go_sem]; omega)) only [go_sem, ↓reduceIte, n0]
      rfl
    · simp
    · intro i hi
      have n1i := n1 i
      have al : (on ++ gN i).length = on.length + (gN i).length := List.length_append
      by_cases f : i + 1 < c.length ∧ i + 1 ≤ 3
      · have g1 : decide (((i + 1 : Nat) : Int) < c.length) = true := decide_eq_true (by omega)
        have g2 : decide (((i + 1 : Nat) : Int) ≤ 3) = true := decide_eq_true (by omega)
        have hbi := hb _ (gt_mem (l := c) (j := ((i + 1 : Nat) : Int)) (by omega) (by omega))
        have q1 := tdiv_bd hbi 2
        have w1 : IntKind.u8.wrap ((gt c (((i + 1 : Nat) : Int))).tdiv 2) = (gt c (((i + 1 : Nat) : Int))).tdiv 2 := wrap_u8 q1.1 q1.2
        have w2 : IntKind.i64.wrap ((gt c (((i + 1 : Nat) : Int))).tdiv 2) = (gt c (((i + 1 : Nat) : Int))).tdiv 2 := wrap_i64 (by omega) (by omega)
        have z1 : ¬ ((2 : Int) = 0) := by omega
        have z2 : ¬ ((3 : Int) = 0) := by omega
        have hS := nS i
        by_cases e : (gt c (((i + 1 : Nat) : Int))).tmod 2 = 1
        · have g3 : decide ((gt c (((i + 1 : Nat) : Int))).tmod 2 = 1) = true := decide_eq_true e
          rw [if_pos e] at hS
          have el : (gN i ++ [((gt c (((i + 1 : Nat) : Int))).tdiv 2).tmod 3]).length = (gN i).length + 1 := by simp
          simp (config := { maxSteps := 1000000 }) (disch := first | omega | (simp only [go_sem]; omega)) only [go_sem, ↓reduceIte, c_r10_Grown_b10, g1, g2, g3, z1, z2, w1, w2, al]
          exact ⟨i + 1, by simp [hS, Nat.add_assoc]; omega, by omega, by omega⟩
        · have g3 : decide ((gt c (((i + 1 : Nat) : Int))).tmod 2 = 1) = false := decide_eq_false e
          rw [if_neg e] at hS
          simp (config := { maxSteps := 1000000 }) (disch := first | omega | (simp only [go_sem]; omega)) only [go_sem, ↓reduceIte, c_r10_Grown_b10, g1, g2, g3, z1, al]
          exact ⟨i + 1, by simp [hS], by omega, by omega⟩
      · have hi' : i = min (c.length - 1) 3 := by omega
        have hg : (decide (((i + 1 : Nat) : Int) < c.length) = true ∧ decide (((i + 1 : Nat) : Int) ≤ 3) = false) ∨ decide (((i + 1 : Nat) : Int) < c.length) = false := by
          by_cases x : ((i + 1 : Nat) : Int) < c.length
          · exact .inl ⟨decide_eq_true x, decide_eq_false (by omega)⟩
          · exact .inr (decide_eq_false x)
        rw [← hi'] at hN
        rw [← hN] at al n1i ⊢
        rcases hg with ⟨g1, g2⟩ | g1
        case' inl => simp (config := { maxSteps := 1000000 }) (disch := first | omega | (simp only [go_sem]; omega)) only [go_sem, ↓reduceIte, c_r10_Grown_b10, g1, g2, al]
        case' inr => simp (config := { maxSteps := 1000000 }) (disch := first | omega | (simp only [go_sem]; omega)) only [go_sem, ↓reduceIte, c_r10_Grown_b10, g1, al]
        all_goals
          have hEn := hE (on ++ gNc).length
          rw [al] at hEn
          generalize hon : on ++ gNc = og at *
          generalize hnn : on.length + gNc.length = nn at *
          refine W_loop (fun j : Nat => ⟨[(1, .lst 1 (u8s c)), (4, .pt 2 0), (5, .pt 5 0), (6, .pt 8 0), (7, .pt 11 0), (9, .int .i64 (((j + 4 : Nat) : Int)))],
            [(0, .arr 1 []), (1, .arr 3 []), (2, .box [.sl 0 0 0, .sl 1 0 0]), (3, .arr 1 []), (4, .arr 1 []), (5, .box [.sl 3 0 0, .sl 4 0 0]), (6, .arr 1 (ints og)), (7, .arr 3 (eds (oe ++ gE nn j))), (8, .box [.sl 6 0 nn, .sl 7 0 (oe.length + j)]),
             (9, .arr 1 (ints qn)), (10, .arr 1 (ints qe)), (11, .box [.sl 9 0 qn.length, .sl 10 0 qe.length])], 12⟩) (fun j => j ≤ min (c.length - 4) 4 ∧ (nn = 0 → j = 0)) (fun j => 5 - j) 0 ?_ ?_ ?_
          · simp (config := { maxSteps := 1000000 }) (disch := first | omega | (simp only [go_sem]; omega)) only [go_sem, ↓reduceIte, e0, al]
            rfl
          · simp
          · rintro j ⟨hj, hj0⟩
            have el : (oe ++ gE nn j).length = oe.length + j := by rw [List.length_append, n2]
            by_cases f2 : j + 4 < c.length ∧ j + 4 ≤ 7 ∧ 0 < nn
            · have g1 : decide (((j + 4 : Nat) : Int) < c.length) = true := decide_eq_true (by omega)
              have g2 : decide (((j + 4 : Nat) : Int) ≤ 7) = true := decide_eq_true (by omega)
              have g3 : decide ((0 : Int) < nn) = true := decide_eq_true (by omega)
              have hbi := hb _ (gt_mem (l := c) (j := ((j + 4 : Nat) : Int)) (by omega) (by omega))
              have q1 := tdiv_bd hbi 2
              have q2 := tdiv_bd hbi 16
              have w1 : IntKind.u8.wrap ((gt c (((j + 4 : Nat) : Int))).tdiv 2) = (gt c (((j + 4 : Nat) : Int))).tdiv 2 := wrap_u8 q1.1 q1.2
              have w2 : IntKind.i64.wrap ((gt c (((j + 4 : Nat) : Int))).tdiv 2) = (gt c (((j + 4 : Nat) : Int))).tdiv 2 := wrap_i64 (by omega) (by omega)
              have w3 : IntKind.u8.wrap ((gt c (((j + 4 : Nat) : Int))).tdiv 16) = (gt c (((j + 4 : Nat) : Int))).tdiv 16 := wrap_u8 q2.1 q2.2
              have w4 : IntKind.i64.wrap ((gt c (((j + 4 : Nat) : Int))).tdiv 16) = (gt c (((j + 4 : Nat) : Int))).tdiv 16 := wrap_i64 (by omega) (by omega)
              have w5 : IntKind.i64.wrap (gt c (((j + 4 : Nat) : Int))) = gt c (((j + 4 : Nat) : Int)) := wrap_i64 (by have := hbi.1; omega) (by have := hbi.2; omega)
              have z1 : ¬ ((2 : Int) = 0) := by omega
              have z2 : ¬ ((16 : Int) = 0) := by omega
              have z3 : ¬ ((nn : Int) = 0) := by omega
              have hS := eS nn j
              simp (config := { maxSteps := 1000000 }) (disch := first | omega | (simp only [go_sem]; omega)) only [go_sem, ↓reduceIte, c_r10_Grown_b15, g1, g2, g3, z1, z2, z3, w1, w2, w3, w4, w5, al, el]
              exact ⟨j + 1, by simp [hS, Nat.add_assoc]; omega, ⟨by omega, by omega⟩, by omega⟩
            · have hg : (decide (((j + 4 : Nat) : Int) < c.length) = true ∧ decide (((j + 4 : Nat) : Int) ≤ 7) = true ∧ decide ((0 : Int) < nn) = false) ∨ (decide (((j + 4 : Nat) : Int) < c.length) = true ∧ decide (((j + 4 : Nat) : Int) ≤ 7) = false) ∨ decide (((j + 4 : Nat) : Int) < c.length) = false := by
                by_cases x : ((j + 4 : Nat) : Int) < c.length
                · by_cases y : ((j + 4 : Nat) : Int) ≤ 7
                  · exact .inl ⟨decide_eq_true x, decide_eq_true y, decide_eq_false (by omega)⟩
                  · exact .inr (.inl ⟨decide_eq_true x, decide_eq_false y⟩)
                · exact .inr (.inr (decide_eq_false x))
              have hfin : grE nn c = gE nn j := by
                rw [hEn]
                by_cases x : nn = 0
                · rw [if_pos x, hj0 x, e0]
                · rw [if_neg x, show min (c.length - 4) 4 = j by omega]
              rw [al, hfin]
              rcases hg with ⟨g1, g2, g3⟩ | ⟨g1, g2⟩ | g1
              · simp (config := { maxSteps := 1000000 }) (disch := first | omega | (simp only [go_sem]; omega)) only [go_sem, ↓reduceIte, c_r10_Grown_b15, g1, g2, g3, al, el]
                rfl
              · simp (config := { maxSteps := 1000000 }) (disch := first | omega | (simp only [go_sem]; omega)) only [go_sem, ↓reduceIte, c_r10_Grown_b15, g1, g2, al, el]
                rfl
              · simp (config := { maxSteps := 1000000 }) (disch := first | omega | (simp only [go_sem]; omega)) only [go_sem, ↓reduceIte, c_r10_Grown_b15, g1, al, el]
                rfl
end
end Go.Am
