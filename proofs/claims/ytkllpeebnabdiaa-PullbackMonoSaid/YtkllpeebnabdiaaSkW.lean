/- Pullbacks: the reference's Mediate; Check. -/
import Derived.Test.YtkllpeebnabdiaaSkPb
import Derived.Test.YtkllpeebnabdiaaSkPd
namespace Go.Am
open Go
set_option linter.unusedVariables false
set_option linter.unusedSimpArgs false
/- pullback.Check -/
def c_pullback_Check_r0 (F : String → Nat) : List LI := [⟨some 4, .bx (.t 0), none⟩,
  ⟨some 5, .bx (.t 1), none⟩,
  ⟨some 6, .bx (.t 2), none⟩,
  ⟨some 7, .bx (.t 3), none⟩,
  ⟨some 8, .mov (.k (.bool false)), none⟩]
def c_pullback_Check_r1 (F : String → Nat) : List LI := [⟨some 13, .load true 10 (.t 4), none⟩,
  ⟨some 14, .load true 2 (.t 5), none⟩,
  ⟨some 15, .load true 2 (.t 6), none⟩,
  ⟨some 16, .load true 2 (.t 7), none⟩,
  ⟨some 17, .call (F "pullback.Mediate") [.t 13, .t 14, .t 15, .t 16] [], none⟩,
  ⟨some 12, .mov (.t 17), none⟩,
  ⟨some 18, .ext (.t 12) 0, none⟩,
  ⟨some 19, .ext (.t 12) 1, none⟩,
  ⟨some 9, .alloc [.nl 1, .nl 1], none⟩,
  ⟨none, .store 2 (.t 9) (.t 18), none⟩,
  ⟨some 10, .mov (.t 19), none⟩]
def c_pullback_Check_r2 (F : String → Nat) : List LI := [⟨some 20, .mov (.t 10), none⟩,
  ⟨some 21, .bin .neq (.t 20) (.k (.int .i64 (0))), none⟩]
def c_pullback_Check_r3 (F : String → Nat) : List LI := [⟨some 8, .mov (.k (.bool false)), none⟩]
def c_pullback_Check_r4 (F : String → Nat) : List LI := [⟨some 23, .load true 10 (.t 4), none⟩,
  ⟨some 24, .call (F "pullback.of") [.t 23] [], none⟩,
  ⟨some 22, .mov (.t 24), none⟩,
  ⟨some 25, .ext (.t 22) 0, none⟩,
  ⟨some 26, .ext (.t 22) 1, none⟩,
  ⟨some 11, .alloc [.nl 2, .nl 2, .nl 1, .nl 3], none⟩,
  ⟨none, .store 4 (.t 11) (.t 25), none⟩,
  ⟨some 10, .mov (.t 26), none⟩]
def c_pullback_Check_r5 (F : String → Nat) : List LI := [⟨some 27, .mov (.t 10), none⟩,
  ⟨some 28, .bin .eql (.t 27) (.k (.int .i64 (0))), none⟩,
  ⟨some 29, .mov (.t 28), none⟩,
  ⟨some 30, .load true 2 (.t 5), some (29, true)⟩,
  ⟨some 31, .fad 2 (.t 11), some (29, true)⟩,
  ⟨some 32, .load true 2 (.t 31), some (29, true)⟩,
  ⟨some 33, .load true 2 (.t 9), some (29, true)⟩,
  ⟨some 34, .call (F "morphism.Injective") [.t 30, .t 32, .t 33] [], some (29, true)⟩,
  ⟨some 35, .pick (.t 29) (.t 34) (.k (.bool false)), none⟩,
  ⟨some 36, .mov (.t 35), none⟩,
  ⟨some 37, .load true 2 (.t 5), some (36, true)⟩,
  ⟨some 38, .fad 2 (.t 11), some (36, true)⟩,
  ⟨some 39, .load true 2 (.t 38), some (36, true)⟩,
  ⟨some 40, .load true 2 (.t 9), some (36, true)⟩,
  ⟨some 41, .call (F "morphism.Surjective") [.t 37, .t 39, .t 40] [], some (36, true)⟩,
  ⟨some 42, .pick (.t 36) (.t 41) (.k (.bool false)), none⟩,
  ⟨some 8, .mov (.t 42), none⟩]
def c_pullback_Check (F : String → Nat) : LC := (.seq (.reg (c_pullback_Check_r0 F) [4, 5, 6, 7]) (.seq (.reg (c_pullback_Check_r1 F) [4, 5, 9, 10]) (.seq (.seq (.reg (c_pullback_Check_r2 F) [4, 5, 9, 21]) (.cond (.t 21) (.seq (.reg (c_pullback_Check_r3 F) [8]) .ret) .skip)) (.seq (.reg (c_pullback_Check_r4 F) [5, 9, 10, 11]) (.seq (.reg (c_pullback_Check_r5 F) [8]) .ret)))))
def h_pullback_Check : Hints := ⟨[], fun _ => [], tab [(0, [4, 5, 6, 7]), (1, [4, 5, 9, 10]), (2, [4, 5, 9, 21]), (3, [8]), (4, [5, 9, 10, 11]), (5, [8])], tab []⟩

/- r11.Check -/
def c_r11_Check_r0 (F : String → Nat) : List LI := [⟨some 4, .bx (.t 0), none⟩,
  ⟨some 5, .bx (.t 1), none⟩,
  ⟨some 6, .bx (.t 2), none⟩,
  ⟨some 7, .bx (.t 3), none⟩,
  ⟨some 8, .mov (.k (.bool false)), none⟩]
def c_r11_Check_r1 (F : String → Nat) : List LI := [⟨some 16, .load true 10 (.t 4), none⟩,
  ⟨some 17, .load true 2 (.t 5), none⟩,
  ⟨some 18, .load true 2 (.t 6), none⟩,
  ⟨some 19, .load true 2 (.t 7), none⟩,
  ⟨some 20, .call (F "r11.Mediate") [.t 16, .t 17, .t 18, .t 19] [], none⟩,
  ⟨some 15, .mov (.t 20), none⟩,
  ⟨some 21, .ext (.t 15) 0, none⟩,
  ⟨some 22, .ext (.t 15) 1, none⟩,
  ⟨some 9, .alloc [.nl 1, .nl 1], none⟩,
  ⟨none, .store 2 (.t 9) (.t 21), none⟩,
  ⟨some 10, .mov (.t 22), none⟩]
def c_r11_Check_r2 (F : String → Nat) : List LI := [⟨some 23, .mov (.t 10), none⟩,
  ⟨some 24, .bin .neq (.t 23) (.k (.int .i64 (0))), none⟩]
def c_r11_Check_r3 (F : String → Nat) : List LI := [⟨some 8, .mov (.k (.bool false)), none⟩]
def c_r11_Check_r4 (F : String → Nat) : List LI := [⟨some 26, .load true 10 (.t 4), none⟩,
  ⟨some 27, .call (F "r11.Of") [.t 26] [], none⟩,
  ⟨some 25, .mov (.t 27), none⟩,
  ⟨some 28, .ext (.t 25) 0, none⟩,
  ⟨some 29, .ext (.t 25) 1, none⟩,
  ⟨some 30, .ext (.t 25) 2, none⟩,
  ⟨some 31, .ext (.t 25) 3, none⟩,
  ⟨some 11, .alloc [.nl 1, .nl 3], none⟩,
  ⟨some 12, .alloc [.nl 1, .nl 1], none⟩,
  ⟨some 13, .alloc [.nl 1, .nl 1], none⟩,
  ⟨none, .store 2 (.t 11) (.t 28), none⟩,
  ⟨none, .store 2 (.t 12) (.t 29), none⟩,
  ⟨none, .store 2 (.t 13) (.t 30), none⟩,
  ⟨some 14, .mov (.t 31), none⟩]
def c_r11_Check_r5 (F : String → Nat) : List LI := [⟨some 32, .load true 2 (.t 5), none⟩,
  ⟨some 33, .load true 2 (.t 11), none⟩,
  ⟨some 34, .load true 2 (.t 9), none⟩,
  ⟨some 35, .call (F "r06.Injective") [.t 32, .t 33, .t 34] [], none⟩,
  ⟨some 36, .mov (.t 35), none⟩,
  ⟨some 37, .load true 2 (.t 5), some (36, true)⟩,
  ⟨some 38, .load true 2 (.t 11), some (36, true)⟩,
  ⟨some 39, .load true 2 (.t 9), some (36, true)⟩,
  ⟨some 40, .call (F "r06.Surjective") [.t 37, .t 38, .t 39] [], some (36, true)⟩,
  ⟨some 41, .pick (.t 36) (.t 40) (.k (.bool false)), none⟩,
  ⟨some 8, .mov (.t 41), none⟩]
def c_r11_Check (F : String → Nat) : LC := (.seq (.reg (c_r11_Check_r0 F) [4, 5, 6, 7]) (.seq (.reg (c_r11_Check_r1 F) [4, 5, 9, 10]) (.seq (.seq (.reg (c_r11_Check_r2 F) [4, 5, 9, 24]) (.cond (.t 24) (.seq (.reg (c_r11_Check_r3 F) [8]) .ret) .skip)) (.seq (.reg (c_r11_Check_r4 F) [5, 9, 11]) (.seq (.reg (c_r11_Check_r5 F) [8]) .ret)))))
def h_r11_Check : Hints := ⟨[], fun _ => [], tab [(0, [4, 5, 6, 7]), (1, [4, 5, 9, 10]), (2, [4, 5, 9, 24]), (3, [8]), (4, [5, 9, 11]), (5, [8])], tab []⟩

/- l11.Cone.small -/
def c_l11_Cone_small_r0 (F : String → Nat) : List LI := [⟨some 1, .bx (.t 0), none⟩,
  ⟨some 2, .mov (.k (.bool false)), none⟩]
def c_l11_Cone_small_r1 (F : String → Nat) : List LI := [⟨some 3, .fad 0 (.t 1), none⟩,
  ⟨some 4, .load true 2 (.t 3), none⟩,
  ⟨some 5, .call (F "r05.Few") [.t 4] [], none⟩,
  ⟨some 6, .mov (.t 5), none⟩,
  ⟨some 7, .fad 2 (.t 1), some (6, true)⟩,
  ⟨some 8, .load true 2 (.t 7), some (6, true)⟩,
  ⟨some 9, .call (F "r06.Few") [.t 8, .k (.int .i64 (150))] [], some (6, true)⟩,
  ⟨some 10, .pick (.t 6) (.t 9) (.k (.bool false)), none⟩,
  ⟨some 11, .mov (.t 10), none⟩,
  ⟨some 12, .fad 4 (.t 1), some (11, true)⟩,
  ⟨some 13, .load true 2 (.t 12), some (11, true)⟩,
  ⟨some 14, .call (F "r06.Few") [.t 13, .k (.int .i64 (150))] [], some (11, true)⟩,
  ⟨some 15, .pick (.t 11) (.t 14) (.k (.bool false)), none⟩,
  ⟨some 2, .mov (.t 15), none⟩]
def c_l11_Cone_small (F : String → Nat) : LC := (.seq (.reg (c_l11_Cone_small_r0 F) [1]) (.seq (.reg (c_l11_Cone_small_r1 F) [2]) .ret))
def h_l11_Cone_small : Hints := ⟨[], fun _ => [], tab [(0, [1]), (1, [2])], tab []⟩

attribute [go_sem] c_pullback_Check_r0 c_pullback_Check_r1 c_pullback_Check_r2 c_pullback_Check_r3 c_pullback_Check_r4 c_pullback_Check_r5 c_pullback_Check c_r11_Check_r0 c_r11_Check_r1 c_r11_Check_r2 c_r11_Check_r3 c_r11_Check_r4 c_r11_Check_r5 c_r11_Check c_l11_Cone_small_r0 c_l11_Cone_small_r1 c_l11_Cone_small
def checkM (s : Cs) (a : G) (h k : Mo) : Bool := decide ((medM s a h k).2 = 0) && (injM a (pbG s) (medM s a h k).1 && surM a (pbG s) (medM s a h k).1)
section
variable (P : Program) (F : String → Nat)
def K_r11_Mediate : Prop := ∀ (s : Cs) (x : G) (h k : Mo), FC P (F "r11.Mediate") [csD s, gD x, mD h, mD k] (.tup [mA (medM s x h k).1, .int .i64 (medM s x h k).2]) []
def K_pullback_Check : Prop := ∀ (s : Cs) (x : G) (h k : Mo), FC P (F "pullback.Check") [csD s, gD x, mD h, mD k] (.bool (checkM s x h k)) []
def K_r11_Check : Prop := ∀ (s : Cs) (x : G) (h k : Mo), FC P (F "r11.Check") [csD s, gD x, mD h, mD k] (.bool (checkM s x h k)) []
end
section
variable {P : Program} {F : String → Nat} {α : Type}
theorem idx_mem {l : List Pr} {q : Pr} : 0 ≤ idx (fun p => decide (p = q)) l 0 ↔ q ∈ l := by
  have := idx_ge (fun p => decide (p = q)) l 0 (by omega)
  rw [← decide_eq_true_iff (p := 0 ≤ idx (fun p => decide (p = q)) l 0), this, List.any_eq_true]
  simp
theorem pairsL_in {f g : List Int} {a b : Int} (ha : 0 ≤ a ∧ a < f.length) (hb : 0 ≤ b ∧ b < g.length) : (⟨a, b⟩ : Pr) ∈ pairsL f g ↔ gt f a = gt g b := by
  rw [pairsL_mem]
  constructor
  · rintro ⟨i, k, h1, h2, h3, h4⟩
    simp only [Pr.mk.injEq] at h4
    rw [h4.1, h4.2]; exact h3
  · intro h
    refine ⟨a.toNat, b.toNat, by omega, by omega, ?_, ?_⟩
    · rw [Int.toNat_of_nonneg ha.1, Int.toNat_of_nonneg hb.1]; exact h
    · rw [Int.toNat_of_nonneg ha.1, Int.toNat_of_nonneg hb.1]
theorem list_ext_gt [Inhabited α] {a b : List α} (hl : a.length = b.length) (h : ∀ i : Nat, i < a.length → gt a i = gt b i) : a = b := by
  refine List.ext_getElem hl fun i h1 h2 => ?_
  have := h i h1
  rwa [gt_nat h1, gt_nat h2] at this
theorem thr_gt {l b : List Int} {i : Nat} (h : i < l.length) : gt (thr l b) i = gt b (gt l i) := by
  rw [gt_nat (by rw [thr_len]; exact h)]
  simp only [thr, List.getElem_map]
  rw [gt_nat h]
theorem meet_thr {f g h k : List Int} (hl : k.length = h.length) (hh : ∀ x ∈ h, 0 ≤ x ∧ x < f.length) (hk : ∀ x ∈ k, 0 ≤ x ∧ x < g.length) : meetOk (pairsL f g) h k = decide (thr h f = thr k g) := by
  rw [Bool.eq_iff_iff, decide_eq_true_eq, meetOk, List.all_eq_true]
  have key : ∀ i : Nat, i < h.length → (0 ≤ idx (fun p => decide (p = ⟨gt h i, gt k i⟩)) (pairsL f g) 0 ↔ gt (thr h f) i = gt (thr k g) i) := fun i hi => by
    rw [idx_mem, pairsL_in (hh _ (gt_mem (by omega) (by omega))) (hk _ (gt_mem (by omega) (by omega))), thr_gt hi, thr_gt (by omega)]
  simp only [meetL, meetI, List.mem_map, List.mem_range, decide_eq_true_eq, forall_exists_index, and_imp, forall_apply_eq_imp_iff₂]
  constructor
  · intro hall
    exact list_ext_gt (by rw [thr_len, thr_len, hl]) fun i hi => (key i (by rwa [thr_len] at hi)).1 (hall i (by rwa [thr_len] at hi))
  · intro he i hi
    rw [key i hi, he]
theorem at2_idx (l : List Pr) (a b : Int) : ∀ (n i : Nat), n = l.length - i → i ≤ l.length → at2 (asA l) (asB l) a b ((asA l).drop i) i = idx (fun p => decide (p = ⟨a, b⟩)) (l.drop i) i
  | 0, i, hn, hi => by
    rw [List.drop_of_length_le (by simp [asA]; omega), List.drop_of_length_le (by omega)]
    rfl
  | n + 1, i, hn, hi => by
    have hA : (asA l).length = l.length := by simp [asA]
    have hB : (asB l).length = l.length := by simp [asB]
    have h1 := at2_step (asA l) (asB l) a b (asA l) i (by omega)
    have h2 := idx_drop (fun p => decide (p = (⟨a, b⟩ : Pr))) l i (by omega)
    rw [h1, h2, at2_idx l a b n (i + 1) (by omega) (by omega)]
    have e1 : gt (asA l) i = (gt l i).a := by rw [gt_nat (by omega), gt_nat (by omega)]; simp [asA]
    have e2 : gt (asB l) i = (gt l i).b := by rw [gt_nat (by omega), gt_nat (by omega)]; simp [asB]
    rw [e1, e2]
    simp only [decide_eq_true_eq, eqPr]
theorem at2_all (l : List Pr) (a b : Int) : at2 (asA l) (asB l) a b (asA l) 0 = idx (fun p => decide (p = ⟨a, b⟩)) l 0 := by
  have := at2_idx l a b l.length 0 (by omega) (by omega)
  simpa using this
set_option maxHeartbeats 2000000 in
theorem w_r11_Mediate (ho : K_r11_Of P F) (hv : K_r06_Valid P F) (ht : K_r06_Then P F) (hs : K_r06_Same P F) (hx : K_r11_first P F) (s : Cs) (x : G) (h k : Mo) :
    W P (c_r11_Mediate F) (Done [.c 8 true 2, .t 9] [] (.tup [mA (medM s x h k).1, .int .i64 (medM s x h k).2]) []) (init [csD s, gD x, mD h, mD k]) := by
  refine W_of ?_
  have ro := ho s
  have r1 := hv x s.b h
  have r2 := hv x s.c k
  have hl := @pbN_len s
  have hl1 := @validM_len x s.b h
  have hl2 := @validM_len x s.c k
  have hs1 := @validM_spec x s.b h
  have hs2 := @validM_spec x s.c k
  have hb1 := @validM_bd x s.b h
  have hb2 := @validM_bd x s.c k
  have hgv := @givenE_spec s
  have hmd : medM s x h k = if medErr s x h k ≠ 0 then (m0, medErr s x h k) else
    if meetOk (pbN s) h.n k.n = true ∧ meetOk (pbE s) h.e k.e = true then (⟨meetL (pbN s) h.n k.n, meetL (pbE s) h.e k.e⟩, 0) else (m0, 11) := rfl
  have hE : medErr s x h k = if pbErr s ≠ 0 then pbErr s else if validM x s.b h ≠ 0 then validM x s.b h else validM x s.c k := rfl
  have hP : pbP s = if pbErr s = 0 then ⟨asA (pbN s), asA (pbE s)⟩ else m0 := rfl
  have hQ : pbQ s = if pbErr s = 0 then ⟨asB (pbN s), asB (pbE s)⟩ else m0 := rfl
  generalize medErr s x h k = er at *
  generalize medM s x h k = md at *
  generalize pbErr s = e0 at *
  generalize hw1 : validM x s.b h = e1 at *
  generalize hw2 : validM x s.c k = e2 at *
  generalize pbG s = gg at *
  generalize pbP s = pp at *
  generalize pbQ s = qq at *
  by_cases c0 : e0 = 0
  · subst c0
    rw [if_neg (by simp)] at hE
    rw [if_pos rfl] at hP hQ
    subst hP hQ
    obtain ⟨p1, p2, hg0⟩ := hl rfl
    obtain ⟨gv1, gv2⟩ := hgv hg0
    by_cases c1 : e1 = 0
    · subst c1
      rw [if_neg (by simp)] at hE
      subst hE
      by_cases c2 : er = 0
      · subst c2
        rw [if_neg (by simp)] at hmd
        obtain ⟨q1, q2, _⟩ := hl1 rfl
        obtain ⟨q1', q2', _⟩ := hl2 rfl
        obtain ⟨_, _, q3, q4, _⟩ := hs1 rfl
        obtain ⟨_, _, q5, q6, _⟩ := hs2 rfl
        obtain ⟨b1, b2⟩ := hb1 rfl
        obtain ⟨b3, b4⟩ := hb2 rfl
        obtain ⟨_, _, z1, z2, _⟩ := validM_spec gv1
        obtain ⟨_, _, z3, z4, _⟩ := validM_spec gv2
        rw [← z1] at b1
        rw [← z2] at b2
        rw [← z3] at b3
        rw [← z4] at b4
        have m1 := meet_thr (f := s.f.n) (g := s.g.n) (by omega) b1 b3
        have m2 := meet_thr (f := s.f.e) (g := s.g.e) (by omega) b2 b4
        change meetOk (pbN s) h.n k.n = _ at m1
        change meetOk (pbE s) h.e k.e = _ at m2
        have t1 := ht h s.f (by omega) (by omega) b1 b2
        have t2 := ht k s.g (by omega) (by omega) b3 b4
        have hsm := hs (thenM h s.f) (thenM k s.g) (by simp only [thenM, thr_len, maxL]; omega) (by simp only [thenM, thr_len, maxL]; omega)
        have hc : decide (thenM h s.f = thenM k s.g) = (meetOk (pbN s) h.n k.n && meetOk (pbE s) h.e k.e) := by
          rw [m1, m2, Bool.eq_iff_iff]
          simp [thenM]
        rw [hc] at hsm
        have hA : ∀ l : List Pr, (asA l).length = l.length := fun l => by simp [asA]
        have hB : ∀ l : List Pr, (asB l).length = l.length := fun l => by simp [asB]
        have f1 : ∀ i : Nat, FC P (F "r11.first") [.lst 1 (ints (asA (pbN s))), .lst 1 (ints (asB (pbN s))), .int .i64 (gt h.n i), .int .i64 (gt k.n i)] (.int .i64 (idx (fun p => decide (p = ⟨gt h.n i, gt k.n i⟩)) (pbN s) 0)) [] := fun i => by
          have := hx (asA (pbN s)) (asB (pbN s)) (gt h.n i) (gt k.n i) (by rw [hA]; unfold maxL; omega) (by rw [hA, hB])
          rwa [at2_all] at this
        have f2 : ∀ i : Nat, FC P (F "r11.first") [.lst 1 (ints (asA (pbE s))), .lst 1 (ints (asB (pbE s))), .int .i64 (gt h.e i), .int .i64 (gt k.e i)] (.int .i64 (idx (fun p => decide (p = ⟨gt h.e i, gt k.e i⟩)) (pbE s) 0)) [] := fun i => by
          have := hx (asA (pbE s)) (asB (pbE s)) (gt h.e i) (gt k.e i) (by rw [hA]; unfold maxL; omega) (by rw [hA, hB])
          rwa [at2_all] at this
        have hAn := hA (pbN s)
        have hBn := hB (pbN s)
        have hAe := hA (pbE s)
        have hBe := hB (pbE s)
        clear hA hB m1 m2 hc
        have hm1 := meetI_succ (pbN s) h.n k.n
        have hm2 := meetI_succ (pbE s) h.e k.e
        have hm3 := meetI_len (pbN s) h.n k.n
        have hm4 := meetI_len (pbE s) h.e k.e
        rw [show meetL (pbN s) h.n k.n = meetI (pbN s) h.n k.n h.n.length from rfl, show meetL (pbE s) h.e k.e = meetI (pbE s) h.e k.e h.e.length from rfl] at hmd
        generalize meetOk (pbN s) h.n k.n = o1 at *
        generalize meetOk (pbE s) h.e k.e = o2 at *
        generalize thenM h s.f = tf at *
        generalize thenM k s.g = tg at *
        obtain ⟨tfn, tfe⟩ := tf
        obtain ⟨tgn, tge⟩ := tg
        generalize hAA : asA (pbN s) = an at *
        generalize hBB : asB (pbN s) = bbn at *
        generalize hAA2 : asA (pbE s) = ae at *
        generalize hBB2 : asB (pbE s) = bbe at *
        generalize pbN s = ns at *
        generalize pbE s = es at *
        obtain ⟨⟨bn, be⟩, ⟨cn, ce⟩, ⟨dn, de⟩, ⟨fn, fe⟩, ⟨gn, ge⟩⟩ := s
        obtain ⟨xn, xe⟩ := x
        obtain ⟨hn, he⟩ := h
        obtain ⟨kn, ke⟩ := k
        obtain ⟨ggn, gge⟩ := gg
        simp only [csD, gD, mD, gA, mA] at *
        simp (config := { maxSteps := 1000000 }) (disch := first | omega | (simp only [go_sem]; omega)) only [go_sem, ↓reduceIte]
        refine call_by ro ?_
        simp (config := { maxSteps := 1000000 }) (disch := first | omega | (simp only [go_sem]; omega)) only [go_sem, ↓reduceIte]
        refine call_by r1 ?_
        simp (config := { maxSteps := 1000000 }) (disch := first | omega | (simp only [go_sem]; omega)) only [go_sem, ↓reduceIte]
        refine call_by r2 ?_
        simp (config := { maxSteps := 1000000 }) (disch := first | omega | (simp only [go_sem]; omega)) only [go_sem, ↓reduceIte]
        refine call_by t1 ?_
        simp (config := { maxSteps := 1000000 }) (disch := first | omega | (simp only [go_sem]; omega)) only [go_sem, ↓reduceIte]
        refine call_by t2 ?_
        simp (config := { maxSteps := 1000000 }) (disch := first | omega | (simp only [go_sem]; omega)) only [go_sem, ↓reduceIte]
        refine call_by hsm ?_
        cases o1
        · rw [if_neg (by simp)] at hmd
          subst hmd
          simp (config := { maxSteps := 1000000 }) (disch := first | omega | (simp only [go_sem]; omega)) only [go_sem, ↓reduceIte]
          simp [m0, mA, ints]
        · cases o2
          · rw [if_neg (by simp)] at hmd
            subst hmd
            simp (config := { maxSteps := 1000000 }) (disch := first | omega | (simp only [go_sem]; omega)) only [go_sem, ↓reduceIte]
            simp [m0, mA, ints]
          · rw [if_pos (by simp)] at hmd
            subst hmd
            simp (config := { maxSteps := 1000000 }) (disch := first | omega | (simp only [go_sem]; omega)) only [go_sem, ↓reduceIte]
            refine W_loop (fun i : Nat => ⟨[(6, D.pt 0 0), (7, D.pt 1 0), (8, D.pt 4 0), (11, D.pt 7 0), (12, D.pt 10 0), (16, D.pt 13 0), (17, D.int IntKind.i64 i)],
              [(0, Ent.box [D.lst 1 (ints hn), D.lst 1 (ints he)]), (1, Ent.box [D.lst 1 (ints kn), D.lst 1 (ints ke)]),
                (2, Ent.arr 1 []), (3, Ent.arr 1 []), (4, Ent.box [D.sl 2 0 0, D.sl 3 0 0]), (5, Ent.arr 1 (ints an)), (6, Ent.arr 1 (ints ae)), (7, Ent.box [D.sl 5 0 an.length, D.sl 6 0 ae.length]), (8, Ent.arr 1 (ints bbn)),
                (9, Ent.arr 1 (ints bbe)), (10, Ent.box [D.sl 8 0 bbn.length, D.sl 9 0 bbe.length]), (11, Ent.arr 1 (ints (meetI ns hn kn i))), (12, Ent.arr 1 []), (13, Ent.box [D.sl 11 0 i, D.sl 12 0 0])], 14⟩) (fun i => i ≤ hn.length) (fun i => hn.length - i) 0 ?_ ?_ ?_
            · simp (config := { maxSteps := 1000000 }) (disch := first | omega | (simp only [go_sem]; omega)) only [go_sem, ↓reduceIte, meetI_zero]
              rfl
            · simp
            · intro i hi
              have w1 := hm1 i
              have w2 := hm3 i
              have w3 := f1 i
              generalize idx (fun p => decide (p = ⟨gt hn i, gt kn i⟩)) ns 0 = y at *
              simp (config := { maxSteps := 1000000 }) (disch := first | omega | (simp only [go_sem]; omega)) only [go_sem, ↓reduceIte, c_r11_Mediate_b17]
              refine bran_dec (fun c => ?_) (fun c => ?_)
              · simp (config := { maxSteps := 1000000 }) (disch := first | omega | (simp only [go_sem]; omega)) only [go_sem, ↓reduceIte, w2]
                refine call_by w3 ?_
                simp (config := { maxSteps := 1000000 }) (disch := first | omega | (simp only [go_sem]; omega)) only [go_sem, ↓reduceIte, w2]
                exact ⟨i + 1, by rw [w1]; simp, by omega, by omega⟩
              · obtain rfl : i = hn.length := by omega
                simp (config := { maxSteps := 1000000 }) (disch := first | omega | (simp only [go_sem]; omega)) only [go_sem, ↓reduceIte, w2]
                refine W_loop (fun i : Nat => ⟨[(6, D.pt 0 0), (7, D.pt 1 0), (8, D.pt 4 0), (11, D.pt 7 0), (12, D.pt 10 0), (16, D.pt 13 0), (18, D.int IntKind.i64 i)],
                  [(0, Ent.box [D.lst 1 (ints hn), D.lst 1 (ints he)]), (1, Ent.box [D.lst 1 (ints kn), D.lst 1 (ints ke)]),
                (2, Ent.arr 1 []), (3, Ent.arr 1 []), (4, Ent.box [D.sl 2 0 0, D.sl 3 0 0]), (5, Ent.arr 1 (ints an)), (6, Ent.arr 1 (ints ae)), (7, Ent.box [D.sl 5 0 an.length, D.sl 6 0 ae.length]), (8, Ent.arr 1 (ints bbn)),
                (9, Ent.arr 1 (ints bbe)), (10, Ent.box [D.sl 8 0 bbn.length, D.sl 9 0 bbe.length]), (11, Ent.arr 1 (ints (meetI ns hn kn hn.length))), (12, Ent.arr 1 (ints (meetI es he ke i))), (13, Ent.box [D.sl 11 0 hn.length, D.sl 12 0 i])], 14⟩) (fun i => i ≤ he.length) (fun i => he.length - i) 0 ?_ ?_ ?_
                · simp (config := { maxSteps := 1000000 }) (disch := first | omega | (simp only [go_sem]; omega)) only [go_sem, ↓reduceIte, meetI_zero]
                  rfl
                · simp
                · intro i hi
                  have w1 := hm2 i
                  have w4 := hm4 i
                  have w3 := f2 i
                  generalize idx (fun p => decide (p = ⟨gt he i, gt ke i⟩)) es 0 = y at *
                  simp (config := { maxSteps := 1000000 }) (disch := first | omega | (simp only [go_sem]; omega)) only [go_sem, ↓reduceIte, c_r11_Mediate_b22]
                  refine bran_dec (fun c => ?_) (fun c => ?_)
                  · simp (config := { maxSteps := 1000000 }) (disch := first | omega | (simp only [go_sem]; omega)) only [go_sem, ↓reduceIte, w2, w4]
                    refine call_by w3 ?_
                    simp (config := { maxSteps := 1000000 }) (disch := first | omega | (simp only [go_sem]; omega)) only [go_sem, ↓reduceIte, w2, w4]
                    exact ⟨i + 1, by rw [w1]; simp, by omega, by omega⟩
                  · obtain rfl : i = he.length := by omega
                    simp (config := { maxSteps := 1000000 }) (disch := first | omega | (simp only [go_sem]; omega)) only [go_sem, ↓reduceIte, w2, w4]
                    simp [mA]
      · rw [if_pos c2] at hmd
        subst hmd
        obtain ⟨ggn, gge⟩ := gg
        simp only [csD, gD, mD, gA, mA] at *
        simp (config := { maxSteps := 1000000 }) (disch := first | omega | (simp only [go_sem]; omega)) only [go_sem, ↓reduceIte]
        refine call_by ro ?_
        simp (config := { maxSteps := 1000000 }) (disch := first | omega | (simp only [go_sem]; omega)) only [go_sem, ↓reduceIte]
        refine call_by r1 ?_
        simp (config := { maxSteps := 1000000 }) (disch := first | omega | (simp only [go_sem]; omega)) only [go_sem, ↓reduceIte]
        refine call_by r2 ?_
        simp (config := { maxSteps := 1000000 }) (disch := first | omega | (simp only [go_sem]; omega)) only [go_sem, ↓reduceIte, c2]
        simp [m0, mA, ints]
    · rw [if_pos c1] at hE
      subst hE
      rw [if_pos c1] at hmd
      subst hmd
      obtain ⟨ggn, gge⟩ := gg
      simp only [csD, gD, mD, gA, mA] at *
      simp (config := { maxSteps := 1000000 }) (disch := first | omega | (simp only [go_sem]; omega)) only [go_sem, ↓reduceIte]
      refine call_by ro ?_
      simp (config := { maxSteps := 1000000 }) (disch := first | omega | (simp only [go_sem]; omega)) only [go_sem, ↓reduceIte]
      refine call_by r1 ?_
      simp (config := { maxSteps := 1000000 }) (disch := first | omega | (simp only [go_sem]; omega)) only [go_sem, ↓reduceIte, c1]
      simp [m0, mA, ints]
  · rw [if_pos c0] at hE
    subst hE
    rw [if_pos c0] at hmd
    subst hmd
    obtain ⟨ggn, gge⟩ := gg
    obtain ⟨ppn, ppe⟩ := pp
    obtain ⟨qqn, qqe⟩ := qq
    simp only [csD, gD, mD, gA, mA] at *
    simp (config := { maxSteps := 1000000 }) (disch := first | omega | (simp only [go_sem]; omega)) only [go_sem, ↓reduceIte]
    refine call_by ro ?_
    simp (config := { maxSteps := 1000000 }) (disch := first | omega | (simp only [go_sem]; omega)) only [go_sem, ↓reduceIte, c0]
    simp [m0, mA, ints]
end
end Go.Am
