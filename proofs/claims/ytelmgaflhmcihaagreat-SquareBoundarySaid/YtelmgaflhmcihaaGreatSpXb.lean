/- Graphs that grow as numbers say; spans of drafts. -/
import Derived.Test.YtelmgaflhmcihaaGreatSpPa
import Derived.Test.YtelmgaflhmcihaaGreatSpPb
import Derived.Test.YtelmgaflhmcihaaGreatSpPc
import Derived.Test.YtelmgaflhmcihaaGreatSpPd
import Derived.Test.YtelmgaflhmcihaaGreatSpPe
import Derived.Test.YtelmgaflhmcihaaGreatSpXa
import Derived.Test.YtelmgaflhmcihaaGreatAmRu
namespace Go.Am
open Go
set_option linter.unusedVariables false
set_option linter.unusedSimpArgs false
attribute [local irreducible] W
@[go_sem] def c_r10_Grown_r0 : LL := [qB 2 0,qa 4 [.nl 1,.nl 3],qa 5 [.nl 1,.nl 1]]
@[go_sem] def c_r10_Grown_r1 (F : Fn) : LL := [qL 10 2 2,qc 11 (F "r05.Copied") [.t 10],qL 12 2 2,qc 13 (F "r06.Of") [.t 12],qa 6 [.nl 1,.nl 3],qa 7 [.nl 1,.nl 1],qs 2 6 11,qs 2 7 13]
@[go_sem] def c_r10_Grown_r2 : LL := [qm 14 1,qz 15 14,qk .gtr 16 15 0,qm 17 16,qg 17 true (qm 18 1),⟨some 19,.iad 1 (.t 18) (.k (.int .i64 (0))),some (17,true)⟩,qg 17 true (ql 20 1 19),
 ⟨some 21,.bin .lss (.t 20) (.k (.int .u8 (255))),some (17,true)⟩,qP 22 17 21]
@[go_sem] def c_r10_Grown_r3 (F : Fn) : LL := [qL 24 2 2,qm 25 1,qc 26 (F "r06.Image") [.t 24,.t 25],qm 23 26,qx 27 23 0,qx 28 23 1,qs 2 6 27,qs 2 7 28]
@[go_sem] def c_r10_Grown_r4 (F : Fn) : LL := [qL 29 2 6,qc 30 (F "r05.Copied") [.t 29],qs 2 6 30]
@[go_sem] def c_r10_Grown_r5 : LL := [qi 8 1]
@[go_sem] def c_r10_Grown_r6 : LL := [qm 31 8,qm 32 1,qz 33 32,qo .lss 34 31 33,qm 35 34,qg 35 true (qm 36 8),qg 35 true (qk .leq 37 36 3),qP 38 35 37]
@[go_sem] def c_r10_Grown_r7 : LL := [qm 41 1,qm 42 8,qd 43 1 41 42,ql 44 1 43,⟨some 45,.bin .rem (.t 44) (.k (.int .u8 (2))),none⟩,⟨some 46,.bin .eql (.t 45) (.k (.int .u8 (1))),none⟩]
@[go_sem] def c_r10_Grown_r8 : LL := [qf 47 0 6,ql 48 1 47,qm 49 1,qm 50 8,qd 51 1 49 50,ql 52 1 51,⟨some 53,.bin .quo (.t 52) (.k (.int .u8 (2))),none⟩,⟨some 54,.conv .i64 (.t 53),none⟩,qk .rem 55 54 3,
 ⟨some 56,.buildSl 1 8 (.int .i64 (0)) 1 [(0,.t 55)],none⟩,qp 57 1 8 48 56,qf 58 0 6,qs 1 58 57]
@[go_sem] def c_r10_Grown_r9 : LL := [qm 39 8,qk .add 40 39 1,qm 8 40]
def c_r10_Grown_b10 : LC := (.seq (.seq (.reg c_r10_Grown_r6 [1,4,5,6,7,8,38]) (.cond (.t 38) .skip (.exit 0))) (.seq (.block 1 (.seq (.reg c_r10_Grown_r7 [1,4,5,6,7,8,46]) (.cond (.t 46) (.dreg [(1,none,[],true),(9,none,[1],false)] c_r10_Grown_r8 [1,4,5,6,7,8]) .skip))) (.reg c_r10_Grown_r9 [1,4,5,6,7,8])))
@[go_sem] def c_r10_Grown_r11 : LL := [qi 9 4]
@[go_sem] def c_r10_Grown_r12 : LL := [qm 59 9,qm 60 1,qz 61 60,qo .lss 62 59 61,qm 63 62,qg 63 true (qm 64 9),qg 63 true (qk .leq 65 64 7),qP 66 63 65,qm 67 66,qg 67 true (qf 68 0 6),qg 67 true (ql 69 1 68),
 qg 67 true (qz 70 69),qg 67 true (qk .gtr 71 70 0),qP 72 67 71]
@[go_sem] def c_r10_Grown_r13 : LL := [qf 75 1 6,ql 76 1 75,qm 77 1,qm 78 9,qd 79 1 77 78,ql 80 1 79,⟨some 81,.conv .i64 (.t 80),none⟩,qk .rem 82 81 2,qm 83 1,qm 84 9,qd 85 1 83 84,ql 86 1 85,
 ⟨some 87,.bin .quo (.t 86) (.k (.int .u8 (2))),none⟩,⟨some 88,.conv .i64 (.t 87),none⟩,qf 89 0 6,ql 90 1 89,qz 91 90,qo .rem 92 88 91,qm 93 1,qm 94 9,qd 95 1 93 94,ql 96 1 95,
 ⟨some 97,.bin .quo (.t 96) (.k (.int .u8 (16))),none⟩,⟨some 98,.conv .i64 (.t 97),none⟩,qf 99 0 6,ql 100 1 99,qz 101 100,qo .rem 102 98 101,
 qu 103 [.int .i64 (0),.int .i64 (0),.int .i64 (0)] [(0,1,.t 82),(1,1,.t 92),(2,1,.t 102)],
 ⟨some 104,.buildSl 3 24 (.agg [.int .i64 (0),.int .i64 (0),.int .i64 (0)]) 1 [(0,.t 103)],none⟩,qp 105 3 24 76 104,qf 106 1 6,qs 1 106 105]
@[go_sem] def c_r10_Grown_r14 : LL := [qm 73 9,qk .add 74 73 1,qm 9 74]
def c_r10_Grown_b15 : LC := (.seq (.seq (.reg c_r10_Grown_r12 [1,4,5,6,7,9,72]) (.cond (.t 72) .skip (.exit 2))) (.seq (.block 3 (.dreg [(1,none,[],true),(29,none,[1],false)] c_r10_Grown_r13 [1,4,5,6,7,9])) (.reg c_r10_Grown_r14 [1,4,5,6,7,9])))
@[go_sem] def c_r10_Grown_r16 : LL := [qL 107 2 6,qL 108 2 7,qs 2 4 107,qs 2 5 108]
@[go_sem] def c_r10_Grown (F : Fn) : LC := (.seq (.reg c_r10_Grown_r0 [1,2,4,5]) (.seq (.dreg [(1,none,[],true),(2,(some 0),[1],false)] (c_r10_Grown_r1 F) [1,2,4,5,6,7]) (.seq (.seq (.reg c_r10_Grown_r2 [1,2,4,5,6,7,22]) (.cond (.t 22) (.reg (c_r10_Grown_r3 F) [1,4,5,6,7]) .skip)) (.seq (.reg (c_r10_Grown_r4 F) [1,4,5,6,7]) (.seq (.seq (.reg c_r10_Grown_r5 [1,4,5,6,7,8]) (.block 0 (.loop [1,4,5,6,7,8] c_r10_Grown_b10))) (.seq (.seq (.reg c_r10_Grown_r11 [1,4,5,6,7,9]) (.block 2 (.loop [1,4,5,6,7,9] c_r10_Grown_b15))) (.seq (.dreg [(1,none,[],true),(2,none,[1],false)] c_r10_Grown_r16 [4,5]) .ret)))))))
def h_r10_Grown : Hints := hn [] [(0,[1,2,4,5]),(1,[1,2,4,5,6,7]),(2,[1,2,4,5,6,7,22]),(3,[1,4,5,6,7]),(4,[1,4,5,6,7]),(5,[1,4,5,6,7,8]),(6,[1,4,5,6,7,8,38]),(7,[1,4,5,6,7,8]),(8,[1,4,5,6,7,8,46]),(9,[1,4,5,6,7,8]),(10,[1,4,5,6,7,9]),(11,[1,4,5,6,7,9,72]),(12,[1,4,5,6,7,9]),(13,[1,4,5,6,7,9]),(14,[4,5])] [(6,[1,4,5,6,7,8]),(11,[1,4,5,6,7,9])]
def growN (c : List Int) : Nat → List Int
 | 0 => []
 | i + 1 => if (gt c (((i + 1 : Nat) : Int))).tmod 2 = 1 then growN c i ++ [((gt c (((i + 1 : Nat) : Int))).tdiv 2).tmod 3] else growN c i
def growE (c : List Int) (n : Int) : Nat → List E
 | 0 => []
 | i + 1 => growE c n i ++ [⟨(gt c (((i + 4 : Nat) : Int))).tmod 2, ((gt c (((i + 4 : Nat) : Int))).tdiv 2).tmod n, ((gt c (((i + 4 : Nat) : Int))).tdiv 16).tmod n⟩]
def grB (a : G) (c : List Int) : G × Mo := if 0 < c.length ∧ gt c 0 < 255 then (imG a c, imMo a c) else (a, idM a)
def grN (c : List Int) : List Int := growN c (min (c.length - 1) 3)
def grE (n : Nat) (c : List Int) : List E := if n = 0 then [] else growE c n (min (c.length - 4) 4)
def grG (a : G) (c : List Int) : G := ⟨(grB a c).1.n ++ grN c, (grB a c).1.e ++ grE ((grB a c).1.n ++ grN c).length c⟩
def grM (a : G) (c : List Int) : Mo := (grB a c).2
section
variable (P : Program) (F : String → Nat)
def K_r10_Grown : Prop := ∀ (a : G) (c : List Int), validG a = 0 → c.length ≤ 2000000 → (∀ v ∈ c, Byte v) → FC P (F "r10.Grown") [gD a, .lst 1 (u8s c)] (.tup [gA (grG a c), mA (grM a c)]) []
end
section
variable {P : Program} {F : String → Nat} {α : Type}
theorem wrap_u8 {n : Int} (h : 0 ≤ n) (h' : n ≤ 255) : IntKind.u8.wrap n = n := by
 unfold IntKind.wrap
 simp [IntKind.bits, IntKind.signed]
 omega
theorem tdiv_bd {x : Int} (h : Byte x) (m : Int) (hm : 0 ≤ m := by omega) : 0 ≤ x.tdiv m ∧ x.tdiv m ≤ 255 := by
 obtain ⟨h1, h2⟩ := h
 refine ⟨Int.tdiv_nonneg h1 hm, ?_⟩
 rw [Int.tdiv_eq_ediv_of_nonneg h1]
 exact Int.le_trans (Int.ediv_le_self _ h1) h2
theorem growN_len (c : List Int) : ∀ i, (growN c i).length ≤ i
 | 0 => by simp [growN]
 | i + 1 => by rw [growN]; have := growN_len c i; split <;> simp <;> omega
theorem growE_len (c : List Int) (n : Int) : ∀ i, (growE c n i).length = i
 | 0 => by simp [growE]
 | i + 1 => by rw [growE, List.length_append, growE_len c n i]; rfl
theorem grN_len (c : List Int) : (grN c).length ≤ 3 := by
 have := growN_len c (min (c.length - 1) 3)
 unfold grN; omega
theorem grE_len (n : Nat) (c : List Int) : (grE n c).length ≤ 4 := by
 unfold grE
 split
 ·simp
 ·rw [growE_len]; omega
theorem growN_ok {c : List Int} (hc : ∀ v ∈ c, Byte v) : ∀ i : Nat, i < c.length → ∀ x ∈ growN c i, okN x = true
 | 0, _, x, hx => by simp [growN] at hx
 | i + 1, hi, x, hx => by
  rw [growN] at hx
  have hb := hc _ (gt_mem (l := c) (j := ((i + 1 : Nat) : Int)) (by omega) (by omega))
  split at hx
  ·rcases List.mem_append.1 hx with hx | hx
   ·exact growN_ok hc i (by omega) x hx
   ·rw [List.mem_singleton] at hx
    have := tdiv_bd hb 2
    have := tmod_bd (x := (gt c (((i + 1 : Nat) : Int))).tdiv 2) (m := 3) this.1 (by omega)
    rw [hx]
    simp only [okN, decide_eq_true_eq]
    omega
  ·exact growN_ok hc i (by omega) x hx
theorem growE_ok {c : List Int} (hc : ∀ v ∈ c, Byte v) {n : Nat} (hn : 0 < n) : ∀ i : Nat, i ≤ c.length - 4 → ∀ x ∈ growE c n i, fitsE n x = true
 | 0, _, x, hx => by simp [growE] at hx
 | i + 1, hi, x, hx => by
  rw [growE] at hx
  have hb := hc _ (gt_mem (l := c) (j := ((i + 4 : Nat) : Int)) (by omega) (by omega))
  rcases List.mem_append.1 hx with hx | hx
  ·exact growE_ok hc hn i (by omega) x hx
  ·rw [List.mem_singleton] at hx
   have h1 := tmod_bd (x := gt c (((i + 4 : Nat) : Int))) (m := 2) hb.1 (by omega)
   have h2 := tmod_bd (x := (gt c (((i + 4 : Nat) : Int))).tdiv 2) (m := n) (tdiv_bd hb 2).1 (by omega)
   have h3 := tmod_bd (x := (gt c (((i + 4 : Nat) : Int))).tdiv 16) (m := n) (tdiv_bd hb 16).1 (by omega)
   rw [hx]
   exact fits_mk (by simp only; omega) h2 h3
theorem grB_ok {a : G} {c : List Int} (hv : validG a = 0) (hc : ∀ v ∈ c, Byte v) : MOk a (grB a c).1 (grB a c).2 ∧ (grB a c).1.n.length ≤ a.n.length ∧ (grB a c).1.e.length ≤ a.e.length := by
 unfold grB
 split
 ·have := img_sz hc hv
  exact ⟨img_okM hv hc, this.2.1, this.2.2⟩
 ·exact ⟨idM_ok hv, Nat.le_refl _, Nat.le_refl _⟩
theorem ext_okM {a b : G} {m : Mo} {ns : List Int} {es : List E} (hm : MOk a b m) (hv : validG ⟨b.n ++ ns, b.e ++ es⟩ = 0) : MOk a ⟨b.n ++ ns, b.e ++ es⟩ m := by
 refine ⟨hm.va, hv, hm.ln, hm.le, fun i hi => ?_, fun i hi => ?_⟩
 ·obtain ⟨h1, h2⟩ := hm.nd i hi
  obtain ⟨k, hk, hk2⟩ := gtI h1
  simp only
  rw [hk2] at h1 h2 ⊢
  rw [gt_appL hk]
  exact ⟨by simp; omega, h2⟩
 ·obtain ⟨h1, h2⟩ := hm.ed i hi
  obtain ⟨k, hk, hk2⟩ := gtI h1
  simp only
  rw [hk2] at h1 h2 ⊢
  rw [gt_appL hk]
  exact ⟨by simp; omega, h2⟩
theorem gr_ok {a : G} {c : List Int} (hv : validG a = 0) (hc : ∀ v ∈ c, Byte v) (s1 : a.n.length ≤ 37) (s2 : a.e.length ≤ 76) :
  MOk a (grG a c) (grM a c) ∧ (grG a c).n.length ≤ a.n.length + 3 ∧ (grG a c).e.length ≤ a.e.length + 4 := by
 obtain ⟨hm, l1, l2⟩ := grB_ok hv hc
 have n1 := grN_len c
 have n2 := grE_len ((grB a c).1.n ++ grN c).length c
 have vs := valid_spec hm.vb
 refine ⟨ext_okM hm (valid_mk ?_ ?_ (fun x hx => ?_) (fun x hx => ?_)), ?_, ?_⟩
 ·simp only [List.length_append]; omega
 ·simp only [List.length_append] at n2 ⊢; omega
 ·rcases List.mem_append.1 hx with hx | hx
  ·exact vs.2.2.1 x hx
  ·by_cases c0 : c.length = 0
   ·have : grN c = [] := by unfold grN; rw [show min (c.length - 1) 3 = 0 by omega]; rfl
    rw [this] at hx; simp at hx
   ·exact growN_ok hc _ (by omega) x hx
 ·rcases List.mem_append.1 hx with hx | hx
  ·have := fits_spec (vs.2.2.2 x hx)
   have e : (((grB a c).1.n ++ grN c).length : Int) = (grB a c).1.n.length + (grN c).length := by simp
   exact fits_mk this.1 (by show 0 ≤ x.f ∧ x.f < (((grB a c).1.n ++ grN c).length : Int); rw [e]; omega) (by show 0 ≤ x.o ∧ x.o < (((grB a c).1.n ++ grN c).length : Int); rw [e]; omega)
  ·unfold grE at hx
   split at hx
   ·simp at hx
   ·rename_i h0
    exact growE_ok hc (Nat.pos_of_ne_zero h0) (min (c.length - 4) 4) (by omega) x hx
 ·simp only [grG, List.length_append]; omega
 ·simp only [grG, List.length_append] at n2 ⊢; omega
set_option maxHeartbeats 4000000 in
set_option maxRecDepth 100000 in
theorem w_r10_Grown (hcp : K_r05_Copied P F) (hof : K_r06_Of P F) (hi : K_r06_Image P F) (a : G) (c : List Int) (hv : validG a = 0) (hl : c.length ≤ 2000000) (hb : ∀ v ∈ c, Byte v) : W P (c_r10_Grown F) (Done [.c 4 true 2, .c 5 true 2] [] (.tup [gA (grG a c), mA (grM a c)]) []) (init [gD a, .lst 1 (u8s c)]) := by
 refine W_of ?_
 have vs := valid_spec hv
 have r1 := hcp a (by omega) (by omega)
 have r2 := hof a (by omega) (by omega)
 have r3 := hi a c hv hl hb
 obtain ⟨hm, b1, b2⟩ := grB_ok hv hb
 have r4 := hcp (grB a c).1 (by omega) (by omega)
 have hB : grB a c = if 0 < c.length ∧ gt c 0 < 255 then (imG a c, imMo a c) else (a, idM a) := rfl
 have hG : grG a c = ⟨(grB a c).1.n ++ grN c, (grB a c).1.e ++ grE ((grB a c).1.n ++ grN c).length c⟩ := rfl
 have hM : grM a c = (grB a c).2 := rfl
 have hN : grN c = growN c (min (c.length - 1) 3) := rfl
 have hE : ∀ n, grE n c = if n = 0 then [] else growE c n (min (c.length - 4) 4) := fun n => rfl
 have n1 := growN_len c
 have n2 := growE_len c
 have n0 : growN c 0 = [] := rfl
 have e0 : ∀ n, growE c n 0 = [] := fun n => rfl
 have nS : ∀ i : Nat, growN c (i + 1) = if (gt c (((i + 1 : Nat) : Int))).tmod 2 = 1 then growN c i ++ [((gt c (((i + 1 : Nat) : Int))).tdiv 2).tmod 3] else growN c i := fun i => rfl
 have eS : ∀ (n : Int) (i : Nat), growE c n (i + 1) = growE c n i ++ [⟨(gt c (((i + 4 : Nat) : Int))).tmod 2, ((gt c (((i + 4 : Nat) : Int))).tdiv 2).tmod n, ((gt c (((i + 4 : Nat) : Int))).tdiv 16).tmod n⟩] := fun n i => rfl
 rw [hG, hM]
 clear hG hM hm
 generalize imG a c = ig at *
 generalize imMo a c = im at *
 generalize idM a = ia at *
 generalize grB a c = b at *
 generalize growN c = gN at *
 generalize growE c = gE at *
 generalize grN c = gNc at *
 generalize (fun n => grE n c) = gEc at *
 obtain ⟨⟨on, oe⟩, ⟨qn, qe⟩⟩ := b
 obtain ⟨an, ae⟩ := a
 simp only at *
 have cases3 : (c.length = 0 ∧ on = an ∧ oe = ae ∧ ia = ⟨qn, qe⟩) ∨ (0 < c.length ∧ ¬ gt c 0 < 255 ∧ on = an ∧ oe = ae ∧ ia = ⟨qn, qe⟩) ∨ (0 < c.length ∧ gt c 0 < 255 ∧ ig = ⟨on, oe⟩ ∧ im = ⟨qn, qe⟩) := by
  by_cases h1 : 0 < c.length
  ·by_cases h2 : gt c 0 < 255
   ·rw [if_pos ⟨h1, h2⟩] at hB
    simp only [Prod.mk.injEq] at hB
    exact .inr (.inr ⟨h1, h2, hB.1.symm, hB.2.symm⟩)
   ·rw [if_neg (fun h => h2 h.2)] at hB
    simp only [Prod.mk.injEq, G.mk.injEq] at hB
    exact .inr (.inl ⟨h1, h2, hB.1.1, hB.1.2, hB.2.symm⟩)
  ·rw [if_neg (fun h => h1 h.1)] at hB
   simp only [Prod.mk.injEq, G.mk.injEq] at hB
   exact .inl ⟨by omega, hB.1.1, hB.1.2, hB.2.symm⟩
 clear hB
 rcases cases3 with ⟨h1, h2, h3, h4⟩ | ⟨h1, h1', h2, h3, h4⟩ | ⟨h1, h1', h2, h3⟩
 case' inl =>
  have d1 : decide ((0 : Int) < c.length) = false := decide_eq_false (by omega)
  subst h2 h3 h4
  simp only [gD, gA, mA, mD] at *
  simp (disch := omega) only [go_sem, ↓reduceIte]
  refine call_by r1 ?_
  simp (disch := omega) only [go_sem, ↓reduceIte]
  refine call_by r2 ?_
  simp (disch := omega) only [go_sem, ↓reduceIte, d1]
  refine call_by r4 ?_
  simp (disch := omega) only [go_sem, ↓reduceIte]
 case' inr.inl =>
  have d1 : decide ((0 : Int) < c.length) = true := decide_eq_true (by omega)
  have d2 : decide (gt c ((0 : Nat) : Int) < 255) = false := decide_eq_false h1'
  subst h2 h3 h4
  simp only [gD, gA, mA, mD] at *
  simp (disch := omega) only [go_sem, ↓reduceIte]
  refine call_by r1 ?_
  simp (disch := omega) only [go_sem, ↓reduceIte]
  refine call_by r2 ?_
  simp (disch := omega) only [go_sem, ↓reduceIte, d1, d2]
  refine call_by r4 ?_
  simp (disch := omega) only [go_sem, ↓reduceIte]
 case' inr.inr =>
  have d1 : decide ((0 : Int) < c.length) = true := decide_eq_true (by omega)
  have d2 : decide (gt c ((0 : Nat) : Int) < 255) = true := decide_eq_true h1'
  subst h2 h3
  obtain ⟨iN, iE⟩ := ia
  simp only [gD, gA, mA, mD] at *
  simp (disch := omega) only [go_sem, ↓reduceIte]
  refine call_by r1 ?_
  simp (disch := omega) only [go_sem, ↓reduceIte]
  refine call_by r2 ?_
  simp (disch := omega) only [go_sem, ↓reduceIte, d1, d2]
  refine call_by r3 ?_
  simp (disch := omega) only [go_sem, ↓reduceIte]
  refine call_by r4 ?_
  simp (disch := omega) only [go_sem, ↓reduceIte]
 all_goals
  clear h1
  refine W_loop (fun i : Nat => ⟨[(1, .lst 1 (u8s c)), (4, .pt 2 0), (5, .pt 5 0), (6, .pt 8 0), (7, .pt 11 0), (8, .int .i64 (((i + 1 : Nat) : Int)))],
   [(0, .arr 1 []), (1, .arr 3 []), (2, .box [.sl 0 0 0, .sl 1 0 0]), (3, .arr 1 []), (4, .arr 1 []), (5, .box [.sl 3 0 0, .sl 4 0 0]), (6, .arr 1 (ints (on ++ gN i))), (7, .arr 3 (eds oe)), (8, .box [.sl 6 0 (on.length + (gN i).length), .sl 7 0 oe.length]),
    (9, .arr 1 (ints qn)), (10, .arr 1 (ints qe)), (11, .box [.sl 9 0 qn.length, .sl 10 0 qe.length])], 12⟩) (fun i => i ≤ min (c.length - 1) 3) (fun i => 4 - i) 0 ?_ ?_ ?_
  ·simp (disch := omega) only [go_sem, ↓reduceIte, n0]
   rfl
  ·simp
  ·intro i hi
   have n1i := n1 i
   have al : (on ++ gN i).length = on.length + (gN i).length := List.length_append
   by_cases f : i + 1 < c.length ∧ i + 1 ≤ 3
   ·have g1 : decide (((i + 1 : Nat) : Int) < c.length) = true := decide_eq_true (by omega)
    have g2 : decide (((i + 1 : Nat) : Int) ≤ 3) = true := decide_eq_true (by omega)
    have hbi := hb _ (gt_mem (l := c) (j := ((i + 1 : Nat) : Int)) (by omega) (by omega))
    have q1 := tdiv_bd hbi 2
    have w1 : IntKind.u8.wrap ((gt c (((i + 1 : Nat) : Int))).tdiv 2) = (gt c (((i + 1 : Nat) : Int))).tdiv 2 := wrap_u8 q1.1 q1.2
    have w2 : IntKind.i64.wrap ((gt c (((i + 1 : Nat) : Int))).tdiv 2) = (gt c (((i + 1 : Nat) : Int))).tdiv 2 := wrap_i64 (by omega) (by omega)
    have z1 : ¬ ((2 : Int) = 0) := by omega
    have z2 : ¬ ((3 : Int) = 0) := by omega
    have hS := nS i
    by_cases e : (gt c (((i + 1 : Nat) : Int))).tmod 2 = 1
    ·have g3 : decide ((gt c (((i + 1 : Nat) : Int))).tmod 2 = 1) = true := decide_eq_true e
     rw [if_pos e] at hS
     have el : (gN i ++ [((gt c (((i + 1 : Nat) : Int))).tdiv 2).tmod 3]).length = (gN i).length + 1 := by simp
     simp (disch := omega) only [go_sem, ↓reduceIte, c_r10_Grown_b10, g1, g2, g3, z1, z2, w1, w2, al]
     exact ⟨i + 1, by simp [hS, Nat.add_assoc]; omega, by omega, by omega⟩
    ·have g3 : decide ((gt c (((i + 1 : Nat) : Int))).tmod 2 = 1) = false := decide_eq_false e
     rw [if_neg e] at hS
     simp (disch := omega) only [go_sem, ↓reduceIte, c_r10_Grown_b10, g1, g2, g3, z1, al]
     exact ⟨i + 1, by simp [hS], by omega, by omega⟩
   ·have hi' : i = min (c.length - 1) 3 := by omega
    have hg : (decide (((i + 1 : Nat) : Int) < c.length) = true ∧ decide (((i + 1 : Nat) : Int) ≤ 3) = false) ∨ decide (((i + 1 : Nat) : Int) < c.length) = false := by
     by_cases x : ((i + 1 : Nat) : Int) < c.length
     ·exact .inl ⟨decide_eq_true x, decide_eq_false (by omega)⟩
     ·exact .inr (decide_eq_false x)
    rw [← hi'] at hN
    rw [← hN] at al n1i ⊢
    rcases hg with ⟨g1, g2⟩ | g1
    case' inl => simp (disch := omega) only [go_sem, ↓reduceIte, c_r10_Grown_b10, g1, g2, al]
    case' inr => simp (disch := omega) only [go_sem, ↓reduceIte, c_r10_Grown_b10, g1, al]
    all_goals
     have hEn := hE (on ++ gNc).length
     rw [al] at hEn
     generalize hon : on ++ gNc = og at *
     generalize hnn : on.length + gNc.length = nn at *
     refine W_loop (fun j : Nat => ⟨[(1, .lst 1 (u8s c)), (4, .pt 2 0), (5, .pt 5 0), (6, .pt 8 0), (7, .pt 11 0), (9, .int .i64 (((j + 4 : Nat) : Int)))],
      [(0, .arr 1 []), (1, .arr 3 []), (2, .box [.sl 0 0 0, .sl 1 0 0]), (3, .arr 1 []), (4, .arr 1 []), (5, .box [.sl 3 0 0, .sl 4 0 0]), (6, .arr 1 (ints og)), (7, .arr 3 (eds (oe ++ gE nn j))), (8, .box [.sl 6 0 nn, .sl 7 0 (oe.length + j)]),
       (9, .arr 1 (ints qn)), (10, .arr 1 (ints qe)), (11, .box [.sl 9 0 qn.length, .sl 10 0 qe.length])], 12⟩) (fun j => j ≤ min (c.length - 4) 4 ∧ (nn = 0 → j = 0)) (fun j => 5 - j) 0 ?_ ?_ ?_
     ·simp (disch := omega) only [go_sem, ↓reduceIte, e0, al]
      rfl
     ·simp
     ·rintro j ⟨hj, hj0⟩
      have el : (oe ++ gE nn j).length = oe.length + j := by rw [List.length_append, n2]
      by_cases f2 : j + 4 < c.length ∧ j + 4 ≤ 7 ∧ 0 < nn
      ·have g1 : decide (((j + 4 : Nat) : Int) < c.length) = true := decide_eq_true (by omega)
       have g2 : decide (((j + 4 : Nat) : Int) ≤ 7) = true := decide_eq_true (by omega)
       have g3 : decide ((0 : Int) < nn) = true := decide_eq_true (by omega)
       have hbi := hb _ (gt_mem (l := c) (j := ((j + 4 : Nat) : Int)) (by omega) (by omega))
       have q1 := tdiv_bd hbi 2
       have q2 := tdiv_bd hbi 16
       have w1 : IntKind.u8.wrap ((gt c (((j + 4 : Nat) : Int))).tdiv 2) = (gt c (((j + 4 : Nat) : Int))).tdiv 2 := wrap_u8 q1.1 q1.2
       have w2 : IntKind.i64.wrap ((gt c (((j + 4 : Nat) : Int))).tdiv 2) = (gt c (((j + 4 : Nat) : Int))).tdiv 2 := wrap_i64 (by omega) (by omega)
       have w3 : IntKind.u8.wrap ((gt c (((j + 4 : Nat) : Int))).tdiv 16) = (gt c (((j + 4 : Nat) : Int))).tdiv 16 := wrap_u8 q2.1 q2.2
       have w4 : IntKind.i64.wrap ((gt c (((j + 4 : Nat) : Int))).tdiv 16) = (gt c (((j + 4 : Nat) : Int))).tdiv 16 := wrap_i64 (by omega) (by omega)
       have w5 : IntKind.i64.wrap (gt c (((j + 4 : Nat) : Int))) = gt c (((j + 4 : Nat) : Int)) := wrap_i64 (by have := hbi.1; omega) (by have := hbi.2; omega)
       have z1 : ¬ ((2 : Int) = 0) := by omega
       have z2 : ¬ ((16 : Int) = 0) := by omega
       have z3 : ¬ ((nn : Int) = 0) := by omega
       have hS := eS nn j
       simp (disch := omega) only [go_sem, ↓reduceIte, c_r10_Grown_b15, g1, g2, g3, z1, z2, z3, w1, w2, w3, w4, w5, al, el]
       exact ⟨j + 1, by simp [hS, Nat.add_assoc]; omega, ⟨by omega, by omega⟩, by omega⟩
      ·have hg : (decide (((j + 4 : Nat) : Int) < c.length) = true ∧ decide (((j + 4 : Nat) : Int) ≤ 7) = true ∧ decide ((0 : Int) < nn) = false) ∨ (decide (((j + 4 : Nat) : Int) < c.length) = true ∧ decide (((j + 4 : Nat) : Int) ≤ 7) = false) ∨ decide (((j + 4 : Nat) : Int) < c.length) = false := by
        by_cases x : ((j + 4 : Nat) : Int) < c.length
        ·by_cases y : ((j + 4 : Nat) : Int) ≤ 7
         ·exact .inl ⟨decide_eq_true x, decide_eq_true y, decide_eq_false (by omega)⟩
         ·exact .inr (.inl ⟨decide_eq_true x, decide_eq_false y⟩)
        ·exact .inr (.inr (decide_eq_false x))
       have hfin : grE nn c = gE nn j := by
        rw [hEn]
        by_cases x : nn = 0
        ·rw [if_pos x, hj0 x, e0]
        ·rw [if_neg x, show min (c.length - 4) 4 = j by omega]
       rw [al, hfin]
       rcases hg with ⟨g1, g2, g3⟩ | ⟨g1, g2⟩ | g1
       ·simp (disch := omega) only [go_sem, ↓reduceIte, c_r10_Grown_b15, g1, g2, g3, al, el]
        rfl
       ·simp (disch := omega) only [go_sem, ↓reduceIte, c_r10_Grown_b15, g1, g2, al, el]
        rfl
       ·simp (disch := omega) only [go_sem, ↓reduceIte, c_r10_Grown_b15, g1, al, el]
        rfl
end
@[go_sem] def c_r07_Made_r0 : LL := [qB 2 0,qa 4 [.nl 1,.nl 1]]
@[go_sem] def c_r07_Made_r1 : LL := [qf 9 0 2,ql 10 1 9,qz 11 10,⟨some 12,.makeSl 1 1 (.bool false) (.t 11),none⟩,qf 13 1 2,ql 14 1 13,qz 15 14,⟨some 16,.makeSl 1 1 (.bool false) (.t 15),none⟩,qm 5 12,qm 6 16]
@[go_sem] def c_r07_Made_r2 : LL := [qi 7 0]
@[go_sem] def c_r07_Made_r3 : LL := [qm 17 7,qm 18 5,qz 19 18,qo .lss 20 17 19]
@[go_sem] def c_r07_Made_r4 : LL := [qm 23 5,qm 24 7,qm 25 1,qm 26 7,qk .rem 27 26 64,qo .shr 28 25 27,⟨some 29,.bin .and (.t 28) (.k (.int .u64 (1))),none⟩,⟨some 30,.bin .eql (.t 29) (.k (.int .u64 (1))),none⟩,
 qd 31 1 23 24,qs 1 31 30]
@[go_sem] def c_r07_Made_r5 : LL := [qm 21 7,qk .add 22 21 1,qm 7 22]
def c_r07_Made_b6 : LC := (.seq (.seq (.reg c_r07_Made_r3 [1,2,4,5,6,7,20]) (.cond (.t 20) .skip (.exit 0))) (.seq (.block 1 (.reg c_r07_Made_r4 [1,2,4,5,6,7])) (.reg c_r07_Made_r5 [1,2,4,5,6,7])))
@[go_sem] def c_r07_Made_r7 : LL := [qi 8 0]
@[go_sem] def c_r07_Made_r8 : LL := [qm 32 8,qm 33 6,qz 34 33,qo .lss 35 32 34]
@[go_sem] def c_r07_Made_r9 : LL := [qm 38 6,qm 39 8,qm 40 1,qm 41 5,qz 42 41,qm 43 8,qo .add 44 42 43,qk .rem 45 44 64,qo .shr 46 40 45,⟨some 47,.bin .and (.t 46) (.k (.int .u64 (1))),none⟩,
 ⟨some 48,.bin .eql (.t 47) (.k (.int .u64 (1))),none⟩,qd 49 1 38 39,qs 1 49 48]
@[go_sem] def c_r07_Made_r10 : LL := [qm 36 8,qk .add 37 36 1,qm 8 37]
def c_r07_Made_b11 : LC := (.seq (.seq (.reg c_r07_Made_r8 [1,2,4,5,6,8,35]) (.cond (.t 35) .skip (.exit 2))) (.seq (.block 3 (.reg c_r07_Made_r9 [1,2,4,5,6,8])) (.reg c_r07_Made_r10 [1,2,4,5,6,8])))
@[go_sem] def c_r07_Made_r12 (F : Fn) : LL := [qL 50 2 2,qm 51 5,qm 52 6,qc 53 (F "r07.Least") [.t 50,.t 51,.t 52],qs 2 4 53]
@[go_sem] def c_r07_Made (F : Fn) : LC := (.seq (.reg c_r07_Made_r0 [1,2,4]) (.seq (.dreg [(5,(some 16),[],false)] c_r07_Made_r1 [1,2,4,5,6]) (.seq (.seq (.reg c_r07_Made_r2 [1,2,4,5,6,7]) (.block 0 (.loop [1,2,4,5,6,7] c_r07_Made_b6))) (.seq (.seq (.reg c_r07_Made_r7 [1,2,4,5,6,8]) (.block 2 (.loop [1,2,4,5,6,8] c_r07_Made_b11))) (.seq (.reg (c_r07_Made_r12 F) [4]) .ret)))))
def h_r07_Made : Hints := hOf [] (c_r07_Made fun _ => 0)
def bitB (s i : Int) : Bool := decide (IntKind.u64.wrap ((BitVec.ofInt 64 (s.fdiv (2 ^ (min (i.tmod 64).toNat 64))) &&& 1#64).toNat : Int) = 1)
def bitL (s : Int) (n m : Nat) : List Bool := (List.range m).map fun k : Nat => bitB s ((n : Int) + (k : Int))
def partP (g : G) (s : Int) : Mo := leastP g (bitL s 0 g.n.length) (bitL s g.n.length g.e.length)
section
variable (P : Program) (F : String → Nat)
def K_r07_Made : Prop := ∀ (g : G) (s : Int), validG g = 0 → FC P (F "r07.Made") [gD g, .int .u64 s] (mA (partP g s)) []
end
section
variable {P : Program} {F : String → Nat} {α : Type}
theorem bitL_len (s : Int) (n m : Nat) : (bitL s n m).length = m := by simp [bitL]
theorem bitL_gt {s : Int} {n m k : Nat} (h : k < m) : gt (bitL s n m) (k : Int) = bitB s ((n : Int) + k) := by
 rw [gt_nat (by rw [bitL_len]; exact h)]
 simp [bitL]
theorem least_close {g : G} {bn be : List Bool} (h1 : bn.length = g.n.length) (h2 : be.length = g.e.length) : leastP g bn be = closeP g (markL bn) (markL be) := by
 have hm : ∀ (b : List Bool) (k : Nat), k < b.length → gt b k = decide ((k : Int) ∈ markL b) := fun b k hk => by
  rw [Bool.eq_iff_iff, decide_eq_true_eq, markL_mem]
  exact ⟨fun h => ⟨hk, h⟩, fun h => h.2⟩
 refine close_least h1 h2 (fun k hk => hm bn k (by omega)) (fun k hk => hm be k (by omega)) fun x hx => ?_
 obtain ⟨k, hk, _, rfl⟩ := sel_mem.1 hx
 omega
theorem partP_ok {g : G} {s : Int} (hv : validG g = 0) : PK g (partP g s) := by
 unfold partP
 rw [least_close (bitL_len _ _ _) (bitL_len _ _ _)]
 exact closeP_ok hv
theorem w_r07_Made (hl : K_r07_Least P F) (g : G) (s : Int) (hv : validG g = 0) : W P (c_r07_Made F) (Done [.c 4 true 2] [] (mA (partP g s)) []) (init [gD g, .int .u64 s]) := by
 refine W_of ?_
 have vs := valid_spec hv
 have r1 := hl g (bitL s 0 g.n.length) (bitL s g.n.length g.e.length) hv (bitL_len _ _ _) (bitL_len _ _ _)
 have hL : partP g s = leastP g (bitL s 0 g.n.length) (bitL s g.n.length g.e.length) := rfl
 rw [hL]
 clear hL
 have b0 := bitL_len s 0 g.n.length
 have b1 := bitL_len s g.n.length g.e.length
 have bg0 : ∀ k : Nat, k < g.n.length → gt (bitL s 0 g.n.length) (k : Int) = bitB s (k : Int) := fun k hk => by rw [bitL_gt hk]; simp
 have bg1 : ∀ k : Nat, k < g.e.length → gt (bitL s g.n.length g.e.length) (k : Int) = bitB s ((g.n.length : Int) + k) := fun k hk => bitL_gt hk
 generalize bitL s 0 g.n.length = x0 at *
 generalize bitL s g.n.length g.e.length = x1 at *
 have hnb : ∀ i : Int, 0 ≤ i → ¬ i.tmod 64 < 0 := fun i h => by rw [Int.tmod_eq_emod_of_nonneg h]; omega
 have hb : ∀ i : Int, decide (IntKind.u64.wrap ((BitVec.ofInt 64 (s.fdiv (2 ^ (min (i.tmod 64).toNat 64))) &&& 1#64).toNat : Int) = 1) = bitB s i := fun i => rfl
 have z0 : ¬ ((64 : Int) = 0) := by omega
 obtain ⟨gn, ge⟩ := g
 simp only [gD] at *
 simp (disch := omega) only [go_sem, ↓reduceIte]
 refine W_loop (fun t : Nat × List Bool => ⟨[(1, .int .u64 s), (2, .pt 0 0), (4, .pt 3 0), (5, .sl 4 0 gn.length), (6, .sl 5 0 ge.length), (7, .int .i64 t.1)],
  [(0, .box [.lst 1 (ints gn), .lst 3 (eds ge)]), (1, .arr 1 []), (2, .arr 1 []), (3, .box [.sl 1 0 0, .sl 2 0 0]), (4, .arr 1 (bls t.2)), (5, .arr 1 (bls (List.replicate ge.length false)))], 6⟩)
  (fun t => t.1 ≤ gn.length ∧ t.2.length = gn.length ∧ ∀ k : Nat, k < t.1 → gt t.2 k = bitB s k) (fun t => gn.length - t.1) (0, List.replicate gn.length false) ?_ ?_ ?_
 ·simp (disch := omega) only [go_sem, ↓reduceIte]
  rfl
 ·exact ⟨by simp, by simp, fun k hk => by simp at hk⟩
 ·rintro ⟨i, z⟩ ⟨i1, i2, i3⟩
  simp only at i1 i2 i3
  by_cases c : i < gn.length
  ·have g1 : decide ((i : Int) < gn.length) = true := decide_eq_true (by omega)
   have hi := hnb i (by omega)
   have hbi := hb i
   simp (disch := omega) only [go_sem, ↓reduceIte, c_r07_Made_b6, g1, z0, hi, hbi, i2]
   refine ⟨(i + 1, z.set i (bitB s i)), by simp; rfl, ⟨by simp only; omega, by simp [i2], fun k hk => ?_⟩, by simp only; omega⟩
   simp only at hk
   simp only
   rw [gt_setB (by omega)]
   by_cases e : i = k
   ·subst e; simp
   ·rw [if_neg e]; exact i3 k (by omega)
  ·have g1 : decide ((i : Int) < gn.length) = false := decide_eq_false (by omega)
   obtain rfl : i = gn.length := by omega
   have hz : z = x0 := list_ext_gt (by omega) fun k hk => by rw [i3 k (by omega), bg0 k (by omega)]
   subst hz
   clear i3
   simp (disch := omega) only [go_sem, ↓reduceIte, c_r07_Made_b6, g1, i2]
   refine W_loop (fun t : Nat × List Bool => ⟨[(1, .int .u64 s), (2, .pt 0 0), (4, .pt 3 0), (5, .sl 4 0 gn.length), (6, .sl 5 0 ge.length), (8, .int .i64 t.1)],
    [(0, .box [.lst 1 (ints gn), .lst 3 (eds ge)]), (1, .arr 1 []), (2, .arr 1 []), (3, .box [.sl 1 0 0, .sl 2 0 0]), (4, .arr 1 (bls z)), (5, .arr 1 (bls t.2))], 6⟩)
    (fun t => t.1 ≤ ge.length ∧ t.2.length = ge.length ∧ ∀ k : Nat, k < t.1 → gt t.2 k = bitB s ((gn.length : Int) + k)) (fun t => ge.length - t.1) (0, List.replicate ge.length false) ?_ ?_ ?_
   ·simp (disch := omega) only [go_sem, ↓reduceIte]
    rfl
   ·exact ⟨by simp, by simp, fun k hk => by simp at hk⟩
   ·rintro ⟨i, y⟩ ⟨j1, j2, j3⟩
    simp only at j1 j2 j3
    by_cases c : i < ge.length
    ·have g1 : decide ((i : Int) < ge.length) = true := decide_eq_true (by omega)
     have hi := hnb ((gn.length : Int) + i) (by omega)
     have hbi := hb ((gn.length : Int) + i)
     simp (disch := omega) only [go_sem, ↓reduceIte, c_r07_Made_b11, g1, z0, hi, hbi, i2, j2]
     refine ⟨(i + 1, y.set i (bitB s ((gn.length : Int) + i))), by simp; rfl, ⟨by simp only; omega, by simp [j2], fun k hk => ?_⟩, by simp only; omega⟩
     simp only at hk
     simp only
     rw [gt_setB (by omega)]
     by_cases e : i = k
     ·subst e; simp
     ·rw [if_neg e]; exact j3 k (by omega)
    ·have g1 : decide ((i : Int) < ge.length) = false := decide_eq_false (by omega)
     obtain rfl : i = ge.length := by omega
     have hz : y = x1 := list_ext_gt (by omega) fun k hk => by rw [j3 k (by omega), bg1 k (by omega)]
     subst hz
     clear j3
     generalize leastP ⟨gn, ge⟩ z y = w at *
     obtain ⟨wn, we⟩ := w
     simp only [mA] at *
     simp (disch := omega) only [go_sem, ↓reduceIte, c_r07_Made_b11, g1, i2, j2]
     refine call_by r1 ?_
     simp (disch := omega) only [go_sem, ↓reduceIte]
     try rfl
def shU64 : Sh := .int .u64
theorem rd_u64 {x : D} (h : HasEl shU64 x) : ∃ n : Int, x = .int .u64 n := by
 simp only [shU64, HasEl] at h
 obtain ⟨n, rfl, _⟩ := h
 exact ⟨n, rfl⟩
end
section
variable {na nb nc nd : Nat} {f g h k : List Int}
theorem natB {x : Int} {n : Nat} (h : 0 ≤ x ∧ x < n) : ∃ k : Nat, k < n ∧ x = k := ⟨x.toNat, by omega, by omega⟩
end
section
variable {s t : Sq}
end
section
variable {na nb nc nd nb' nd' : Nat} {f g h k f' h' k' : List Int}
end
section
variable {s t : Sq} (e1 : t.a = s.b) (e2 : t.c = s.d) (e3 : t.g = s.h)
include e1 e2 e3
end
def Bts (l : List Int) : Prop := (∀ v ∈ l, Byte v) ∧ l.length ≤ maxL
section
variable (P : Program) (F : String → Nat)
end
section
variable {P : Program} {F : String → Nat} {α : Type}
end
@[go_sem] def c_l14_SquareBoundary_r0 : LL := [qB 3 0,qb 6 false]
@[go_sem] def c_l14_SquareBoundary_r1 (F : Fn) : LL := [qc 21 (F "l14.awake") [],qv 22 21,qm 23 22,qg 23 false (qm 24 1),qg 23 false (qz 25 24),qg 23 false (qk .gtr 26 25 10),qQ 27 23 26]
@[go_sem] def c_l14_SquareBoundary_r2 (F : Fn) : LL := [qc 28 (F "l14.awake") [],qm 6 28]
@[go_sem] def c_l14_SquareBoundary_r3 (F : Fn) : LL := [qL 29 2 3,qc 30 (F "r05.Made") [.t 29],qa 7 [.nl 1,.nl 3],qs 2 7 30]
@[go_sem] def c_l14_SquareBoundary_r4 (F : Fn) : LL := [qL 32 2 7,⟨some 33,.buildSl 1 1 (.int .u8 (0)) 1 [(0,.k (.int .u8 (255)))],none⟩,qm 34 1,qp 35 1 1 33 34,qc 36 (F "r10.Grown") [.t 32,.t 35],qm 31 36,qx 37 31 0,qx 38 31 1,
 qa 8 [.nl 1,.nl 3],qa 9 [.nl 1,.nl 1],qs 2 8 37,qs 2 9 38]
@[go_sem] def c_l14_SquareBoundary_r5 (F : Fn) : LL := [qL 40 2 7,qL 41 2 8,qL 42 2 9,qc 43 (F "square.Initial") [.t 40,.t 41,.t 42],qm 39 43,qx 44 39 0,qx 45 39 1,
 qa 10 [.nl 1,.nl 3,.nl 1,.nl 3,.nl 1,.nl 3,.nl 1,.nl 3,.nl 1,.nl 1,.nl 1,.nl 1,.nl 1,.nl 1,.nl 1,.nl 1],qs 16 10 44,qm 11 45]
@[go_sem] def c_l14_SquareBoundary_r6 (F : Fn) : LL := [qL 46 2 7,qm 47 2,qc 48 (F "r07.Made") [.t 46,.t 47],qa 12 [.nl 1,.nl 1],qs 2 12 48]
@[go_sem] def c_l14_SquareBoundary_r7 : LL := [qm 49 11,qk .neq 50 49 0,qm 51 50,qg 51 false (qf 52 8 10),qg 51 false (qf 53 0 52),qg 51 false (ql 54 1 53),qg 51 false (qz 55 54),qg 51 false (qf 56 0 10),
 qg 51 false (qf 57 0 56),qg 51 false (ql 58 1 57),qg 51 false (qz 59 58),qg 51 false (qo .neq 60 55 59),qQ 61 51 60,qm 62 61,qg 62 false (qf 63 8 10),qg 62 false (qf 64 1 63),
 qg 62 false (ql 65 1 64),qg 62 false (qz 66 65),qg 62 false (qk .neq 67 66 0),qQ 68 62 67]
@[go_sem] def c_l14_SquareBoundary_r8 : LL := [qb 6 false]
@[go_sem] def c_l14_SquareBoundary_r9 : LL := [qa 13 [.nl 1,.nl 1]]
@[go_sem] def c_l14_SquareBoundary_r10 : LL := [qf 69 0 8,ql 70 1 69,qz 71 70,qi 72 0]
@[go_sem] def c_l14_SquareBoundary_r11 : LL := [qo .lss 73 72 71]
@[go_sem] def c_l14_SquareBoundary_r12 : LL := [qm 74 72,qm 14 74]
@[go_sem] def c_l14_SquareBoundary_r13 (F : Fn) : LL := [qf 75 0 9,ql 76 1 75,qm 77 14,qc 78 (F "slices.Index.I") [.t 76,.t 77],qm 15 78]
@[go_sem] def c_l14_SquareBoundary_r14 (F : Fn) : LL := [qm 79 15,qk .lss 80 79 0,qm 81 80,qg 81 false (qf 82 0 12),qg 81 false (ql 83 1 82),qg 81 false (qm 84 15),qg 81 false (qc 85 (F "slices.Contains.I") [.t 83,.t 84]),qQ 86 81 85]
@[go_sem] def c_l14_SquareBoundary_r15 : LL := [qf 87 0 13,ql 88 1 87,qm 89 14,⟨some 90,.buildSl 1 8 (.int .i64 (0)) 1 [(0,.t 89)],none⟩,qp 91 1 8 88 90,qf 92 0 13,qs 1 92 91]
@[go_sem] def c_l14_SquareBoundary_r16 : LL := [qk .add 93 72 1,qm 72 93]
def c_l14_SquareBoundary_b17 (F : Fn) : LC := (.seq (.reg c_l14_SquareBoundary_r11 [8,9,10,12,13,71,72,73]) (.seq (.cond (.t 73) .skip (.exit 0)) (.seq (.block 1 (.seq (.reg c_l14_SquareBoundary_r12 [8,9,10,12,13,14,71,72]) (.seq (.reg (c_l14_SquareBoundary_r13 F) [8,9,10,12,13,14,15,71,72]) (.seq (.reg (c_l14_SquareBoundary_r14 F) [8,9,10,12,13,14,71,72,86]) (.cond (.t 86) (.reg c_l14_SquareBoundary_r15 [8,9,10,12,13,71,72]) .skip))))) (.reg c_l14_SquareBoundary_r16 [8,9,10,12,13,71,72]))))
@[go_sem] def c_l14_SquareBoundary_r18 : LL := [qf 94 1 8,ql 95 1 94,qz 96 95,qi 97 0]
@[go_sem] def c_l14_SquareBoundary_r19 : LL := [qo .lss 98 97 96]
@[go_sem] def c_l14_SquareBoundary_r20 : LL := [qm 99 97,qm 16 99]
@[go_sem] def c_l14_SquareBoundary_r21 (F : Fn) : LL := [qf 100 1 9,ql 101 1 100,qm 102 16,qc 103 (F "slices.Index.I") [.t 101,.t 102],qm 17 103]
@[go_sem] def c_l14_SquareBoundary_r22 (F : Fn) : LL := [qm 104 17,qk .lss 105 104 0,qm 106 105,qg 106 false (qf 107 1 12),qg 106 false (ql 108 1 107),qg 106 false (qm 109 17),qg 106 false (qc 110 (F "slices.Contains.I") [.t 108,.t 109]),qQ 111 106 110]
@[go_sem] def c_l14_SquareBoundary_r23 : LL := [qf 112 1 13,ql 113 1 112,qm 114 16,⟨some 115,.buildSl 1 8 (.int .i64 (0)) 1 [(0,.t 114)],none⟩,qp 116 1 8 113 115,qf 117 1 13,qs 1 117 116]
@[go_sem] def c_l14_SquareBoundary_r24 : LL := [qk .add 118 97 1,qm 97 118]
def c_l14_SquareBoundary_b25 (F : Fn) : LC := (.seq (.reg c_l14_SquareBoundary_r19 [8,9,10,12,13,96,97,98]) (.seq (.cond (.t 98) .skip (.exit 2)) (.seq (.block 3 (.seq (.reg c_l14_SquareBoundary_r20 [8,9,10,12,13,16,96,97]) (.seq (.reg (c_l14_SquareBoundary_r21 F) [8,9,10,12,13,16,17,96,97]) (.seq (.reg (c_l14_SquareBoundary_r22 F) [8,9,10,12,13,16,96,97,111]) (.cond (.t 111) (.reg c_l14_SquareBoundary_r23 [8,9,10,12,13,96,97]) .skip))))) (.reg c_l14_SquareBoundary_r24 [8,9,10,12,13,96,97]))))
@[go_sem] def c_l14_SquareBoundary_r26 : LL := [qb 18 true]
@[go_sem] def c_l14_SquareBoundary_r27 : LL := [qf 119 8 10,qf 120 0 119,ql 121 1 120,qz 122 121,qi 123 0]
@[go_sem] def c_l14_SquareBoundary_r28 : LL := [qo .lss 124 123 122]
@[go_sem] def c_l14_SquareBoundary_r29 : LL := [qd 125 1 121 123,ql 126 1 125,qm 20 126]
@[go_sem] def c_l14_SquareBoundary_r30 (F : Fn) : LL := [qm 127 18,qm 128 127,qg 128 true (qf 129 0 12),qg 128 true (ql 130 1 129),qg 128 true (qm 131 20),qg 128 true (qc 132 (F "slices.Contains.I") [.t 130,.t 131]),qP 133 128 132,qm 18 133]
@[go_sem] def c_l14_SquareBoundary_r31 : LL := [qk .add 134 123 1,qm 123 134]
def c_l14_SquareBoundary_b32 (F : Fn) : LC := (.seq (.reg c_l14_SquareBoundary_r28 [8,12,13,18,121,122,123,124]) (.seq (.cond (.t 124) .skip (.exit 4)) (.seq (.block 5 (.seq (.reg c_l14_SquareBoundary_r29 [8,12,13,18,20,121,122,123]) (.reg (c_l14_SquareBoundary_r30 F) [8,12,13,18,121,122,123]))) (.reg c_l14_SquareBoundary_r31 [8,12,13,18,121,122,123]))))
@[go_sem] def c_l14_SquareBoundary_r33 (F : Fn) : LL := [qm 135 18,qL 136 2 8,qL 137 2 13,qc 138 (F "r07.Right") [.t 136,.t 137],qk .eql 139 138 0,⟨some 140,.eqB false (.t 135) (.t 139),none⟩,qm 6 140]
@[go_sem] def c_l14_SquareBoundary (F : Fn) : LC := (.seq (.reg c_l14_SquareBoundary_r0 [1,2,3]) (.seq (.seq (.reg (c_l14_SquareBoundary_r1 F) [1,2,3,27]) (.cond (.t 27) (.seq (.reg (c_l14_SquareBoundary_r2 F) [6]) .ret) .skip)) (.seq (.reg (c_l14_SquareBoundary_r3 F) [1,2,7]) (.seq (.dreg [(0,none,[],true),(1,none,[0],false),(3,none,[0],false)] (c_l14_SquareBoundary_r4 F) [2,7,8,9]) (.seq (.reg (c_l14_SquareBoundary_r5 F) [2,7,8,9,10,11]) (.seq (.reg (c_l14_SquareBoundary_r6 F) [8,9,10,11,12]) (.seq (.seq (.reg c_l14_SquareBoundary_r7 [8,9,10,12,68]) (.cond (.t 68) (.seq (.reg c_l14_SquareBoundary_r8 [6]) .ret) .skip)) (.seq (.reg c_l14_SquareBoundary_r9 [8,9,10,12,13]) (.seq (.seq (.reg c_l14_SquareBoundary_r10 [8,9,10,12,13,71,72]) (.block 0 (.loop [8,9,10,12,13,71,72] (c_l14_SquareBoundary_b17 F)))) (.seq (.seq (.reg c_l14_SquareBoundary_r18 [8,9,10,12,13,96,97]) (.block 2 (.loop [8,9,10,12,13,96,97] (c_l14_SquareBoundary_b25 F)))) (.seq (.reg c_l14_SquareBoundary_r26 [8,10,12,13,18]) (.seq (.seq (.reg c_l14_SquareBoundary_r27 [8,12,13,18,121,122,123]) (.block 4 (.loop [8,12,13,18,121,122,123] (c_l14_SquareBoundary_b32 F)))) (.seq (.reg (c_l14_SquareBoundary_r33 F) [6]) .ret)))))))))))))
def h_l14_SquareBoundary : Hints := hOf [] (c_l14_SquareBoundary fun _ => 0)
def bndQ (a b : G) (p : Mo) : Mo := ⟨sel (fun i : Nat => decide (a.n.length ≤ i) || decide ((i : Int) ∈ p.n)) b.n.length, sel (fun i : Nat => decide (a.e.length ≤ i) || decide ((i : Int) ∈ p.e)) b.e.length⟩
theorem bndQ_n {a b : G} {p : Mo} {i : Nat} : (i : Int) ∈ (bndQ a b p).n ↔ i < b.n.length ∧ (a.n.length ≤ i ∨ (i : Int) ∈ p.n) := by unfold bndQ; rw [sel_memN]; simp
theorem bndQ_e {a b : G} {p : Mo} {i : Nat} : (i : Int) ∈ (bndQ a b p).e ↔ i < b.e.length ∧ (a.e.length ≤ i ∨ (i : Int) ∈ p.e) := by unfold bndQ; rw [sel_memN]; simp
theorem idM_at {g : G} {i : Nat} (hi : i < g.n.length) : gt (idM g).n i = i := by simp only [idM]; rw [nums_gt hi]
theorem idM_ate {g : G} {i : Nat} (hi : i < g.e.length) : gt (idM g).e i = i := by simp only [idM]; rw [nums_gt hi]
theorem bnd_right {a b : G} {p : Mo} (hm : MOk a b (idM a)) (hp : PK a p) : rightP b (bndQ a b p) = 0 ↔ ∀ x ∈ bdN a b (idM a), x ∈ p.n := by
 have hR : validP b (bndQ a b p) = rightP b (bndQ a b p) := by unfold validP; rw [if_neg (by rw [hm.vb]; simp)]
 rw [← hR, validP_ok]
 have nn : ∀ i : Nat, i < b.e.length → ¬ a.e.length ≤ i → (i : Int) ∈ (idM a).e := fun i hi h => by
  rw [← idM_ate (show i < a.e.length by omega)]
  have := hm.le
  exact gt_mem (by omega) (by omega)
 have ne : ∀ i : Nat, (i : Int) ∈ (idM a).e → i < a.e.length := fun i h => by
  obtain ⟨k, hk, ek⟩ := mem_gt h
  have := hm.le
  rw [idM_ate (show k < a.e.length by omega)] at ek
  omega
 constructor
 ·intro h x hx
  obtain ⟨k, hk, _, rfl⟩ := sel_mem.1 (show x ∈ sel _ _ from hx)
  have hk' : k < a.n.length := hk
  obtain ⟨_, h2⟩ := bdN_mem.1 hx
  obtain ⟨i, i1, i2, i3⟩ := ctE_ends.1 h2
  have hq : (i : Int) ∈ (bndQ a b p).e := bndQ_e.2 ⟨i1, .inl (Decidable.byContradiction fun c => i2 (nn i i1 c))⟩
  have hd := h.d _ hq
  rw [idM_at hk'] at i3
  have hin : (k : Int) ∈ (bndQ a b p).n := by
   rcases i3 with i3 | i3
   ·rw [← i3]; exact hd.1
   ·rw [← i3]; exact hd.2
  rcases (bndQ_n.1 hin).2 with c | c
  ·omega
  ·exact c
 ·intro h
  refine ⟨hm.vb, sel_asc _ _, sel_asc _ _, fun x hx => ?_⟩
  obtain ⟨i, hi, _, rfl⟩ := sel_mem.1 (show x ∈ sel _ _ from hx)
  have hi' : i < b.e.length := hi
  obtain ⟨_, h2⟩ := bndQ_e.1 hx
  have hf := edge_fits hm.vb (i := (i : Int)) (by omega)
  by_cases c : a.e.length ≤ i
  ·have key : ∀ y : Int, 0 ≤ y ∧ y < b.n.length → ((gt b.e i).f = y ∨ (gt b.e i).o = y) → y ∈ (bndQ a b p).n := fun y hy he => by
    obtain ⟨j, hj, rfl⟩ := natB hy
    refine bndQ_n.2 ⟨hj, ?_⟩
    by_cases cj : a.n.length ≤ j
    ·exact .inl cj
    ·refine .inr (h _ (bdN_mem.2 ⟨by omega, ?_⟩))
     rw [idM_at (by omega)]
     exact ctE_ends.2 ⟨i, hi', fun hc => by have := ne i hc; omega, he⟩
   exact ⟨key _ hf.2.1 (.inl rfl), key _ hf.2.2 (.inr rfl)⟩
  ·have hpe : (i : Int) ∈ p.e := by
    rcases h2 with h2 | h2
    ·exact absurd h2 c
    ·exact h2
   have hd := hp.d _ hpe
   obtain ⟨_, _, q1, q2⟩ := hm.ed i (by omega)
   rw [idM_ate (show i < a.e.length by omega)] at q1 q2
   obtain ⟨f, hf1, ef⟩ := natB (hp.n.b _ hd.1)
   obtain ⟨o, ho1, eo⟩ := natB (hp.n.b _ hd.2)
   rw [ef] at hd q1
   rw [eo] at hd q2
   rw [idM_at hf1] at q1
   rw [idM_at ho1] at q2
   rw [← q1, ← q2]
   have l1 := (hm.nd f hf1).1
   have l2 := (hm.nd o ho1).1
   rw [idM_at hf1] at l1
   rw [idM_at ho1] at l2
   exact ⟨bndQ_n.2 ⟨by omega, .inr hd.1⟩, bndQ_n.2 ⟨by omega, .inr hd.2⟩⟩
section
variable (P : Program) (F : String → Nat)
def K_l14_SquareBoundary : Prop := ∀ (d : Dr) (c : List Int) (t : Int), d.ok → d.n.length ≤ maxL → d.e.length ≤ maxL → Bts c → FC P (F "l14.SquareBoundary") [drD d, .lst 1 (u8s c), .int .u64 t] (.bool true) []
end
section
variable {P : Program} {F : String → Nat} {α : Type}
theorem grM_255 (a : G) (c : List Int) : grM a (255 :: c) = idM a := by
 unfold grM grB
 rw [if_neg (fun h => by have := h.2; simp [gt] at this)]
set_option maxHeartbeats 4000000 in
set_option maxRecDepth 100000 in
theorem w_l14_SquareBoundary (hw : K_l14_awake P F) (hm : K_r05_Made P F) (hgr : K_r10_Grown P F) (hi : K_square_Initial P F) (hp : K_r07_Made P F) (hx : K_slices_Index_I P F) (hc : K_slices_Contains_I P F) (hr : K_r07_Right P F) (d : Dr) (c : List Int) (t : Int) (hd : d.ok) (d1 : d.n.length ≤ maxL) (d2 : d.e.length ≤ maxL) (hcc : Bts c) :
  W P (c_l14_SquareBoundary F) (Done [.t 6] [] (.bool true) []) (init [drD d, .lst 1 (u8s c), .int .u64 t]) := by
 refine W_of ?_
 obtain ⟨hc1, hc2⟩ := hcc
 unfold maxL at hc2
 by_cases a1 : c.length ≤ 10
 case neg =>
  have e1 : decide ((10 : Int) < c.length) = true := decide_eq_true (by omega)
  simp only [drD] at *
  simp (disch := omega) only [go_sem, ↓reduceIte]
  refine call_by hw ?_
  simp (disch := omega) only [go_sem, ↓reduceIte, e1]
  refine call_by hw ?_
  simp (disch := omega) only [go_sem, ↓reduceIte]
 have e1 : decide ((10 : Int) < c.length) = false := decide_eq_false (by omega)
 have r1 := hm d hd d1 d2
 have va := madeG_valid hd
 have l1 := madeN_len d
 have l2 := madeE_len d
 have hb : ∀ v ∈ (255 : Int) :: c, Byte v := fun v hv => by
  rcases List.mem_cons.1 hv with rfl | hv
  ·exact ⟨by decide, by decide⟩
  ·exact hc1 v hv
 have r2 := hgr (madeG d) (255 :: c) va (by simp; omega) hb
 obtain ⟨om, z1, z2⟩ := gr_ok va hb (by have : (madeG d).n.length ≤ 8 := l1; omega) (by omega)
 rw [grM_255] at r2 om
 have r3 := hi (madeG d) (grG (madeG d) (255 :: c)) (idM (madeG d))
 have r4 := hp (madeG d) t va
 have pk := partP_ok (s := t) va
 generalize madeG d = a at *
 generalize grG a (255 :: c) = b at *
 generalize partP a t = p at *
 have hE : iniE a b (idM a) = 0 := by
  unfold iniE
  rw [if_neg (by simp [mok.2 om]), if_pos ?_]
  rw [injM_ok om]
  exact (injM_ok (idM_ok va)).1 (idM_inj va)
 have hR : iniR a b (idM a) = (iniS a b (idM a), 0) := by unfold iniR; rw [if_pos hE]
 rw [hR] at r3
 have vb := valid_spec om.vb
 have va2 := valid_spec va
 have hl := pk.len
 have r5 := hr b (bndQ a b p) om.vb (by have := sel_len (fun i : Nat => decide (a.n.length ≤ i) || decide ((i : Int) ∈ p.n)) b.n.length; unfold maxL; simp only [bndQ]; omega) (by have := sel_len (fun i : Nat => decide (a.e.length ≤ i) || decide ((i : Int) ∈ p.e)) b.e.length; unfold maxL; simp only [bndQ]; omega)
 have hbr := bnd_right om pk
 have hidn : ∀ i : Nat, idx (fun y => decide ((i : Int) = y)) (idM a).n 0 < 0 ∧ a.n.length ≤ i ∨ idx (fun y => decide ((i : Int) = y)) (idM a).n 0 = i ∧ i < a.n.length := fun i => by
  have ln := om.ln
  by_cases h : i < a.n.length
  ·refine .inr ⟨?_, h⟩
   have := idx_nd (l := (idM a).n) ((injM_ok (idM_ok va)).1 (idM_inj va)).1 (k := i) (by omega)
   rw [idM_at h] at this
   exact this
  ·refine .inl ⟨idx_neg.2 fun hc => ?_, by omega⟩
   obtain ⟨k, hk, ek⟩ := mem_gt hc
   rw [idM_at (show k < a.n.length by omega)] at ek
   omega
 have hide : ∀ i : Nat, idx (fun y => decide ((i : Int) = y)) (idM a).e 0 < 0 ∧ a.e.length ≤ i ∨ idx (fun y => decide ((i : Int) = y)) (idM a).e 0 = i ∧ i < a.e.length := fun i => by
  have ln := om.le
  by_cases h : i < a.e.length
  ·refine .inr ⟨?_, h⟩
   have := idx_nd (l := (idM a).e) ((injM_ok (idM_ok va)).1 (idM_inj va)).2 (k := i) (by omega)
   rw [idM_ate h] at this
   exact this
  ·refine .inl ⟨idx_neg.2 fun hc => ?_, by omega⟩
   obtain ⟨k, hk, ek⟩ := mem_gt hc
   rw [idM_ate (show k < a.e.length by omega)] at ek
   omega
 have rxn := fun i : Int => hx (idM a).n i (by have := om.ln; unfold maxL; omega)
 have rxe := fun i : Int => hx (idM a).e i (by have := om.le; unfold maxL; omega)
 have rcn := fun i : Int => hc p.n i (by unfold maxL; omega)
 have rce := fun i : Int => hc p.e i (by unfold maxL; omega)
 have ns := sel_succ (fun i : Nat => decide (a.n.length ≤ i) || decide ((i : Int) ∈ p.n))
 have nz := sel_zero (fun i : Nat => decide (a.n.length ≤ i) || decide ((i : Int) ∈ p.n))
 have nl := sel_len (fun i : Nat => decide (a.n.length ≤ i) || decide ((i : Int) ∈ p.n))
 have es := sel_succ (fun i : Nat => decide (a.e.length ≤ i) || decide ((i : Int) ∈ p.e))
 have ez := sel_zero (fun i : Nat => decide (a.e.length ≤ i) || decide ((i : Int) ∈ p.e))
 have el := sel_len (fun i : Nat => decide (a.e.length ≤ i) || decide ((i : Int) ∈ p.e))
 have hQ : bndQ a b p = ⟨sel (fun i : Nat => decide (a.n.length ≤ i) || decide ((i : Int) ∈ p.n)) b.n.length, sel (fun i : Nat => decide (a.e.length ≤ i) || decide ((i : Int) ∈ p.e)) b.e.length⟩ := rfl
 have hI : iniS a b (idM a) = ⟨ptG a (bdP a b (idM a)), a, ptG b (ctP a b (idM a)), b, ⟨bdN a b (idM a), []⟩, giM a b (idM a), idM a, ctP a b (idM a)⟩ := rfl
 have lA : (ptG a (bdP a b (idM a))).n.length = (bdN a b (idM a)).length := thr_len _ _
 rw [hI] at r3
 rw [hQ] at r5 hbr
 generalize sel (fun i : Nat => decide (a.n.length ≤ i) || decide ((i : Int) ∈ p.n)) = N at *
 generalize sel (fun i : Nat => decide (a.e.length ≤ i) || decide ((i : Int) ∈ p.e)) = M at *
 generalize ptG a (bdP a b (idM a)) = pa at *
 generalize ptG b (ctP a b (idM a)) = pb at *
 have lB : (bdN a b (idM a)).length ≤ 40 := by have := (bdP_ok om).len.1; exact this
 generalize bdN a b (idM a) = B at *
 generalize giM a b (idM a) = gi at *
 generalize ctP a b (idM a) = ct at *
 generalize hRt : rightP b ⟨N b.n.length, M b.e.length⟩ = rv at *
 clear hI hQ hR hE om hx hc hr hp hi hgr hm hRt pk
 generalize idM a = im at *
 obtain ⟨an, ae⟩ := a
 obtain ⟨bn, be⟩ := b
 obtain ⟨pn, pe⟩ := p
 obtain ⟨pan, pae⟩ := pa
 obtain ⟨pbn, pbe⟩ := pb
 obtain ⟨gin, gie⟩ := gi
 obtain ⟨imn, ime⟩ := im
 obtain ⟨ctn, cte⟩ := ct
 simp only [gD, gA, mD, mA, sqA, drD] at *
 have g1 : decide ((B.length : Int) = pan.length) = true := decide_eq_true (by omega)
 have g2 : decide (((0 : Nat) : Int) = 0) = true := by decide
 change FC P _ [_, .lst 1 (.int .u8 255 :: u8s c)] _ _ at r2
 simp (disch := omega) only [go_sem, ↓reduceIte]
 refine call_by hw ?_
 simp (disch := omega) only [go_sem, ↓reduceIte, e1]
 refine call_by r1 ?_
 simp (disch := omega) only [go_sem, ↓reduceIte]
 refine call_by r2 ?_
 simp (disch := omega) only [go_sem, ↓reduceIte]
 refine call_by r3 ?_
 simp (disch := omega) only [go_sem, ↓reduceIte]
 refine call_by r4 ?_
 simp (disch := omega) only [go_sem, ↓reduceIte, g1, g2]
 refine W_loop (fun i : Nat => ⟨[(8, .pt 2 0), (9, .pt 5 0), (10, .pt 22 0), (12, .pt 25 0), (13, .pt 28 0), (71, .int .i64 bn.length), (72, .int .i64 i)], [(0, .arr 1 (ints bn)), (1, .arr 3 (eds be)), (2, .box [.sl 0 0 bn.length, .sl 1 0 be.length]), (3, .arr 1 (ints imn)), (4, .arr 1 (ints ime)), (5, .box [.sl 3 0 imn.length, .sl 4 0 ime.length]), (6, .arr 1 (ints pan)), (7, .arr 3 (eds pae)), (8, .arr 1 (ints an)), (9, .arr 3 (eds ae)), (10, .arr 1 (ints pbn)), (11, .arr 3 (eds pbe)), (12, .arr 1 (ints bn)), (13, .arr 3 (eds be)), (14, .arr 1 (ints B)), (15, .arr 1 (ints [])), (16, .arr 1 (ints gin)), (17, .arr 1 (ints gie)), (18, .arr 1 (ints imn)), (19, .arr 1 (ints ime)), (20, .arr 1 (ints ctn)), (21, .arr 1 (ints cte)), (22, .box [.sl 6 0 pan.length, .sl 7 0 pae.length, .sl 8 0 an.length, .sl 9 0 ae.length, .sl 10 0 pbn.length, .sl 11 0 pbe.length, .sl 12 0 bn.length, .sl 13 0 be.length, .sl 14 0 B.length, .sl 15 0 0, .sl 16 0 gin.length, .sl 17 0 gie.length, .sl 18 0 imn.length, .sl 19 0 ime.length, .sl 20 0 ctn.length, .sl 21 0 cte.length]), (23, .arr 1 (ints pn)), (24, .arr 1 (ints pe)), (25, .box [.sl 23 0 pn.length, .sl 24 0 pe.length]), (26, .arr 1 (ints (N i))), (27, .arr 1 []), (28, .box [.sl 26 0 (N i).length, .sl 27 0 0])], 29⟩) (fun i => i ≤ bn.length) (fun i => bn.length - i) 0 ?_ ?_ ?_
 ·simp (disch := omega) only [go_sem, ↓reduceIte, nz]
  rfl
 ·simp
 ·intro i hi
  have li := nl i
  by_cases e : i < bn.length
  ·have d2 : decide ((i : Int) < bn.length) = true := decide_eq_true (by omega)
   have r6 := rxn i
   have sti := ns i
   rcases hidn i with ⟨q1, q2⟩ | ⟨q1, q2⟩
   ·generalize idx (fun y => decide ((i : Int) = y)) imn 0 = k at *
    have d3 : decide (k < 0) = true := decide_eq_true q1
    rw [if_pos (by simp [q2])] at sti
    simp (disch := omega) only [go_sem, ↓reduceIte, c_l14_SquareBoundary_b17, d2]
    refine call_by r6 ?_
    simp (disch := omega) only [go_sem, ↓reduceIte, d3]
    exact ⟨i + 1, by simp [sti], by omega, by omega⟩
   ·rw [q1] at r6
    have d3 : decide ((i : Int) < 0) = false := decide_eq_false (by omega)
    have r7 := rcn i
    by_cases q4 : (i : Int) ∈ pn
    ·rw [decide_eq_true q4] at r7
     rw [if_pos (by simp [q4])] at sti
     simp (disch := omega) only [go_sem, ↓reduceIte, c_l14_SquareBoundary_b17, d2]
     refine call_by r6 ?_
     simp (disch := omega) only [go_sem, ↓reduceIte, d3]
     refine call_by r7 ?_
     simp (disch := omega) only [go_sem, ↓reduceIte]
     exact ⟨i + 1, by simp [sti], by omega, by omega⟩
    ·rw [decide_eq_false q4] at r7
     rw [if_neg (by simp [q4, q2])] at sti
     simp (disch := omega) only [go_sem, ↓reduceIte, c_l14_SquareBoundary_b17, d2]
     refine call_by r6 ?_
     simp (disch := omega) only [go_sem, ↓reduceIte, d3]
     refine call_by r7 ?_
     simp (disch := omega) only [go_sem, ↓reduceIte]
     exact ⟨i + 1, by simp [sti], by omega, by omega⟩
  ·have d2 : decide ((i : Int) < bn.length) = false := decide_eq_false (by omega)
   obtain rfl : i = bn.length := by omega
   simp (disch := omega) only [go_sem, ↓reduceIte, c_l14_SquareBoundary_b17, d2]
   refine W_loop (fun i : Nat => ⟨[(8, .pt 2 0), (9, .pt 5 0), (10, .pt 22 0), (12, .pt 25 0), (13, .pt 28 0), (96, .int .i64 be.length), (97, .int .i64 i)], [(0, .arr 1 (ints bn)), (1, .arr 3 (eds be)), (2, .box [.sl 0 0 bn.length, .sl 1 0 be.length]), (3, .arr 1 (ints imn)), (4, .arr 1 (ints ime)), (5, .box [.sl 3 0 imn.length, .sl 4 0 ime.length]), (6, .arr 1 (ints pan)), (7, .arr 3 (eds pae)), (8, .arr 1 (ints an)), (9, .arr 3 (eds ae)), (10, .arr 1 (ints pbn)), (11, .arr 3 (eds pbe)), (12, .arr 1 (ints bn)), (13, .arr 3 (eds be)), (14, .arr 1 (ints B)), (15, .arr 1 (ints [])), (16, .arr 1 (ints gin)), (17, .arr 1 (ints gie)), (18, .arr 1 (ints imn)), (19, .arr 1 (ints ime)), (20, .arr 1 (ints ctn)), (21, .arr 1 (ints cte)), (22, .box [.sl 6 0 pan.length, .sl 7 0 pae.length, .sl 8 0 an.length, .sl 9 0 ae.length, .sl 10 0 pbn.length, .sl 11 0 pbe.length, .sl 12 0 bn.length, .sl 13 0 be.length, .sl 14 0 B.length, .sl 15 0 0, .sl 16 0 gin.length, .sl 17 0 gie.length, .sl 18 0 imn.length, .sl 19 0 ime.length, .sl 20 0 ctn.length, .sl 21 0 cte.length]), (23, .arr 1 (ints pn)), (24, .arr 1 (ints pe)), (25, .box [.sl 23 0 pn.length, .sl 24 0 pe.length]), (26, .arr 1 (ints (N bn.length))), (27, .arr 1 (ints (M i))), (28, .box [.sl 26 0 (N bn.length).length, .sl 27 0 (M i).length])], 29⟩) (fun i => i ≤ be.length) (fun i => be.length - i) 0 ?_ ?_ ?_
   ·simp (disch := omega) only [go_sem, ↓reduceIte, ez]
    rfl
   ·simp
   ·intro i hi
    have li := el i
    by_cases e : i < be.length
    ·have d2 : decide ((i : Int) < be.length) = true := decide_eq_true (by omega)
     have r6 := rxe i
     have sti := es i
     rcases hide i with ⟨q1, q2⟩ | ⟨q1, q2⟩
     ·generalize idx (fun y => decide ((i : Int) = y)) ime 0 = k at *
      have d3 : decide (k < 0) = true := decide_eq_true q1
      rw [if_pos (by simp [q2])] at sti
      simp (disch := omega) only [go_sem, ↓reduceIte, c_l14_SquareBoundary_b25, d2]
      refine call_by r6 ?_
      simp (disch := omega) only [go_sem, ↓reduceIte, d3]
      exact ⟨i + 1, by simp [sti], by omega, by omega⟩
     ·rw [q1] at r6
      have d3 : decide ((i : Int) < 0) = false := decide_eq_false (by omega)
      have r7 := rce i
      by_cases q4 : (i : Int) ∈ pe
      ·rw [decide_eq_true q4] at r7
       rw [if_pos (by simp [q4])] at sti
       simp (disch := omega) only [go_sem, ↓reduceIte, c_l14_SquareBoundary_b25, d2]
       refine call_by r6 ?_
       simp (disch := omega) only [go_sem, ↓reduceIte, d3]
       refine call_by r7 ?_
       simp (disch := omega) only [go_sem, ↓reduceIte]
       exact ⟨i + 1, by simp [sti], by omega, by omega⟩
      ·rw [decide_eq_false q4] at r7
       rw [if_neg (by simp [q4, q2])] at sti
       simp (disch := omega) only [go_sem, ↓reduceIte, c_l14_SquareBoundary_b25, d2]
       refine call_by r6 ?_
       simp (disch := omega) only [go_sem, ↓reduceIte, d3]
       refine call_by r7 ?_
       simp (disch := omega) only [go_sem, ↓reduceIte]
       exact ⟨i + 1, by simp [sti], by omega, by omega⟩
    ·have d2 : decide ((i : Int) < be.length) = false := decide_eq_false (by omega)
     obtain rfl : i = be.length := by omega
     simp (disch := omega) only [go_sem, ↓reduceIte, c_l14_SquareBoundary_b25, d2]
     refine W_loop (fun i : Nat => ⟨[(8, .pt 2 0), (12, .pt 5 0), (13, .pt 8 0), (18, .bool ((B.take i).all fun x => decide (x ∈ pn))), (121, .sl 9 0 B.length), (122, .int .i64 B.length), (123, .int .i64 i)], [(0, .arr 1 (ints bn)), (1, .arr 3 (eds be)), (2, .box [.sl 0 0 bn.length, .sl 1 0 be.length]), (3, .arr 1 (ints pn)), (4, .arr 1 (ints pe)), (5, .box [.sl 3 0 pn.length, .sl 4 0 pe.length]), (6, .arr 1 (ints (N bn.length))), (7, .arr 1 (ints (M be.length))), (8, .box [.sl 6 0 (N bn.length).length, .sl 7 0 (M be.length).length]), (9, .arr 1 (ints B))], 10⟩) (fun i => i ≤ B.length) (fun i => B.length - i) 0 ?_ ?_ ?_
     ·simp (disch := omega) only [go_sem, ↓reduceIte]
      rfl
     ·simp
     ·intro i hi
      by_cases e : i < B.length
      ·have d2 : decide ((i : Int) < B.length) = true := decide_eq_true (by omega)
       have r7 := rcn (gt B i)
       have st : ((B.take (i + 1)).all fun x => decide (x ∈ pn)) = (((B.take i).all fun x => decide (x ∈ pn)) && decide (gt B i ∈ pn)) := by rw [take_gt e, List.all_append]; simp
       generalize decide (gt B i ∈ pn) = z at *
       cases hz : (B.take i).all fun x => decide (x ∈ pn) with
       | false =>
        rw [hz, Bool.false_and] at st
        simp (disch := omega) only [go_sem, ↓reduceIte, c_l14_SquareBoundary_b32, d2]
        exact ⟨i + 1, by simp [st], by omega, by omega⟩
       | true =>
        rw [hz, Bool.true_and] at st
        simp (disch := omega) only [go_sem, ↓reduceIte, c_l14_SquareBoundary_b32, d2]
        refine call_by r7 ?_
        simp (disch := omega) only [go_sem, ↓reduceIte]
        exact ⟨i + 1, by simp [st], by omega, by omega⟩
      ·have d2 : decide ((i : Int) < B.length) = false := decide_eq_false (by omega)
       obtain rfl : i = B.length := by omega
       rw [List.take_length]
       by_cases h0 : rv = 0
       ·have hall : (B.all fun x => decide (x ∈ pn)) = true := by rw [List.all_eq_true]; exact fun x hx => decide_eq_true (hbr.1 h0 x hx)
        rw [hall]
        rw [h0] at r5
        simp (disch := omega) only [go_sem, ↓reduceIte, c_l14_SquareBoundary_b32, d2]
        refine call_by r5 ?_
        simp (disch := omega) only [go_sem, ↓reduceIte]
        try simp
       ·have hall : (B.all fun x => decide (x ∈ pn)) = false := by
         rw [← Bool.not_eq_true, List.all_eq_true]
         exact fun h => h0 (hbr.2 fun x hx => of_decide_eq_true (h x hx))
        rw [hall]
        have h1 : decide (rv = 0) = false := decide_eq_false h0
        simp (disch := omega) only [go_sem, ↓reduceIte, c_l14_SquareBoundary_b32, d2]
        refine call_by r5 ?_
        simp (disch := omega) only [go_sem, ↓reduceIte, h1]
        try simp
theorem x_l14_SquareBoundary (h : K_l14_SquareBoundary P F) (args : List D) (ha : HasEls [shDr, shU8s, shU64] args) : FC P (F "l14.SquareBoundary") args (.bool true) [] := by
 simp only [HasEls] at ha
 obtain ⟨_, _, rfl, h1, _, _, rfl, h2, _, _, rfl, h3, rfl⟩ := ha
 obtain ⟨x, rfl, a1, a2, a3⟩ := rd_draft h1
 obtain ⟨c, rfl, c1, c2⟩ := rd_u8s h2
 obtain ⟨s, rfl⟩ := rd_u64 h3
 exact h x c s a1 a2 a3 ⟨c1, c2⟩
end
end Go.Am
