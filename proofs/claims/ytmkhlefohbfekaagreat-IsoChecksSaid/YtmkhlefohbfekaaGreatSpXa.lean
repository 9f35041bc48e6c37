/- Drafts of graphs; what laws take. -/
import Derived.Test.YtmkhlefohbfekaaGreatSpPa
import Derived.Test.YtmkhlefohbfekaaGreatSpPb
import Derived.Test.YtmkhlefohbfekaaGreatSpPc
import Derived.Test.YtmkhlefohbfekaaGreatSpPd
namespace Go.Am
open Go
set_option linter.unusedVariables false
set_option linter.unusedSimpArgs false
section
variable (P : Program) (F : String → Nat)
end
def shI : Sh := .int .i64
def shIs : Sh := .slc 1 8 shI
def shE : Sh := .cat [shI, shI, shI]
def shG : Sh := .cat [shIs, .slc 3 24 shE]
theorem rd_int {x : D} (h : HasEl shI x) : ∃ n : Int, x = .int .i64 n ∧ IntKind.i64.min ≤ n ∧ n ≤ IntKind.i64.max := by
 simpa only [shI, HasEl] using h
theorem rd_intl : ∀ {xs : List D}, (∀ y ∈ xs, HasEl shI y) → ∃ l : List Int, xs = ints l
 | [], _ => ⟨[], rfl⟩
 | x :: xs, h => by
  obtain ⟨l, rfl⟩ := rd_intl (xs := xs) fun y hy => h y (by simp [hy])
  obtain ⟨n, rfl, _⟩ := rd_int (h x (by simp))
  exact ⟨n :: l, rfl⟩
theorem rd_ints {x : D} (h : HasEl shIs x) : ∃ l : List Int, x = .lst 1 (ints l) ∧ l.length ≤ 20000000000000 := by
 simp only [shIs, HasEl] at h
 obtain ⟨xs, rfl, h1, h2⟩ := h
 obtain ⟨l, rfl⟩ := rd_intl h2
 refine ⟨l, rfl, ?_⟩
 rw [ints_length] at h1
 unfold reachBytes at h1
 omega
theorem rd_edge {x : D} (h : HasEl shE x) : ∃ e : E, x = edD e := by
 simp only [shE, HasEl] at h
 obtain ⟨ds, rfl, h⟩ := h
 simp only [shI, HasShs, HasEl] at h
 obtain ⟨_, _, rfl, ⟨a, rfl, _⟩, _, _, rfl, ⟨b, rfl, _⟩, _, _, rfl, ⟨c, rfl, _⟩, rfl⟩ := h
 exact ⟨⟨a, b, c⟩, rfl⟩
theorem rd_edl : ∀ {xs : List D}, (∀ y ∈ xs, HasEl shE y) → ∃ l : List E, xs = eds l
 | [], _ => ⟨[], rfl⟩
 | x :: xs, h => by
  obtain ⟨l, rfl⟩ := rd_edl (xs := xs) fun y hy => h y (by simp [hy])
  obtain ⟨n, rfl⟩ := rd_edge (h x (by simp))
  exact ⟨n :: l, rfl⟩
theorem rd_graph {x : D} (h : HasEl shG x) : ∃ g : G, x = gD g := by
 simp only [shG, HasEl] at h
 obtain ⟨ds, rfl, h⟩ := h
 have h' : ∃ a b, ds = a :: b ∧ HasEl shIs a ∧ HasShs [.slc 3 24 shE] b := by simpa only [shIs, HasShs] using h
 obtain ⟨a, _, rfl, h1, h'⟩ := h'
 obtain ⟨l, rfl, _⟩ := rd_ints h1
 simp only [HasShs, HasEl] at h'
 obtain ⟨_, _, rfl, ⟨xs, rfl, _, h3⟩, rfl⟩ := h'
 obtain ⟨es, rfl⟩ := rd_edl h3
 exact ⟨⟨l, es⟩, rfl⟩
theorem hasShs_slc {z b : Nat} {e : Sh} {l : List Sh} {ds : List D} (h : HasShs (.slc z b e :: l) ds) : ∃ a b', ds = a :: b' ∧ HasEl (.slc z b e) a ∧ HasShs l b' := by simpa only [HasShs] using h
theorem hasShs_nil {ds : List D} (h : HasShs [] ds) : ds = [] := by simpa only [HasShs] using h
section
variable {P : Program} {F : String → Nat} {α : Type}
end
attribute [local irreducible] W
@[go_sem] def c_r08_CheckReason_r0 : LL := [qB 3 0,qB 4 1,qB 5 2,qb 6 false]
@[go_sem] def c_r08_CheckReason_r1 (F : Fn) : LL := [qL 9 2 3,qL 10 2 4,qc 11 (F "r08.given") [.t 9,.t 10],qk .neq 12 11 0,qm 13 12,qg 13 false (qf 14 0 5),qg 13 false (ql 15 1 14),qg 13 false (qk .lss 16 15 0),qQ 17 13 16,qm 18 17,
 qg 18 false (qf 19 0 5),qg 18 false (ql 20 1 19),qg 18 false (qk .gtr 21 20 40),qQ 22 18 21,qm 23 22,qg 23 false (qf 24 2 5),qg 23 false (ql 25 1 24),qg 23 false (qf 26 3 5),
 qg 23 false (ql 27 1 26),qg 23 false (qo .eql 28 25 27),qQ 29 23 28]
@[go_sem] def c_r08_CheckReason_r2 : LL := [qb 6 false]
@[go_sem] def c_r08_CheckReason_r3 (F : Fn) : LL := [qL 31 2 3,qL 32 2 4,qf 33 0 5,ql 34 1 33,qc 35 (F "r08.both") [.t 31,.t 32,.t 34],qm 30 35,qx 36 30 0,qx 37 30 1,qm 7 36,qm 8 37]
@[go_sem] def c_r08_CheckReason_r4 (F : Fn) : LL := [qm 38 7,qf 39 1 5,ql 40 1 39,qc 41 (F "r08.count") [.t 38,.t 40],qf 42 2 5,ql 43 1 42,qo .eql 44 41 43,qm 45 44,qg 45 true (qm 46 8),qg 45 true (qf 47 1 5),qg 45 true (ql 48 1 47),
 qg 45 true (qc 49 (F "r08.count") [.t 46,.t 48]),qg 45 true (qf 50 3 5),qg 45 true (ql 51 1 50),qg 45 true (qo .eql 52 49 51),qP 53 45 52,qm 6 53]
@[go_sem] def c_r08_CheckReason (F : Fn) : LC := (.seq (.reg c_r08_CheckReason_r0 [3,4,5]) (.seq (.seq (.reg (c_r08_CheckReason_r1 F) [3,4,5,29]) (.cond (.t 29) (.seq (.reg c_r08_CheckReason_r2 [6]) .ret) .skip)) (.seq (.reg (c_r08_CheckReason_r3 F) [5,7,8]) (.seq (.dreg [(3,none,[],true),(5,(some 16),[3],false),(11,none,[],true),(13,(some 4351),[11],false)] (c_r08_CheckReason_r4 F) [6]) .ret))))
def h_r08_CheckReason : Hints := hOf [] (c_r08_CheckReason fun _ => 0)
section
variable (P : Program) (F : String → Nat)
def K_r08_CheckReason : Prop := ∀ (a b : G) (d : Df), FC P (F "r08.CheckReason") [gD a, gD b, dfD d] (.bool (chkF a b d)) []
end
section
variable {α : Type}
end
section
variable {P : Program} {F : String → Nat} {α : Type}
theorem w_r08_CheckReason (hg : K_r08_given P F) (hb : K_r08_both P F) (hc : K_r08_count P F) (a b : G) (d : Df) : W P (c_r08_CheckReason F) (Done [.t 6] [] (.bool (chkF a b d)) []) (init [gD a, gD b, dfD d]) := by
 have r1 := hg a b
 by_cases hv : bothE a b = 0
 ·have va : validG a = 0 := by unfold bothE at hv; split at hv <;> first | assumption | (exact absurd hv (by assumption))
  have vb : validG b = 0 := by unfold bothE at hv; rw [if_pos va] at hv; exact hv
  have ia := InG.of_valid va
  have ib := InG.of_valid vb
  have hl := sdR_length a b d.r.toNat
  have hx := sdR_len (a := a) (b := b) ia.2.1 ib.2.1 d.r.toNat
  have l1 := ia.1
  have l2 := ib.1
  have q2 := hc (sdR a b d.r.toNat).1 d.c (by omega) hx.1
  have q3 := hc (sdR a b d.r.toNat).2 d.c (by omega) hx.2
  have q1 := fun h : d.r.toNat ≤ 1000 => hb a b d.r.toNat va vb h
  unfold chkF
  rw [hv] at r1
  generalize sdR a b d.r.toNat = R at *
  generalize hcx : cntL R.1 d.c = p at *
  generalize hcy : cntL R.2 d.c = u at *
  obtain ⟨r, c, x, y⟩ := d
  simp only [gD, dfD, dfC, hv, true_and] at *
  refine W_of ?_
  have d0 : decide ((0 : Int) = 0) = true := rfl
  by_cases h1 : r < 0
  ·have d1 := decide_eq_true h1
   rw [if_neg (by omega)]
   simp (disch := omega) only [go_sem, ↓reduceIte]
   refine call_by r1 ?_
   simp (disch := omega) only [go_sem, ↓reduceIte, d0, d1]
  ·have d1 := decide_eq_false h1
   by_cases h2 : 40 < r
   ·have d2 := decide_eq_true h2
    rw [if_neg (by omega)]
    simp (disch := omega) only [go_sem, ↓reduceIte]
    refine call_by r1 ?_
    simp (disch := omega) only [go_sem, ↓reduceIte, d0, d1, d2]
   ·have d2 := decide_eq_false h2
    by_cases h3 : x = y
    ·have d3 := decide_eq_true h3
     rw [if_neg (by omega)]
     simp (disch := omega) only [go_sem, ↓reduceIte]
     refine call_by r1 ?_
     simp (disch := omega) only [go_sem, ↓reduceIte, d0, d1, d2, d3]
    ·have d3 := decide_eq_false h3
     rw [if_pos ⟨by omega, by omega, h3⟩]
     have hr : ((r.toNat : Nat) : Int) = r := by omega
     have q1 := q1 (by omega)
     rw [hr] at q1
     simp (disch := omega) only [go_sem, ↓reduceIte]
     refine call_by r1 ?_
     simp (disch := omega) only [go_sem, ↓reduceIte, d0, d1, d2, d3]
     refine call_fz q1 ?_
     simp (disch := omega) only [go_sem, ↓reduceIte]
     refine call_by q2 ?_
     by_cases h4 : (p : Int) = x
     ·have d4 := decide_eq_true h4
      rw [d4]
      simp (disch := omega) only [go_sem, ↓reduceIte, d4]
      refine call_by q3 ?_
      simp (disch := omega) only [go_sem, ↓reduceIte]
     ·have d4 := decide_eq_false h4
      rw [d4]
      simp (disch := omega) only [go_sem, ↓reduceIte, d4]
 ·have hcf : chkF a b d = false := by unfold chkF; rw [if_neg (by simp [hv])]
  rw [hcf]
  generalize bothE a b = e at *
  obtain ⟨r, c, x, y⟩ := d
  simp only [gD, dfD, dfC] at *
  refine W_of ?_
  have d0 : decide (e = 0) = false := decide_eq_false hv
  simp (disch := omega) only [go_sem, ↓reduceIte]
  refine call_by r1 ?_
  simp (disch := omega) only [go_sem, ↓reduceIte, d0]
end
@[go_sem] def c_l08_IsoChecks_r0 : LL := [qB 3 0,qB 4 1,qB 5 2,qb 6 false]
@[go_sem] def c_l08_IsoChecks_r1 (F : Fn) : LL := [qc 7 (F "l08.awake") [],qv 8 7,qm 9 8,qg 9 false (qL 10 2 3),qg 9 false (qc 11 (F "r08.Small") [.t 10,.k (.int .i64 (6))]),qg 9 false (qv 12 11),qQ 13 9 12,qm 14 13,qg 14 false (qL 15 2 4),
 qg 14 false (qc 16 (F "r08.Small") [.t 15,.k (.int .i64 (6))]),qg 14 false (qv 17 16),qQ 18 14 17,qm 19 18,qg 19 false (qf 20 1 5),qg 19 false (ql 21 1 20),qg 19 false (qz 22 21),
 qg 19 false (qk .gtr 23 22 80),qQ 24 19 23]
@[go_sem] def c_l08_IsoChecks_r2 (F : Fn) : LL := [qc 25 (F "l08.awake") [],qm 6 25]
@[go_sem] def c_l08_IsoChecks_r3 (F : Fn) : LL := [qL 26 2 3,qc 27 (F "l08.copied") [.t 26],qL 28 2 4,qc 29 (F "l08.copied") [.t 28],qf 30 0 5,ql 31 1 30,qf 32 1 5,ql 33 1 32,qc 34 (F "slices.Clone.I") [.t 33],qf 35 2 5,ql 36 1 35,qf 37 3 5,ql 38 1 37,
 qu 39 [.int .i64 (0),.nl 1,.int .i64 (0),.int .i64 (0)] [(0,1,.t 31),(1,1,.t 34),(2,1,.t 36),(3,1,.t 38)],qc 40 (F "iso.CheckReason") [.t 27,.t 29,.t 39],qL 41 2 3,qL 42 2 4,
 qL 43 4 5,qc 44 (F "r08.CheckReason") [.t 41,.t 42,.t 43],⟨some 45,.eqB false (.t 40) (.t 44),none⟩,qm 6 45]
@[go_sem] def c_l08_IsoChecks (F : Fn) : LC := (.seq (.reg c_l08_IsoChecks_r0 [3,4,5]) (.seq (.seq (.reg (c_l08_IsoChecks_r1 F) [3,4,5,24]) (.cond (.t 24) (.seq (.reg (c_l08_IsoChecks_r2 F) [6]) .ret) .skip)) (.seq (.dreg [(1,none,[],true),(2,(some 0),[1],false),(3,none,[],true),(5,(some 16),[1,3],true),(7,(some 64),[1,3],false),(8,none,[5],true),(10,(some 512),[1,3,8],false),(12,(some 2048),[1,3,8],false),(14,none,[],true),(15,(some 0),[1,3,8,14],false),(16,(some 0),[1,3,8,14],false),(17,(some 0),[1,3,8,14],false)] (c_l08_IsoChecks_r3 F) [6]) .ret)))
def h_l08_IsoChecks : Hints := hOf [] (c_l08_IsoChecks fun _ => 0)
section
variable (P : Program) (F : String → Nat)
def K_l08_IsoChecks : Prop := ∀ (a b : G) (d : Df), d.c.length ≤ 20000000000000 → FC P (F "l08.IsoChecks") [gD a, gD b, dfD d] (.bool true) []
end
section
variable {P : Program} {F : String → Nat} {α : Type}
theorem w_l08_IsoChecks (hw : K_l08_awake P F) (hs : K_r08_Small P F) (hc : K_l08_copied P F) (hcl : K_slices_Clone_I P F) (h1 : K_iso_CheckReason P F) (h2 : K_r08_CheckReason P F) (a b : G) (d : Df) (hd : d.c.length ≤ 20000000000000) : W P (c_l08_IsoChecks F) (Done [.t 6] [] (.bool true) []) (init [gD a, gD b, dfD d]) := by
 refine W_of ?_
 have q1 := hs a 6
 have q2 := hs b 6
 have c1 := hc a
 have c2 := hc b
 have r1 := h1 a b d
 have r2 := h2 a b d
 rw [chk_same] at r1
 have r3 := hcl d.c
 generalize chkF a b d = x at *
 obtain ⟨dr, dc, dx, dy⟩ := d
 simp only at r3 hd
 cases s1 : smallG a 6 with
 | false =>
  rw [s1] at q1
  simp only [gD, dfD, dfC] at *
  simp (disch := omega) only [go_sem, ↓reduceIte]
  refine call_by hw ?_
  simp (disch := omega) only [go_sem, ↓reduceIte]
  refine call_by q1 ?_
  simp (disch := omega) only [go_sem, ↓reduceIte]
  refine call_by hw ?_
  simp (disch := omega) only [go_sem, ↓reduceIte]
 | true =>
  cases s2 : smallG b 6 with
  | false =>
   rw [s1] at q1
   rw [s2] at q2
   simp only [gD, dfD, dfC] at *
   simp (disch := omega) only [go_sem, ↓reduceIte]
   refine call_by hw ?_
   simp (disch := omega) only [go_sem, ↓reduceIte]
   refine call_by q1 ?_
   simp (disch := omega) only [go_sem, ↓reduceIte]
   refine call_by q2 ?_
   simp (disch := omega) only [go_sem, ↓reduceIte]
   refine call_by hw ?_
   simp (disch := omega) only [go_sem, ↓reduceIte]
  | true =>
   rw [s1] at q1
   rw [s2] at q2
   obtain ⟨l1, l2⟩ := smallG_few s1
   obtain ⟨l3, l4⟩ := smallG_few s2
   replace c1 := c1 (by omega) (by omega)
   replace c2 := c2 (by omega) (by omega)
   simp only [gD, gA, dfD, dfC] at *
   by_cases hl : (80 : Int) < dc.length
   ·have d1 := decide_eq_true hl
    simp (disch := omega) only [go_sem, ↓reduceIte, d1]
    refine call_by hw ?_
    simp (disch := omega) only [go_sem, ↓reduceIte, d1]
    refine call_by q1 ?_
    simp (disch := omega) only [go_sem, ↓reduceIte, d1]
    refine call_by q2 ?_
    simp (disch := omega) only [go_sem, ↓reduceIte, d1]
    refine call_by hw ?_
    simp (disch := omega) only [go_sem, ↓reduceIte]
   ·have d1 := decide_eq_false hl
    replace r3 := r3 (by omega)
    simp (disch := omega) only [go_sem, ↓reduceIte, d1]
    refine call_by hw ?_
    simp (disch := omega) only [go_sem, ↓reduceIte, d1]
    refine call_by q1 ?_
    simp (disch := omega) only [go_sem, ↓reduceIte, d1]
    refine call_by q2 ?_
    simp (disch := omega) only [go_sem, ↓reduceIte, d1]
    refine call_by c1 ?_
    simp (disch := omega) only [go_sem, ↓reduceIte, d1]
    refine call_by c2 ?_
    simp (disch := omega) only [go_sem, ↓reduceIte, d1]
    refine call_by r3 ?_
    simp (disch := omega) only [go_sem, ↓reduceIte, d1]
    refine call_by r1 ?_
    simp (disch := omega) only [go_sem, ↓reduceIte, d1]
    refine call_by r2 ?_
    simp (disch := omega) only [go_sem, ↓reduceIte]
    try simp
def shDf : Sh := .cat [shI, shIs, shI, shI]
theorem hasShs_int {l : List Sh} {ds : List D} (h : HasShs (shI :: l) ds) : ∃ (n : Int) (b : List D), ds = .int .i64 n :: b ∧ HasShs l b := by
 simp only [shI, HasShs, HasEl] at h
 obtain ⟨_, b, rfl, ⟨n, rfl, _⟩, h⟩ := h
 exact ⟨n, b, rfl, h⟩
theorem rd_df {x : D} (h : HasEl shDf x) : ∃ d : Df, x = dfD d ∧ d.c.length ≤ 20000000000000 := by
 simp only [shDf, HasEl] at h
 obtain ⟨ds, rfl, h⟩ := h
 obtain ⟨n, _, rfl, k1⟩ := hasShs_int h
 obtain ⟨b, _, rfl, h2, k2⟩ := hasShs_slc k1
 obtain ⟨l, rfl, hl⟩ := rd_ints h2
 obtain ⟨p, _, rfl, k3⟩ := hasShs_int k2
 obtain ⟨q, _, rfl, k4⟩ := hasShs_int k3
 obtain rfl := hasShs_nil k4
 exact ⟨⟨n, l, p, q⟩, rfl, hl⟩
theorem x_l08_IsoChecks (h : K_l08_IsoChecks P F) (args : List D) (ha : HasEls [shG, shG, shDf] args) : FC P (F "l08.IsoChecks") args (.bool true) [] := by
 simp only [HasEls] at ha
 obtain ⟨_, _, rfl, h1, _, _, rfl, h2, _, _, rfl, h3, rfl⟩ := ha
 obtain ⟨a, rfl⟩ := rd_graph h1
 obtain ⟨b, rfl⟩ := rd_graph h2
 obtain ⟨d, rfl, k⟩ := rd_df h3
 exact h a b d k
end
end Go.Am
