/- Orbits: automorphisms form a group; the program's orbits are the reference's. Plain. -/
import Derived.Test.YtmkhlefohbfekaaSpPa
import Derived.Test.YtmkhlefohbfekaaSpPb
import Derived.Test.YtmkhlefohbfekaaSpPc
import Derived.Test.YtmkhlefohbfekaaSpPd
import Derived.Test.YtmkhlefohbfekaaSpXa
namespace Go.Am
open Go
set_option linter.unusedVariables false
set_option linter.unusedSimpArgs false
section
theorem fnd_iff {g : G} (vg : InG g) {u v : Nat} (hu : u < g.n.length) : fndO g u v = true ↔ Orb g u v := by
 have e : fndO g u v = true ↔ ∃ m, m ∈ (fullN g.n.length (fun ns n => alO u v ns.length n && fitsP g g (colJ g g) ns n) g.n.length []).flatMap (imM g g) := by
  rw [fndO, isoN_take _ _ _ (by omega)]
  cases hh : (fullN g.n.length (fun ns n => alO u v ns.length n && fitsP g g (colJ g g) ns n) g.n.length []).flatMap (imM g g) with
  | nil => simp
  | cons x l => simp
 rw [e]
 constructor
 ·rintro ⟨m, hm⟩
  obtain ⟨l, hl, _⟩ := List.mem_flatMap.1 hm
  obtain ⟨h1, h2⟩ := (mem_fullP' vg vg rfl).1 hl
  have := h2 u hu
  simp only [alO, decide_true, Bool.not_true, Bool.false_or, decide_eq_true_eq] at this
  exact ⟨l, h1, this⟩
 ·rintro ⟨l, h1, h2⟩
  have hl : l ∈ fullN g.n.length (fun ns n => alO u v ns.length n && fitsP g g (colJ g g) ns n) g.n.length [] := (mem_fullP' vg vg rfl).2 ⟨h1, fun i hi => by
   simp only [alO, Bool.or_eq_true, Bool.not_eq_true', decide_eq_false_iff_not, decide_eq_true_eq]
   by_cases e : (i : Int) = u
   ·right; rw [e, h2]
   ·left; exact e⟩
  obtain ⟨es, hes⟩ := List.exists_mem_of_ne_nil _ (h1.imE_ne vg vg rfl)
  exact ⟨⟨l, es⟩, List.mem_flatMap.2 ⟨l, hl, List.mem_map.2 ⟨es, hes, rfl⟩⟩⟩
theorem gt_setG {g : G} {u i : Nat} (hi : i < g.n.length) : gt (setG g u).n (i : Int) = if i = u then -1 else gt g.n (i : Int) := by
 have h1 : i < (g.n.set u (-1)).length := by simpa using hi
 show gt (g.n.set u (-1)) (i : Int) = _
 rw [gt_nat h1, gt_nat hi, List.getElem_set]
 by_cases e : u = i
 ·rw [if_pos e, if_pos e.symm]
 ·rw [if_neg e, if_neg (fun h => e h.symm)]
theorem mov_iff {g : G} (vg : validG g = 0) {u v : Nat} (hu : u < g.n.length) (hv : v < g.n.length) : movR g u v = true ↔ Orb g u v := by
 have ig := InG.of_valid vg
 have hl1 : (setG g u).n.length = g.n.length := by simp [setG]
 have hl2 : (setG g v).n.length = g.n.length := by simp [setG]
 have hs : shpB (setG g u) (setG g v) = true := by simp [shpB, setG]
 have hpos : ∀ i : Nat, i < g.n.length → gt g.n (i : Int) ≠ -1 := fun i hi e => by
  obtain ⟨_, _, h3, _⟩ := valid_spec vg
  have := h3 _ (gt_mem (l := g.n) (j := (i : Int)) (by omega) (by omega))
  rw [e] at this
  simp [okN] at this
 have e : movR g u v = true ↔ gt g.n (u : Int) = gt g.n (v : Int) ∧ ∃ m, m ∈ isos (setG g u) (setG g v) := by
  rw [movR, allR_isos (ig.set u) (ig.set v) hs (by omega)]
  cases hh : isos (setG g u) (setG g v) with
  | nil => simp
  | cons x l => simp
 rw [e]
 constructor
 ·rintro ⟨ht, m, hm⟩
  obtain ⟨h1, _⟩ := mem_isos.1 hm
  have hr : ∀ i : Nat, i < g.n.length → 0 ≤ gt m.n (i : Int) ∧ gt m.n (i : Int) < g.n.length := fun i hi => by
   have := h1.rng i (by omega)
   rw [hl2] at this
   exact this
  have huv : gt m.n (u : Int) = v := by
   have := h1.ty u (by omega)
   obtain ⟨j, hj⟩ := Int.eq_ofNat_of_zero_le (hr u hu).1
   have hjl := (hr u hu).2
   rw [hj, gt_setG hu, if_pos rfl, gt_setG (by omega)] at this
   split at this
   ·rename_i e; rw [hj, e]
   ·exact absurd this.symm (hpos j (by omega))
  refine ⟨m.n, ⟨by rw [h1.len, hl1], hr, fun i k hi hk => h1.inj i k (by omega) (by omega), fun i hi => ?_, fun t i k hi hk => h1.num t i k (by omega) (by omega)⟩, huv⟩
  by_cases e : i = u
  ·rw [e, huv, ht]
  ·have := h1.ty i (by omega)
   obtain ⟨j, hj⟩ := Int.eq_ofNat_of_zero_le (hr i hi).1
   have hjl := (hr i hi).2
   rw [hj, gt_setG hi, if_neg e, gt_setG (by omega)] at this
   split at this
   ·exact absurd this (hpos i hi)
   ·rw [hj, this]
 ·rintro ⟨l, h1, h2⟩
  have ht := h1.ty u hu
  rw [h2] at ht
  refine ⟨ht, ?_⟩
  have h3 : NIso (setG g u) (setG g v) l := by
   refine ⟨by rw [h1.len, hl1], fun i hi => ?_, fun i k hi hk => h1.inj i k (by omega) (by omega), fun i hi => ?_, fun t i k hi hk => h1.num t i k (by omega) (by omega)⟩
   ·rw [hl2]; exact h1.rng i (by omega)
   ·rw [hl1] at hi
    have hr := h1.rng i hi
    have hty := h1.ty i hi
    obtain ⟨j, hj⟩ := Int.eq_ofNat_of_zero_le hr.1
    rw [hj] at hr hty ⊢
    rw [gt_setG hi, gt_setG (by omega)]
    by_cases e : i = u
    ·have : j = v := by rw [e, h2] at hj; omega
     rw [if_pos e, if_pos this]
    ·have : j ≠ v := fun e2 => e (h1.inj i u hi hu (by rw [hj, h2, e2]))
     rw [if_neg e, if_neg this, hty]
  obtain ⟨es, hes⟩ := List.exists_mem_of_ne_nil _ (h3.imE_ne (ig.set u) (ig.set v) (by rw [hl1, hl2]))
  exact ⟨⟨l, es⟩, mem_isos.2 ⟨h3, hes⟩⟩
theorem orbF_spec {g : G} {i : Nat} : ∀ (f k : Nat), k + f = i → (∀ j, j < k → movR g j i = false) → (∀ j, j < orbF g i f k → movR g j i = false) ∧ (orbF g i f k < i → movR g (orbF g i f k) i = true)
 | 0, k, h, hk => ⟨hk, fun h1 => by simp only [orbF] at h1; omega⟩
 | f + 1, k, h, hk => by
  rw [orbF]
  split
  ·rename_i hc
   refine orbF_spec f (k + 1) (by omega) fun j hj => ?_
   rcases Nat.lt_or_ge j k with h1 | h1
   ·exact hk j h1
   ·obtain rfl : j = k := by omega
    exact hc.2
  ·rename_i hc
   refine ⟨hk, fun h1 => ?_⟩
   cases hm : movR g k i
   ·exact absurd ⟨h1, hm⟩ hc
   ·rfl
theorem orbF_orb {g : G} (vg : validG g = 0) {i : Nat} (hi : i < g.n.length) : orbF g i i 0 ≤ i ∧ Orb g (orbF g i i 0) i ∧ ∀ j, j < orbF g i i 0 → ¬ Orb g j i := by
 have hle := orbF_le g i i 0 (by omega)
 obtain ⟨h1, h2⟩ := orbF_spec (g := g) (i := i) i 0 (by omega) (by omega)
 refine ⟨hle, ?_, fun j hj h => ?_⟩
 ·rcases Nat.lt_or_ge (orbF g i i 0) i with h | h
  ·exact (mov_iff vg (by omega) hi).1 (h2 h)
  ·rw [show orbF g i i 0 = i by omega]
   exact Orb.refl hi
 ·have := h1 j hj
  rw [(mov_iff vg (by omega) hi).2 h] at this
  cases this
theorem orbF_same {g : G} (vg : validG g = 0) {u v : Nat} (hu : u < g.n.length) (hv : v < g.n.length) (h : Orb g u v) : orbF g u u 0 = orbF g v v 0 := by
 obtain ⟨a1, a2, a3⟩ := orbF_orb vg hu
 obtain ⟨b1, b2, b3⟩ := orbF_orb vg hv
 have h1 : Orb g (orbF g u u 0) v := a2.trans (by omega) h
 have h2 : Orb g (orbF g v v 0) u := b2.trans (by omega) (h.symm hu)
 rcases Nat.lt_trichotomy (orbF g u u 0) (orbF g v v 0) with k | k | k
 ·exact absurd h1 (b3 _ k)
 ·exact k
 ·exact absurd h2 (a3 _ k)
theorem orbU_iff {g : G} (vg : validG g = 0) {v : Nat} (hv : v < g.n.length) : orbU g v = if orbF g v v 0 < v then some (orbF g v v 0) else none := by
 obtain ⟨b1, b2, b3⟩ := orbF_orb vg hv
 have hf : ∀ u, u < g.n.length → (fndO g u v = true ↔ Orb g u v) := fun u hu => fnd_iff (InG.of_valid vg) hu
 split
 ·rename_i h
  rw [orbU, List.find?_range_eq_some]
  refine ⟨(hf _ (by omega)).2 b2, List.mem_range.2 h, fun j hj => ?_⟩
  cases hc : fndO g j v
  ·rfl
  ·exact absurd ((hf j (by omega)).1 hc) (b3 j hj)
 ·rw [orbU, List.find?_eq_none]
  intro j hj hc
  have hj := List.mem_range.1 hj
  exact b3 j (by omega) ((hf j (by omega)).1 hc)
theorem gen_orb {g : G} (vg : validG g = 0) : genL g.n.length (orbP g) = (List.range g.n.length).map (orbV g) := by
 have hin := orbP_in g
 have hlen : (genL g.n.length (orbP g)).length = g.n.length := gen_len _
 have hid := gen_idem hin (Nat.le_refl _)
 let φ : Int → Int := fun x => orbV g x.toNat
 have hP : ∀ i : Nat, i < (orbP g).length → ∃ u v : Nat, gt (orbP g) (i : Int) = ⟨u, v⟩ ∧ v < g.n.length ∧ orbU g v = some u := fun i hi => by
  have hm := gt_mem (l := orbP g) (j := (i : Int)) (by omega) (by omega)
  obtain ⟨v, hv, hx⟩ := List.mem_flatMap.1 hm
  have hv := List.mem_range.1 hv
  unfold orbS at hx
  split at hx
  ·rename_i u hu
   simp only [List.mem_singleton] at hx
   exact ⟨u, v, hx, hv, hu⟩
  ·cases hx
 have hφ := gen_fun (φ := φ) hin (fun i hi => by
  obtain ⟨u, v, e, hv, hu⟩ := hP i hi
  rw [e]
  have hlt := orbU_lt hu
  have hb := (orbF_orb vg hv)
  rw [orbU_iff vg hv] at hu
  split at hu
  ·simp only [Option.some.injEq] at hu
   show orbV g (u : Int).toNat = orbV g (v : Int).toNat
   rw [Int.toNat_natCast, Int.toNat_natCast, orbV, orbV, orbF_same vg (by omega) hv (hu ▸ hb.2.1)]
  ·cases hu) (orbP g).length (Nat.le_refl _)
 have hpair := gen_pair hin (orbP g).length (Nat.le_refl _)
 refine List.ext_getElem (by rw [hlen]; simp) fun i h1 h2 => ?_
 rw [hlen] at h1
 simp only [List.getElem_map, List.getElem_range]
 have e1 := gt_nat (l := genL g.n.length (orbP g)) (i := i) (by rw [hlen]; exact h1)
 rw [← e1]
 obtain ⟨⟨a1, a2⟩, a3⟩ := hid i (by rw [gen_len]; exact h1)
 obtain ⟨b1, b2, b3⟩ := orbF_orb vg h1
 have h3 : gt (genL g.n.length (orbP g)) (orbF g i i 0 : Nat) = gt (genL g.n.length (orbP g)) (i : Int) := by
  by_cases hlt : orbF g i i 0 < i
  ·have hm : (⟨(orbF g i i 0 : Nat), i⟩ : Pr) ∈ orbP g := by
    refine List.mem_flatMap.2 ⟨i, List.mem_range.2 h1, ?_⟩
    unfold orbS
    rw [orbU_iff vg h1, if_pos hlt]
    exact List.mem_singleton.2 rfl
   obtain ⟨k, hk, e⟩ := List.mem_iff_getElem.1 hm
   have := hpair k hk
   rw [gt_nat hk, e] at this
   exact this
  ·rw [show orbF g i i 0 = i by omega]
 have h4 := hid (orbF g i i 0) (by rw [gen_len]; omega)
 have h5 := hφ i h1
 show gt (genL g.n.length (orbP g)) (i : Int) = orbV g i
 change gt (genI g.n.length (orbP g) (orbP g).length) _ = gt (genI g.n.length (orbP g) (orbP g).length) _ at h3
 change gt (genI g.n.length (orbP g) (orbP g).length) _ = _
 obtain ⟨r, hr⟩ := Int.eq_ofNat_of_zero_le a1
 rw [hr] at h5 a2
 have hrl : r < g.n.length := by omega
 have c1 := (orbF_orb vg hrl).1
 have h5' : orbV g r = orbV g i := by
  have : φ (r : Int) = φ (i : Int) := h5
  simpa only [φ, Int.toNat_natCast] using this
 rw [orbV, orbV] at h5'
 rw [h3, hr] at h4
 rw [hr, orbV]
 omega
theorem orb_same (g : G) : orbR g = orbRf g := by
 unfold orbR orbRf
 split
 ·rename_i h
  split
  ·rfl
  ·rw [gen_orb h]
 ·rfl
end
attribute [local irreducible] W
@[go_sem] def c_l08_IsoOrbits_r0 : LL := [qB 1 0,qb 2 false]
@[go_sem] def c_l08_IsoOrbits_r1 (F : Fn) : LL := [qc 7 (F "l08.awake") [],qv 8 7,qm 9 8,qg 9 false (qL 10 2 1),qg 9 false (qc 11 (F "r05.Few") [.t 10]),qg 9 false (qv 12 11),qQ 13 9 12,qm 14 13,qg 14 false (qf 15 0 1),qg 14 false (ql 16 1 15),
 qg 14 false (qz 17 16),qg 14 false (qk .leq 18 17 12),qg 14 false (qm 19 18),qg 19 true (qL 20 2 1),qg 19 true (qc 21 (F "r08.Small") [.t 20,.k (.int .i64 (6))]),qg 19 true (qv 22 21),
 qg 14 false (qP 23 19 22),qQ 24 14 23]
@[go_sem] def c_l08_IsoOrbits_r2 (F : Fn) : LL := [qc 25 (F "l08.awake") [],qm 2 25]
@[go_sem] def c_l08_IsoOrbits_r3 (F : Fn) : LL := [qL 27 2 1,qc 28 (F "l08.copied") [.t 27],qc 29 (F "iso.Orbits") [.t 28],qm 26 29,qx 30 26 0,qx 31 26 1,qm 3 30,qm 4 31]
@[go_sem] def c_l08_IsoOrbits_r4 (F : Fn) : LL := [qL 33 2 1,qc 34 (F "r08.Orbits") [.t 33],qm 32 34,qx 35 32 0,qx 36 32 1,qm 5 35,qm 6 36]
@[go_sem] def c_l08_IsoOrbits_r5 (F : Fn) : LL := [qm 37 4,qm 38 6,qo .eql 39 37 38,qm 40 39,qg 40 true (qm 41 3),qg 40 true (qm 42 5),qg 40 true (qc 43 (F "slices.Equal.I") [.t 41,.t 42]),qP 44 40 43,qm 2 44]
@[go_sem] def c_l08_IsoOrbits (F : Fn) : LC := (.seq (.reg c_l08_IsoOrbits_r0 [1]) (.seq (.seq (.reg (c_l08_IsoOrbits_r1 F) [1,24]) (.cond (.t 24) (.seq (.reg (c_l08_IsoOrbits_r2 F) [2]) .ret) .skip)) (.seq (.reg (c_l08_IsoOrbits_r3 F) [1,3,4]) (.seq (.reg (c_l08_IsoOrbits_r4 F) [3,4,5,6]) (.seq (.reg (c_l08_IsoOrbits_r5 F) [2]) .ret)))))
def h_l08_IsoOrbits : Hints := hOf [] (c_l08_IsoOrbits fun _ => 0)
section
variable (P : Program) (F : String → Nat)
def K_l08_IsoOrbits : Prop := ∀ g : G, FC P (F "l08.IsoOrbits") [gD g] (.bool true) []
end
section
variable {P : Program} {F : String → Nat} {α : Type}
theorem orbRf_len (g : G) : (orbRf g).1.length ≤ 12 := by
 unfold orbRf
 split
 ·split
  ·simp
  ·simp; omega
 ·simp
theorem w_l08_IsoOrbits (hw : K_l08_awake P F) (hf : K_r05_Few P F) (hs : K_r08_Small P F) (hc : K_l08_copied P F) (h1 : K_iso_Orbits P F) (h2 : K_r08_Orbits P F) (h3 : K_slices_Equal_I P F) (g : G) : W P (c_l08_IsoOrbits F) (Done [.t 2] [] (.bool true) []) (init [gD g]) := by
 refine W_of ?_
 have q0 := hf g
 have q1 := hs g 6
 have c1 := hc g
 have r1 := h1 g
 have r2 := h2 g
 rw [orb_same] at r1
 have r3 := h3 (orbRf g).1 (orbRf g).1 (by have := orbRf_len g; unfold maxL; omega)
 rw [decide_eq_true rfl] at r3
 generalize (orbRf g).2 = e at *
 generalize (orbRf g).1 = l at *
 have d0 : decide (e = e) = true := decide_eq_true rfl
 cases s0 : few g with
 | false =>
  rw [s0] at q0
  simp only [gD] at *
  simp (disch := omega) only [go_sem, ↓reduceIte]
  refine call_by hw ?_
  simp (disch := omega) only [go_sem, ↓reduceIte]
  refine call_by q0 ?_
  simp (disch := omega) only [go_sem, ↓reduceIte]
  refine call_by hw ?_
  simp (disch := omega) only [go_sem, ↓reduceIte]
 | true =>
  rw [s0] at q0
  have hl : g.n.length ≤ 45 ∧ g.e.length ≤ 90 := by
   simp only [few, Bool.and_eq_true, decide_eq_true_eq] at s0
   omega
  replace c1 := c1 (by omega) (by omega)
  by_cases h12 : (g.n.length : Int) ≤ 12
  ·have d1 := decide_eq_true h12
   cases s1 : smallG g 6 with
   | false =>
    rw [s1] at q1
    simp only [gD] at *
    simp (disch := omega) only [go_sem, ↓reduceIte, d1]
    refine call_by hw ?_
    simp (disch := omega) only [go_sem, ↓reduceIte, d1]
    refine call_by q0 ?_
    simp (disch := omega) only [go_sem, ↓reduceIte, d1]
    refine call_by q1 ?_
    simp (disch := omega) only [go_sem, ↓reduceIte, d1]
    refine call_by hw ?_
    simp (disch := omega) only [go_sem, ↓reduceIte]
   | true =>
    rw [s1] at q1
    simp only [gD, gA] at *
    simp (disch := omega) only [go_sem, ↓reduceIte, d1]
    refine call_by hw ?_
    simp (disch := omega) only [go_sem, ↓reduceIte, d1]
    refine call_by q0 ?_
    simp (disch := omega) only [go_sem, ↓reduceIte, d1]
    refine call_by q1 ?_
    simp (disch := omega) only [go_sem, ↓reduceIte, d1]
    refine call_by c1 ?_
    simp (disch := omega) only [go_sem, ↓reduceIte]
    refine call_by r1 ?_
    simp (disch := omega) only [go_sem, ↓reduceIte]
    refine call_by r2 ?_
    simp (disch := omega) only [go_sem, ↓reduceIte, d0]
    refine call_by r3 ?_
    simp (disch := omega) only [go_sem, ↓reduceIte]
  ·have d1 := decide_eq_false h12
   simp only [gD, gA] at *
   simp (disch := omega) only [go_sem, ↓reduceIte, d1]
   refine call_by hw ?_
   simp (disch := omega) only [go_sem, ↓reduceIte, d1]
   refine call_by q0 ?_
   simp (disch := omega) only [go_sem, ↓reduceIte, d1]
   refine call_by c1 ?_
   simp (disch := omega) only [go_sem, ↓reduceIte]
   refine call_by r1 ?_
   simp (disch := omega) only [go_sem, ↓reduceIte]
   refine call_by r2 ?_
   simp (disch := omega) only [go_sem, ↓reduceIte, d0]
   refine call_by r3 ?_
   simp (disch := omega) only [go_sem, ↓reduceIte]
theorem x_l08_IsoOrbits (h : K_l08_IsoOrbits P F) (args : List D) (ha : HasEls [shG] args) : FC P (F "l08.IsoOrbits") args (.bool true) [] := by
 simp only [HasEls] at ha
 obtain ⟨_, _, rfl, h1, rfl⟩ := ha
 obtain ⟨g, rfl⟩ := rd_graph h1
 exact h g
end
end Go.Am
