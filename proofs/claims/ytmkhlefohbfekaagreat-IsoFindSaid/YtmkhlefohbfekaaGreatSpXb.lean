/- Colours: what they tell, and that isomorphisms keep them; the searches find the same. Plain. -/
import Derived.Test.YtmkhlefohbfekaaGreatSpPa
import Derived.Test.YtmkhlefohbfekaaGreatSpPb
import Derived.Test.YtmkhlefohbfekaaGreatSpPc
import Derived.Test.YtmkhlefohbfekaaGreatSpPd
import Derived.Test.YtmkhlefohbfekaaGreatSpXa
namespace Go.Am
open Go
set_option linter.unusedVariables false
set_option linter.unusedSimpArgs false
section
theorem colL_sig {s : List (List Int)} {i j : Nat} (hi : i < s.length) (hj : j < s.length) (h : gt (colL s) (i : Int) = gt (colL s) (j : Int)) : gt s (i : Int) = gt s (j : Int) := by
 rw [colL_gt hi, colL_gt hj] at h
 exact below_inj (dstL_mem.2 (gt_mem (by omega) (by omega))) (dstL_mem.2 (gt_mem (by omega) (by omega))) (by omega)
theorem stb_sig {g : G} : ∀ (k : Nat) {s : List (List Int)} {i j : Nat}, s.length = g.n.length → i < g.n.length → j < g.n.length → gt (stb g k s) (i : Int) = gt (stb g k s) (j : Int) → gt s (i : Int) = gt s (j : Int)
 | 0, s, i, j, hs, hi, hj, h => colL_sig (by omega) (by omega) h
 | k + 1, s, i, j, hs, hi, hj, h => by
  rw [stb] at h
  split at h
  ·exact colL_sig (by omega) (by omega) h
  ·have := stb_sig k (nextL_length g _) hi hj h
   rw [nextL_gt hi, nextL_gt hj] at this
   simp only [sgnO, List.cons.injEq] at this
   exact colL_sig (by omega) (by omega) this.1
theorem stabL_ty {g : G} {i j : Nat} (hi : i < g.n.length) (hj : j < g.n.length) (h : gt (stabL g) (i : Int) = gt (stabL g) (j : Int)) : gt g.n (i : Int) = gt g.n (j : Int) := by
 have := stb_sig _ (frstL_length g) hi hj h
 rw [gt_nat (by rw [frstL_length]; omega), gt_nat (by rw [frstL_length]; omega)] at this
 simp only [frstL, List.getElem_map, List.cons.injEq, and_true] at this
 rw [gt_nat hi, gt_nat hj, this]
theorem colL_app (x y : List (List Int)) : colL (x ++ y) = colA x (dstL (x ++ y)) ++ colA y (dstL (x ++ y)) := by simp [colL, colA]
theorem colA_gt {x S : List (List Int)} {i : Int} (h0 : 0 ≤ i) (h : i < x.length) : gt (colA x S) i = (below S (gt x i) : Int) := by
 rw [colA, gt_map_c h0 h]
theorem stb_join {a b : G} {l : List Int} (hl : NIso a b l) (va : InG a) (vb : InG b) (hn : a.n.length = b.n.length) : ∀ (k : Nat) {x y : List (List Int)}, Car a l x y → x.length = a.n.length → y.length = b.n.length → ∀ i : Nat, i < a.n.length →
  gt (stb (join2 a b) k (x ++ y)) (i : Int) = gt (stb (join2 a b) k (x ++ y)) (a.n.length + gt l (i : Int))
 | k, x, y, h, hx, hy, i, hi => by
  have base : gt (colL (x ++ y)) (i : Int) = gt (colL (x ++ y)) (a.n.length + gt l (i : Int)) := by
   have hr := hl.rng i hi
   rw [colL_app, gt_app_l (by omega) (by rw [colA_length]; omega), colA_gt (by omega) (by omega)]
   have e : (a.n.length : Int) + gt l (i : Int) = gt l (i : Int) + (colA x (dstL (x ++ y))).length := by rw [colA_length]; omega
   rw [e, gt_app_r hr.1 (by rw [colA_length]; omega), colA_gt hr.1 (by omega), h i hi]
  cases k with
  | zero => exact base
  | succ k =>
   rw [stb]
   split
   ·exact base
   ·rw [colL_app, nextL_join va vb (by rw [colA_length, hx]) (by rw [colA_length, hy])]
    exact stb_join hl va vb hn k (h.next hl va vb hn hx hy _) (nextL_length _ _) (nextL_length _ _) i hi
theorem NIso.col {a b : G} {l : List Int} (h : NIso a b l) (va : InG a) (vb : InG b) (hn : a.n.length = b.n.length) {i : Nat} (hi : i < a.n.length) : gt (colJ a b) (i : Int) = gt (colJ a b) (a.n.length + gt l (i : Int)) := by
 rw [colJ, stabL, joinG_two]
 have e : frstL (join2 a b) = frstL a ++ frstL b := by simp [frstL, join2]
 rw [e]
 exact stb_join h va vb hn _ (Car.first h) (frstL_length a) (frstL_length b) i hi
theorem mem_fullP' {a b : G} {l : List Int} {al : Int → Int → Bool} (va : InG a) (vb : InG b) (hn : a.n.length = b.n.length) : l ∈ fullN b.n.length (fun ns n => al ns.length n && fitsP a b (colJ a b) ns n) a.n.length [] ↔
  NIso a b l ∧ ∀ i : Nat, i < a.n.length → al i (gt l (i : Int)) = true := by
 rw [mem_fullP]
 constructor
 ·rintro ⟨h1, h2, h3, h4, h5, h6⟩
  refine ⟨⟨h1, h2, h3, fun i hi => ?_, h5⟩, h6⟩
  have h := h4 i hi
  have hr := h2 i hi
  obtain ⟨j, hj⟩ := Int.eq_ofNat_of_zero_le hr.1
  rw [hj] at h hr ⊢
  have hJ : (joinG [a, b]).n = a.n ++ b.n := by rw [joinG_two]; rfl
  have h7 := stabL_ty (g := joinG [a, b]) (i := i) (j := a.n.length + j) (by rw [hJ]; simp; omega) (by rw [hJ]; simp; omega) (by
   rw [show ((a.n.length + j : Nat) : Int) = a.n.length + j by omega]; exact h)
  rw [hJ, gt_app_l (by omega) (by omega), show ((a.n.length + j : Nat) : Int) = (j : Int) + a.n.length by omega, gt_app_r (by omega) (by omega)] at h7
  exact h7
 ·rintro ⟨h, h6⟩
  exact ⟨h.len, h.rng, h.inj, fun i hi => h.col va vb hn hi, h.num, h6⟩
def isos (a b : G) : List Mo := (fullN b.n.length (fitsR a b) a.n.length []).flatMap (imM a b)
theorem fullP_R {a b : G} (va : InG a) (vb : InG b) (hn : a.n.length = b.n.length) : fullN b.n.length (fun ns n => (fun _ _ => true : Int → Int → Bool) ns.length n && fitsP a b (colJ a b) ns n) a.n.length [] = fullN b.n.length (fitsR a b) a.n.length [] :=
 fullN_eq fun l => by rw [mem_fullP' (al := fun _ _ => true) va vb hn, mem_fullR]; simp
theorem isoN_isos {a b : G} (va : InG a) (vb : InG b) (hn : a.n.length = b.n.length) {m : Int} (hm : 0 ≤ m) : isoN a b m (fun _ _ => true) = (isos a b).take (m.toNat + 1) := by
 rw [isoN_take _ _ _ hm, fullP_R va vb hn, isos]
theorem allR_isos {a b : G} (va : InG a) (vb : InG b) (hs : shpB a b = true) {most : Int} (h1 : 1 ≤ most) : allR a b most = (isos a b).take most.toNat := by
 have hn : a.n.length = b.n.length := by
  simp only [shpB, Bool.and_eq_true, decide_eq_true_eq] at hs; exact hs.1
 exact allR_take h1 hs fun ns hns => (mem_fullR.1 hns).imE_ne va vb hn
theorem find_same (a b : G) : findP a b = findR a b := by
 unfold findP findR
 split
 ·rename_i h
  obtain ⟨va, vb⟩ := bothE_spec h
  cases hs : shpB a b with
  | false =>
   rw [if_neg (by simp), show allR a b 1 = [] by rw [allR, if_neg (by simp [hs])]]
  | true =>
   have hn : a.n.length = b.n.length := by
    simp only [shpB, Bool.and_eq_true, decide_eq_true_eq] at hs; exact hs.1
   rw [if_pos rfl, isoN_isos (InG.of_valid va) (InG.of_valid vb) hn (by omega), allR_isos (InG.of_valid va) (InG.of_valid vb) hs (by omega)]
   rfl
 ·rfl
end
section
theorem mem_imE {a b : G} {ns es : List Int} : es ∈ imE a b ns ↔ es.length = a.e.length ∧ (∀ i : Nat, i < a.e.length → 0 ≤ gt es (i : Int) ∧ gt es (i : Int) < b.e.length) ∧ (∀ i k : Nat, i < a.e.length → k < a.e.length → gt es (i : Int) = gt es (k : Int) → i = k) ∧
  ∀ i : Nat, i < a.e.length → gt b.e (gt es (i : Int)) = mapE ns (gt a.e (i : Int)) := by
 rw [imE, mem_fullN]
 simp only [List.length_nil, Nat.zero_add, List.take_zero, true_and, Nat.zero_le, forall_const]
 constructor
 ·rintro ⟨h1, h2⟩
  have h3 : ∀ i : Nat, i < a.e.length → gt b.e (gt es (i : Int)) = mapE ns (gt a.e (i : Int)) ∧ ∀ k : Nat, k < i → gt es (k : Int) ≠ gt es (i : Int) := fun i hi => by
   obtain ⟨⟨h4, h5⟩, h6⟩ := h2 i (by omega)
   have e : ((gt es (i : Int)).toNat : Int) = gt es (i : Int) := Int.toNat_of_nonneg h4
   rw [wnt_iff, e, List.length_take, show min i es.length = i by omega] at h6
   exact ⟨h6.1, (not_mem_take (by omega)).1 h6.2⟩
  refine ⟨h1, fun i hi => (h2 i (by omega)).1, fun i k hi hk e => ?_, fun i hi => (h3 i hi).1⟩
  rcases Nat.lt_trichotomy i k with h | h | h
  ·exact absurd e ((h3 k hk).2 i h)
  ·exact h
  ·exact absurd e.symm ((h3 i hi).2 k h)
 ·rintro ⟨h1, h2, h3, h4⟩
  refine ⟨h1, fun i hi => ⟨h2 i (by omega), ?_⟩⟩
  have h5 := h2 i (by omega)
  have e : ((gt es (i : Int)).toNat : Int) = gt es (i : Int) := Int.toNat_of_nonneg h5.1
  rw [wnt_iff, e, List.length_take, show min i es.length = i by omega]
  refine ⟨h4 i (by omega), (not_mem_take hi).2 fun k hk e => ?_⟩
  have := h3 k i (by omega) (by omega) e
  omega
theorem mem_isos {a b : G} {m : Mo} : m ∈ isos a b ↔ NIso a b m.n ∧ m.e ∈ imE a b m.n := by
 simp only [isos, List.mem_flatMap, mem_fullR, imM, List.mem_map]
 constructor
 ·rintro ⟨ns, h1, es, h2, rfl⟩
  exact ⟨h1, h2⟩
 ·rintro ⟨h1, h2⟩
  exact ⟨m.n, h1, m.e, h2, rfl⟩
theorem cov_full {l : List Int} {n : Nat} (h1 : l.length = n) (h2 : ∀ i : Nat, i < n → 0 ≤ gt l (i : Int) ∧ gt l (i : Int) < n) (h3 : ∀ i k : Nat, i < n → k < n → gt l (i : Int) = gt l (k : Int) → i = k) : l.Nodup ∧ covers l n = true := by
 have hnd : l.Nodup := by
  rw [List.nodup_iff_pairwise_ne, List.pairwise_iff_getElem]
  intro i j hi hj hij e
  have := h3 i j (by omega) (by omega) (by rw [gt_nat hi, gt_nat hj]; exact e)
  omega
 refine ⟨hnd, ?_⟩
 have hp := perm_sub (A := l) (B := (List.range n).map fun i : Nat => (i : Int)) hnd (fun x hx => by
  obtain ⟨i, hi, rfl⟩ := List.mem_iff_getElem.1 hx
  have := h2 i (by omega)
  rw [gt_nat hi] at this
  obtain ⟨k, hk⟩ := Int.eq_ofNat_of_zero_le this.1
  exact List.mem_map.2 ⟨k, List.mem_range.2 (by omega), hk.symm⟩) (by simp; omega)
 rw [covers, List.all_eq_true]
 intro k hk
 refine decide_eq_true (hp.mem_iff.2 (List.mem_map.2 ⟨k, hk, rfl⟩))
theorem isos_ok {a b : G} {m : Mo} (va : validG a = 0) (vb : validG b = 0) (hs : shpB a b = true) (h : m ∈ isos a b) : MOk a b m ∧ injM a b m = true ∧ surM a b m = true := by
 obtain ⟨h1, h2⟩ := mem_isos.1 h
 obtain ⟨e1, e2, e3, e4⟩ := mem_imE.1 h2
 simp only [shpB, Bool.and_eq_true, decide_eq_true_eq] at hs
 have hm : MOk a b m := ⟨va, vb, h1.len, e1, fun i hi => ⟨h1.rng i hi, (h1.ty i hi).symm⟩, fun i hi => ⟨e2 i hi, by
  rw [e4 i hi]
  exact ⟨rfl, rfl, rfl⟩⟩⟩
 have hv := mok.2 hm
 have k1 := cov_full (l := m.n) (n := b.n.length) (by rw [h1.len]; exact hs.1) (fun i hi => h1.rng i (by omega)) fun i k hi hk => h1.inj i k (by omega) (by omega)
 have k2 := cov_full (l := m.e) (n := b.e.length) (by rw [e1]; exact hs.2) (fun i hi => e2 i (by omega)) fun i k hi hk => e3 i k (by omega) (by omega)
 refine ⟨hm, ?_, ?_⟩
 ·rw [injM, decide_eq_true hv, distinct, distinct, decide_eq_true k1.1, decide_eq_true k2.1]
  rfl
 ·rw [surM, decide_eq_true hv, k1.2, k2.2]
  rfl
theorem find_len {a b : G} {m : Mo} {l : List Mo} (va : validG a = 0) (vb : validG b = 0) (h : allR a b 1 = m :: l) : m.n.length ≤ 40 ∧ m.e.length ≤ 80 := by
 cases hs : shpB a b with
 | false => rw [allR, if_neg (by simp [hs])] at h; cases h
 | true =>
  rw [allR_isos (InG.of_valid va) (InG.of_valid vb) hs (by omega)] at h
  have hm : m ∈ isos a b := List.mem_of_mem_take (h ▸ List.mem_cons_self)
  obtain ⟨k1, _⟩ := isos_ok va vb hs hm
  obtain ⟨v1, v2, _⟩ := valid_spec va
  have := k1.ln
  have := k1.le
  omega
end
attribute [local irreducible] W
@[go_sem] def c_l08_IsoFind_r0 : LL := [qB 2 0,qB 3 1,qb 4 false]
@[go_sem] def c_l08_IsoFind_r1 (F : Fn) : LL := [qc 9 (F "l08.awake") [],qv 10 9,qm 11 10,qg 11 false (qL 12 2 2),qg 11 false (qc 13 (F "r08.Small") [.t 12,.k (.int .i64 (7))]),qg 11 false (qv 14 13),qQ 15 11 14,qm 16 15,qg 16 false (qL 17 2 3),
 qg 16 false (qc 18 (F "r08.Small") [.t 17,.k (.int .i64 (7))]),qg 16 false (qv 19 18),qQ 20 16 19]
@[go_sem] def c_l08_IsoFind_r2 (F : Fn) : LL := [qc 21 (F "l08.awake") [],qm 4 21]
@[go_sem] def c_l08_IsoFind_r3 (F : Fn) : LL := [qL 23 2 2,qc 24 (F "l08.copied") [.t 23],qL 25 2 3,qc 26 (F "l08.copied") [.t 25],qc 27 (F "iso.Find") [.t 24,.t 26],qm 22 27,qx 28 22 0,qx 29 22 1,qa 5 [.nl 1,.nl 1],qs 2 5 28,qm 6 29]
@[go_sem] def c_l08_IsoFind_r4 (F : Fn) : LL := [qL 31 2 2,qL 32 2 3,qc 33 (F "r08.Find") [.t 31,.t 32],qm 30 33,qx 34 30 0,qx 35 30 1,qa 7 [.nl 1,.nl 1],qs 2 7 34,qm 8 35]
@[go_sem] def c_l08_IsoFind_r5 (F : Fn) : LL := [qm 36 6,qm 37 8,qo .eql 38 36 37,qm 39 38,qg 39 true (qL 40 2 5),qg 39 true (qL 41 2 7),qg 39 true (qc 42 (F "r06.Same") [.t 40,.t 41]),qP 43 39 42,qm 4 43]
@[go_sem] def c_l08_IsoFind (F : Fn) : LC := (.seq (.reg c_l08_IsoFind_r0 [2,3]) (.seq (.seq (.reg (c_l08_IsoFind_r1 F) [2,3,20]) (.cond (.t 20) (.seq (.reg (c_l08_IsoFind_r2 F) [4]) .ret) .skip)) (.seq (.dreg [(1,none,[],true),(2,(some 0),[1],false)] (c_l08_IsoFind_r3 F) [2,3,5,6]) (.seq (.reg (c_l08_IsoFind_r4 F) [5,6,7,8]) (.seq (.reg (c_l08_IsoFind_r5 F) [4]) .ret)))))
def h_l08_IsoFind : Hints := hOf [] (c_l08_IsoFind fun _ => 0)
section
variable (P : Program) (F : String → Nat)
def K_l08_IsoFind : Prop := ∀ a b : G, FC P (F "l08.IsoFind") [gD a, gD b] (.bool true) []
end
section
variable {P : Program} {F : String → Nat} {α : Type}
theorem w_l08_IsoFind (hw : K_l08_awake P F) (hs : K_r08_Small P F) (hc : K_l08_copied P F) (h1 : K_iso_Find P F) (h2 : K_r08_Find P F) (h3 : K_r06_Same P F) (a b : G) : W P (c_l08_IsoFind F) (Done [.t 4] [] (.bool true) []) (init [gD a, gD b]) := by
 refine W_of ?_
 have q1 := hs a 7
 have q2 := hs b 7
 have c1 := hc a
 have c2 := hc b
 have r1 := h1 a b
 have r2 := h2 a b
 rw [find_same] at r1
 have hfl := fun m l => find_len (a := a) (b := b) (m := m) (l := l)
 have hbs := bothE_spec (a := a) (b := b)
 cases s1 : smallG a 7 with
 | false =>
  rw [s1] at q1
  simp only [gD] at *
  simp (disch := omega) only [go_sem, ↓reduceIte]
  refine call_by hw ?_
  simp (disch := omega) only [go_sem, ↓reduceIte]
  refine call_by q1 ?_
  simp (disch := omega) only [go_sem, ↓reduceIte]
  refine call_by hw ?_
  simp (disch := omega) only [go_sem, ↓reduceIte]
 | true =>
  cases s2 : smallG b 7 with
  | false =>
   rw [s1] at q1
   rw [s2] at q2
   simp only [gD] at *
   simp (disch := omega) only [go_sem, ↓reduceIte]
   refine call_by hw ?_
   simp (disch := omega) only [go_sem, ↓reduceIte]
   refine call_by q1 ?_
   simp (disch := omega) only [go_sem, ↓reduceIte]
   refine call_by q2 ?_
   simp (disch := omega) only [go_sem, ↓reduceIte]
   refine call_by hw ?_
   simp (disch := omega) only [go_sem, ↓reduceIte]
  | true =>
   rw [s1] at q1
   rw [s2] at q2
   obtain ⟨l1, l2⟩ := smallG_few s1
   obtain ⟨l3, l4⟩ := smallG_few s2
   replace c1 := c1 (by omega) (by omega)
   replace c2 := c2 (by omega) (by omega)
   have hE : findR a b = if bothE a b = 0 then (match allR a b 1 with | [] => .tup [zmo, .int .i64 10] | x :: _ => .tup [mD x, .int .i64 0]) else .tup [zmo, .int .i64 (bothE a b)] := rfl
   have hR : (∃ e : Int, findR a b = .tup [zmo, .int .i64 e]) ∨ ∃ m : Mo, findR a b = .tup [mD m, .int .i64 0] ∧ m.n.length ≤ 40 ∧ m.e.length ≤ 80 := by
    rw [hE]
    split
    ·rename_i hb
     obtain ⟨va, vb⟩ := hbs hb
     cases hl : allR a b 1 with
     | nil => exact .inl ⟨10, rfl⟩
     | cons x t => exact .inr ⟨x, rfl, hfl x t va vb hl⟩
    ·exact .inl ⟨_, rfl⟩
   clear hE
   generalize findR a b = R at *
   rcases hR with ⟨e, rfl⟩ | ⟨m, rfl, k1, k2⟩
   ·have r3 := h3 ⟨[], []⟩ ⟨[], []⟩ (by decide) (by decide)
    rw [decide_eq_true rfl] at r3
    simp only [gD, gA, zmo, mD] at *
    simp (disch := omega) only [go_sem, ↓reduceIte]
    refine call_by hw ?_
    simp (disch := omega) only [go_sem, ↓reduceIte]
    refine call_by q1 ?_
    simp (disch := omega) only [go_sem, ↓reduceIte]
    refine call_by q2 ?_
    simp (disch := omega) only [go_sem, ↓reduceIte]
    refine call_by c1 ?_
    simp (disch := omega) only [go_sem, ↓reduceIte]
    refine call_by c2 ?_
    simp (disch := omega) only [go_sem, ↓reduceIte]
    refine call_by r1 ?_
    simp (disch := omega) only [go_sem, ↓reduceIte]
    refine call_by r2 ?_
    simp (disch := omega) only [go_sem, ↓reduceIte]
    refine call_by r3 ?_
    simp (disch := omega) only [go_sem, ↓reduceIte]
   ·have r3 := h3 m m (by unfold maxL; omega) (by unfold maxL; omega)
    rw [decide_eq_true rfl] at r3
    simp only [gD, gA, mD] at *
    simp (disch := omega) only [go_sem, ↓reduceIte]
    refine call_by hw ?_
    simp (disch := omega) only [go_sem, ↓reduceIte]
    refine call_by q1 ?_
    simp (disch := omega) only [go_sem, ↓reduceIte]
    refine call_by q2 ?_
    simp (disch := omega) only [go_sem, ↓reduceIte]
    refine call_by c1 ?_
    simp (disch := omega) only [go_sem, ↓reduceIte]
    refine call_by c2 ?_
    simp (disch := omega) only [go_sem, ↓reduceIte]
    refine call_by r1 ?_
    simp (disch := omega) only [go_sem, ↓reduceIte]
    refine call_by r2 ?_
    simp (disch := omega) only [go_sem, ↓reduceIte]
    refine call_by r3 ?_
    simp (disch := omega) only [go_sem, ↓reduceIte]
theorem x_l08_IsoFind (h : K_l08_IsoFind P F) (args : List D) (ha : HasEls [shG, shG] args) : FC P (F "l08.IsoFind") args (.bool true) [] := by
 simp only [HasEls] at ha
 obtain ⟨_, _, rfl, h1, _, _, rfl, h2, rfl⟩ := ha
 obtain ⟨a, rfl⟩ := rd_graph h1
 obtain ⟨b, rfl⟩ := rd_graph h2
 exact h a b
end
end Go.Am
