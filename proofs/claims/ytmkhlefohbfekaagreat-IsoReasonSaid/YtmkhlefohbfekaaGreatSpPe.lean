/- Reasons: the signs of a joint graph are those of both graphs; a round that brings no new colour brings no reason either. Plain. -/
import Derived.Test.YtmkhlefohbfekaaGreatSpPa
import Derived.Test.YtmkhlefohbfekaaGreatSpPb
import Derived.Test.YtmkhlefohbfekaaGreatSpPc
import Derived.Test.YtmkhlefohbfekaaGreatSpPd
namespace Go.Am
open Go
set_option linter.unusedVariables false
set_option linter.unusedSimpArgs false
section
theorem joinG_two (a b : G) : joinG [a, b] = join2 a b := by
 have := joinG_one a
 simp only [joinG, List.foldl_cons, List.foldl_nil] at this ⊢
 rw [this]
theorem gt_app_l {α : Type} [Inhabited α] {x y : List α} {i : Int} (h0 : 0 ≤ i) (h : i < x.length) : gt (x ++ y) i = gt x i := by
 obtain ⟨j, rfl⟩ := Int.eq_ofNat_of_zero_le h0
 rw [gt_nat (by simp; omega), gt_nat (by omega), List.getElem_append_left (by omega)]
theorem gt_app_r {α : Type} [Inhabited α] {x y : List α} {i : Int} (h0 : 0 ≤ i) (h : i < y.length) : gt (x ++ y) (i + x.length) = gt y i := by
 obtain ⟨j, rfl⟩ := Int.eq_ofNat_of_zero_le h0
 rw [show ((j : Int) + x.length) = ((j + x.length : Nat) : Int) by omega, gt_nat (by simp; omega), gt_nat (by omega), List.getElem_append_right (by omega)]
 simp
theorem flatMap_nil' {α β : Type} {f : α → List β} : ∀ {l : List α}, (∀ x ∈ l, f x = []) → l.flatMap f = []
 | [], _ => rfl
 | x :: l, h => by rw [List.flatMap_cons, h x (by simp), flatMap_nil' fun y hy => h y (by simp [hy]), List.append_nil]
theorem flatMap_congr' {α β : Type} {f g : α → List β} : ∀ {l : List α}, (∀ x ∈ l, f x = g x) → l.flatMap f = l.flatMap g
 | [], _ => rfl
 | x :: l, h => by rw [List.flatMap_cons, List.flatMap_cons, h x (by simp), flatMap_congr' fun y hy => h y (by simp [hy])]
theorem trE_nil {c : List Int} {i : Nat} {x : E} (h1 : x.f ≠ i) (h2 : x.o ≠ i) : trE c i x = [] := by
 unfold trE
 rw [if_neg h1, if_neg h2]; rfl
theorem trE_sh {c d : List Int} {i j : Nat} {x y : E} (ht : x.t = y.t) (hf : x.f = i ↔ y.f = j) (ho : x.o = i ↔ y.o = j) (h1 : gt c x.o = gt d y.o) (h2 : gt c x.f = gt d y.f) : trE c i x = trE d j y := by
 unfold trE
 rw [ht, h1, h2]
 by_cases e1 : y.f = j <;> by_cases e2 : y.o = j <;> simp [hf, ho, e1, e2]
theorem sgn_join_l {a b : G} (va : InG a) (vb : InG b) {ca cb : List Int} (h1 : ca.length = a.n.length) {i : Nat} (hi : i < a.n.length) : sgnO (join2 a b).e (ca ++ cb) i = sgnO a.e ca i := by
 unfold sgnO
 rw [gt_app_l (by omega) (by omega)]
 congr 3
 simp only [join2, trL, List.flatMap_append]
 rw [flatMap_nil' (l := List.map _ _), List.append_nil]
 ·refine flatMap_congr' fun x hx => ?_
  have := va.2.2 x hx
  simp only [trE]
  rw [gt_app_l (i := x.o) (by omega) (by omega), gt_app_l (i := x.f) (by omega) (by omega)]
 ·intro x hx
  obtain ⟨y, hy, rfl⟩ := List.mem_map.1 hx
  have := vb.2.2 y hy
  exact trE_nil (by simp only [shJ]; omega) (by simp only [shJ]; omega)
theorem sgn_join_r {a b : G} (va : InG a) (vb : InG b) {ca cb : List Int} (h1 : ca.length = a.n.length) (h2 : cb.length = b.n.length) {i : Nat} (hi : i < b.n.length) : sgnO (join2 a b).e (ca ++ cb) (a.n.length + i) = sgnO b.e cb i := by
 unfold sgnO
 have e : ((a.n.length + i : Nat) : Int) = (i : Int) + ca.length := by omega
 rw [e, gt_app_r (by omega) (by omega)]
 congr 3
 simp only [join2, trL, List.flatMap_append]
 rw [flatMap_nil' (l := a.e), List.nil_append, List.flatMap_map]
 ·refine flatMap_congr' fun x hx => ?_
  have := vb.2.2 x hx
  refine trE_sh rfl (by simp only [shJ]; omega) (by simp only [shJ]; omega) ?_ ?_
  ·simp only [shJ]
   rw [← h1]
   exact gt_app_r (by omega) (by omega)
  ·simp only [shJ]
   rw [← h1]
   exact gt_app_r (by omega) (by omega)
 ·intro x hx
  have := va.2.2 x hx
  exact trE_nil (by omega) (by omega)
theorem nextL_join {a b : G} (va : InG a) (vb : InG b) {ca cb : List Int} (h1 : ca.length = a.n.length) (h2 : cb.length = b.n.length) : nextL (join2 a b) (ca ++ cb) = nextL a ca ++ nextL b cb := by
 have hn : (join2 a b).n.length = a.n.length + b.n.length := by simp [join2]
 refine List.ext_getElem (by simp [nextL, hn]) fun i hi _ => ?_
 simp only [nextL, List.length_map, List.length_range, hn] at hi
 rcases Nat.lt_or_ge i a.n.length with h | h
 ·rw [List.getElem_append_left (by simp [nextL]; omega)]
  simp only [nextL, List.getElem_map, List.getElem_range]
  exact sgn_join_l va vb h1 h
 ·rw [List.getElem_append_right (by simp [nextL]; omega)]
  simp only [nextL, List.getElem_map, List.getElem_range, List.length_map, List.length_range]
  obtain ⟨j, rfl⟩ : ∃ j, i = a.n.length + j := ⟨i - a.n.length, by omega⟩
  rw [show a.n.length + j - a.n.length = j by omega]
  exact sgn_join_r va vb h1 h2 (by omega)
theorem sgR_join {a b : G} (va : InG a) (vb : InG b) : ∀ r, sgR (joinG [a, b]) r = (sdR a b r).1 ++ (sdR a b r).2
 | 0 => by simp [sgR, sdR, frstL, joinG_two, join2]
 | r + 1 => by
  obtain ⟨l1, l2⟩ := sdR_length a b r
  rw [sgR, sgR_join va vb r, sdR, joinG_two]
  rw [show colL ((sdR a b r).1 ++ (sdR a b r).2) = colA (sdR a b r).1 (dstL ((sdR a b r).1 ++ (sdR a b r).2)) ++ colA (sdR a b r).2 (dstL ((sdR a b r).1 ++ (sdR a b r).2)) by simp [colL, colA]]
  exact nextL_join va vb (by rw [colA_length, l1]) (by rw [colA_length, l2])
theorem chk_same {a b : G} (d : Df) : chkR a b d = chkF a b d := by
 unfold chkR chkF
 split
 ·rename_i h
  obtain ⟨va, vb⟩ : validG a = 0 ∧ validG b = 0 := by
   have := h.1
   unfold bothE at this
   split at this
   ·exact ⟨by assumption, this⟩
   ·contradiction
  rw [sgR_join (InG.of_valid va) (InG.of_valid vb), ← (sdR_length a b d.r.toNat).1, List.take_left, List.drop_left]
 ·rfl
theorem find_least {p : List Int → Bool} : ∀ {S : List (List Int)} {x y : List Int}, S.Pairwise (fun a b => scmp a b ≤ 0) → S.find? p = some x → y ∈ S → p y = true → scmp x y ≤ 0
 | [], x, y, _, h, _, _ => by simp at h
 | z :: S, x, y, hS, h, hy, hp => by
  rw [List.pairwise_cons] at hS
  rw [List.find?_cons] at h
  split at h
  ·simp only [Option.some.injEq] at h
   subst h
   rcases List.mem_cons.1 hy with rfl | hy
   ·rw [scmp_self]; omega
   ·exact hS.1 y hy
  ·rename_i hz
   rcases List.mem_cons.1 hy with rfl | hy
   ·rw [hp] at hz; cases hz
   ·exact find_least hS.2 h hy hp
theorem find_sorted {p : List Int → Bool} {S T : List (List Int)} (hS : S.Pairwise (fun a b => scmp a b ≤ 0)) (hT : T.Pairwise (fun a b => scmp a b ≤ 0)) (h : ∀ x, x ∈ S ↔ x ∈ T) : S.find? p = T.find? p := by
 cases hs : S.find? p with
 | none =>
  rw [List.find?_eq_none] at hs
  symm
  rw [List.find?_eq_none]
  exact fun x hx => hs x ((h x).2 hx)
 | some x =>
  have hxS := List.mem_of_find?_eq_some hs
  have hxp := List.find?_some hs
  cases ht : T.find? p with
  | none =>
   rw [List.find?_eq_none] at ht
   exact absurd hxp (ht x ((h x).1 hxS))
  | some z =>
   have hzT := List.mem_of_find?_eq_some ht
   have hzp := List.find?_some ht
   have h1 := find_least hS hs ((h z).2 hzT) hzp
   have h2 := find_least hT ht ((h x).1 hxS) hxp
   have := scmp_neg x z
   rw [scmp_eq x z (by omega)]
theorem dif_same (x y : List (List Int)) : difS (x ++ y) x.length = difD x y := by
 unfold difS difD
 rw [List.take_left, List.drop_left]
 exact find_sorted (sortL_sorted _) ((dstL_strict _).imp fun h => by omega) fun z => by rw [dstL_mem, (sortL_perm _).mem_iff]
theorem perm_sub {α : Type} [DecidableEq α] : ∀ {A B : List α}, A.Nodup → (∀ x ∈ A, x ∈ B) → A.length = B.length → A.Perm B
 | [], B, _, _, h => by rw [List.eq_nil_of_length_eq_zero (l := B) (by simpa using h.symm)]
 | x :: A, B, hn, hs, h => by
  rw [List.nodup_cons] at hn
  have hx := hs x (by simp)
  have hl := List.length_erase_of_mem hx
  have := perm_sub (A := A) (B := B.erase x) hn.2 (fun y hy => (List.mem_erase_of_ne (fun e => hn.1 (by rw [← e]; exact hy))).2 (hs y (by simp [hy]))) (by simp at h; omega)
  exact (this.cons x).trans (List.perm_cons_erase hx).symm
theorem below_iff {S : List (List Int)} {x y : List Int} (hx : x ∈ S) (hy : y ∈ S) : scmp x y < 0 ↔ below S x < below S y := by
 refine ⟨below_lt hx, fun h => ?_⟩
 rcases Int.lt_trichotomy (scmp x y) 0 with k | k | k
 ·exact k
 ·rw [scmp_eq _ _ k] at h; omega
 ·have := scmp_neg x y
  have := below_lt (x := y) (y := x) hy (by omega)
  omega
theorem colL_stable {g : G} {s : List (List Int)} (hs : s.length = g.n.length) (h : ndL (nextL g (colL s)) = ndL s) : colL (nextL g (colL s)) = colL s := by
 obtain ⟨T, hT⟩ : ∃ T, T = dstL (nextL g (colL s)) := ⟨_, rfl⟩
 obtain ⟨S, hS⟩ : ∃ S, S = dstL s := ⟨_, rfl⟩
 have hlen : T.length = S.length := by rw [hT, hS]; exact h
 let hd : List Int → Int := fun l => l.headD 0
 have hhd : ∀ i : Nat, i < g.n.length → hd (gt (nextL g (colL s)) (i : Int)) = (below S (gt s (i : Int)) : Int) := fun i hi => by
  rw [nextL_gt hi]
  simp only [hd, sgnO, List.headD_cons]
  rw [colL_gt (by omega), ← hS]
 have hSn : (S.map fun x => (below S x : Int)).Nodup := by
  rw [List.nodup_iff_pairwise_ne, List.pairwise_map]
  have := dstL_nodup s
  rw [← hS, List.nodup_iff_pairwise_ne] at this
  exact List.Pairwise.imp_of_mem (fun {x y} hx hy hne e => hne (below_inj hx hy (by omega))) this
 have hsub : ∀ v ∈ S.map (fun x => (below S x : Int)), v ∈ T.map hd := fun v hv => by
  obtain ⟨x, hx, rfl⟩ := List.mem_map.1 hv
  obtain ⟨i, hi, rfl⟩ := List.mem_iff_getElem.1 (dstL_mem.1 (hS ▸ hx))
  refine List.mem_map.2 ⟨gt (nextL g (colL s)) (i : Int), hT ▸ dstL_mem.2 (gt_mem (by omega) (by rw [nextL_length]; omega)), ?_⟩
  rw [hhd i (by omega), gt_nat hi]
 have hperm := perm_sub hSn hsub (by simp [hlen])
 have hTn : (T.map hd).Nodup := hperm.nodup_iff.1 hSn
 have hinj : ∀ u ∈ T, ∀ t ∈ T, hd u = hd t → u = t := fun u hu t ht e => by
  obtain ⟨i, hi, rfl⟩ := List.mem_iff_getElem.1 hu
  obtain ⟨j, hj, rfl⟩ := List.mem_iff_getElem.1 ht
  rw [List.nodup_iff_pairwise_ne, List.pairwise_iff_getElem] at hTn
  rcases Nat.lt_trichotomy i j with k | k | k
  ·exact absurd (by rw [List.getElem_map, List.getElem_map]; exact e) (hTn i j (by simpa using hi) (by simpa using hj) k)
  ·subst k; rfl
  ·exact absurd (by rw [List.getElem_map, List.getElem_map]; exact e.symm) (hTn j i (by simpa using hj) (by simpa using hi) k)
 have hform : ∀ t ∈ T, ∃ r, t = hd t :: r := fun t ht => by
  obtain ⟨i, hi, rfl⟩ := List.mem_map.1 (dstL_mem.1 (hT ▸ ht))
  exact ⟨_, rfl⟩
 have hcmp : ∀ u ∈ T, ∀ t ∈ T, (scmp u t < 0 ↔ hd u < hd t) := fun u hu t ht => by
  by_cases e : hd u = hd t
  ·rw [hinj u hu t ht e, scmp_self]; omega
  ·obtain ⟨r, h1⟩ := hform u hu
   obtain ⟨q, h2⟩ := hform t ht
   generalize hd u = p at *
   generalize hd t = m at *
   subst h1 h2
   simp only [scmp, if_neg e, sgn]
   split
   ·omega
   ·split <;> omega
 refine List.ext_getElem (by rw [colL_length, colL_length, nextL_length, hs]) fun i h1 h2 => ?_
 rw [colL_length] at h2
 have e1 := colL_gt (l := nextL g (colL s)) (i := i) (by rw [nextL_length]; omega)
 have e2 := colL_gt (l := s) (i := i) h2
 rw [gt_nat h1] at e1
 rw [gt_nat (by rw [colL_length]; exact h2)] at e2
 rw [e1, e2, ← hT, ← hS]
 have hti : gt (nextL g (colL s)) (i : Int) ∈ T := hT ▸ dstL_mem.2 (gt_mem (by omega) (by rw [nextL_length]; omega))
 have hsi : gt s (i : Int) ∈ S := hS ▸ dstL_mem.2 (gt_mem (by omega) (by omega))
 have hh := hhd i (by omega)
 generalize gt (nextL g (colL s)) (i : Int) = t at *
 generalize gt s (i : Int) = x at *
 have k1 : below T t = ((T.map hd).filter fun v => decide (v < hd t)).length := by
  rw [List.filter_map, List.length_map, below]
  congr 1
  refine List.filter_congr fun u hu => ?_
  have := hcmp u hu t hti
  simp only [Function.comp_apply]
  exact decide_eq_decide.2 this
 have k2 : below S x = ((S.map fun x => (below S x : Int)).filter fun v => decide (v < hd t)).length := by
  rw [List.filter_map, List.length_map]
  rw [below]
  congr 1
  refine List.filter_congr fun u hu => ?_
  have := below_iff hu hsi
  simp only [Function.comp_apply, hh]
  exact decide_eq_decide.2 (by omega)
 rw [k1, k2, (hperm.filter _).length_eq]
theorem sgR_stop {g : G} {r : Nat} (h : ndL (sgR g (r + 1)) = ndL (sgR g r)) : ∀ k, sgR g (r + 1 + k) = sgR g (r + 1)
 | 0 => rfl
 | k + 1 => by
  rw [show r + 1 + (k + 1) = (r + 1 + k) + 1 from rfl, sgR, sgR_stop h k]
  rw [sgR] at h ⊢
  rw [colL_stable (sgR_length g r) h]
theorem runR_none {J : G} {n : Nat} {s : Df × Bool} : ∀ {k r : Nat}, (∀ j, j < k → difS (sgR J (r + j)) n = none) → runR (stpR J n) k s r = s
 | 0, _, _ => rfl
 | k + 1, r, h => by
  have h0 : difS (sgR J r) n = none := h 0 (by omega)
  have : stpR J n s r = (s, false) := by simp only [stpR, h0]
  rw [runR, this]
  simp only [Bool.false_eq_true, if_false]
  exact runR_none fun j hj => by
   have := h (j + 1) (by omega)
   rwa [show r + (j + 1) = r + 1 + j by omega] at this
theorem run_same {a b : G} (va : InG a) (vb : InG b) (d : Df) : ∀ (k r : Nat) (m : Int), (r = 0 → m = -1) → (∀ q, r = q + 1 → m = ndL (sgR (joinG [a, b]) q)) →
  runR (stpR (joinG [a, b]) a.n.length) k (d, false) r = match rfR a b k r m with | some x => (x, true) | none => (d, false)
 | 0, _, _, _, _ => rfl
 | k + 1, r, m, h0, h1 => by
  have hj := sgR_join va vb r
  obtain ⟨l1, l2⟩ := sdR_length a b r
  have hd : difS (sgR (joinG [a, b]) r) a.n.length = difD (sdR a b r).1 (sdR a b r).2 := by rw [hj, ← l1, dif_same]
  have hn : ((dstL ((sdR a b r).1 ++ (sdR a b r).2)).length : Int) = ndL (sgR (joinG [a, b]) r) := by rw [hj]; rfl
  rw [runR, rfR]
  cases hz : difD (sdR a b r).1 (sdR a b r).2 with
  | some z =>
   rw [hz] at hd
   have : stpR (joinG [a, b]) a.n.length (d, false) r = ((⟨r, z, cntL (sdR a b r).1 z, cntL (sdR a b r).2 z⟩, true), true) := by
    simp only [stpR, hd]
    rw [hj, ← l1, List.take_left, List.drop_left]
   rw [this]
   rfl
  | none =>
   rw [hz] at hd
   have : stpR (joinG [a, b]) a.n.length (d, false) r = ((d, false), false) := by simp only [stpR, hd]
   rw [this]
   simp only [Bool.false_eq_true, if_false]
   by_cases e : ((dstL ((sdR a b r).1 ++ (sdR a b r).2)).length : Int) = m
   ·rw [if_pos e]
    simp only
    cases r with
    | zero => have := h0 rfl; omega
    | succ q =>
     have h2 := h1 q rfl
     refine runR_none fun j _ => ?_
     rw [show q + 1 + 1 + j = q + 1 + (j + 1) by omega, sgR_stop (by omega), hd]
   ·rw [if_neg e]
    exact run_same va vb d k (r + 1) _ (by omega) fun q hq => by
     obtain rfl : q = r := by omega
     exact hn
theorem rsn_same (a b : G) : rsnD a b = rfrD a b := by
 unfold rsnD rfrD
 split
 ·rename_i h
  obtain ⟨va, vb⟩ : validG a = 0 ∧ validG b = 0 := by
   unfold bothE at h
   split at h
   ·exact ⟨by assumption, h⟩
   ·contradiction
  have := run_same (InG.of_valid va) (InG.of_valid vb) ⟨0, [], 0, 0⟩ 41 0 (-1) (fun _ => rfl) (by omega)
  rw [show rsnR a b = runR (stpR (joinG [a, b]) a.n.length) 41 (⟨0, [], 0, 0⟩, false) 0 from rfl, this]
  cases rfR a b 41 0 (-1) <;> rfl
 ·rfl
theorem rfR_ok {a b : G} {d : Df} : ∀ {k r : Nat} {m : Int}, rfR a b k r m = some d → ∃ q : Nat, d.r = q ∧ r ≤ q ∧ q < r + k ∧ (cntL (sdR a b q).1 d.c : Int) = d.x ∧ (cntL (sdR a b q).2 d.c : Int) = d.y ∧ d.x ≠ d.y ∧ d.c ∈ (sdR a b q).1 ++ (sdR a b q).2
 | 0, _, _, h => by simp [rfR] at h
 | k + 1, r, m, h => by
  rw [rfR] at h
  cases hz : difD (sdR a b r).1 (sdR a b r).2 with
  | some z =>
   rw [hz] at h
   simp only [Option.some.injEq] at h
   subst h
   have h1 := List.find?_some hz
   have h2 := List.mem_of_find?_eq_some hz
   simp only [Bool.not_eq_true', decide_eq_false_iff_not] at h1
   exact ⟨r, rfl, by omega, by omega, rfl, rfl, by simp only; omega, dstL_mem.1 h2⟩
  | none =>
   rw [hz] at h
   simp only at h
   split at h
   ·cases h
   ·obtain ⟨q, h1, h2, h3, h4⟩ := rfR_ok h
    exact ⟨q, h1, by omega, by omega, h4⟩
theorem rsn_chk {a b : G} {d : Df} (hb : bothE a b = 0) (h : rfR a b 41 0 (-1) = some d) : chkR a b d = true ∧ d.c.length ≤ 1000000 := by
 obtain ⟨va, vb⟩ : validG a = 0 ∧ validG b = 0 := by
  unfold bothE at hb
  split at hb
  ·exact ⟨by assumption, hb⟩
  ·contradiction
 obtain ⟨q, h1, h2, h3, h4, h5, h6, h7⟩ := rfR_ok h
 refine ⟨?_, ?_⟩
 ·rw [chk_same, chkF, if_pos ⟨hb, by omega, by omega, h6⟩, h1, Int.toNat_natCast, decide_eq_true h4, decide_eq_true h5]
  rfl
 ·obtain ⟨x1, x2⟩ := sdR_len (a := a) (b := b) (InG.of_valid va).2.1 (InG.of_valid vb).2.1 q
  rcases List.mem_append.1 h7 with h | h
  ·exact x1 _ h
  ·exact x2 _ h
end
attribute [local irreducible] W
@[go_sem] def c_l08_IsoReason_r0 : LL := [qB 2 0,qB 3 1,qb 4 false]
@[go_sem] def c_l08_IsoReason_r1 (F : Fn) : LL := [qc 9 (F "l08.awake") [],qv 10 9,qm 11 10,qg 11 false (qL 12 2 2),qg 11 false (qc 13 (F "r08.Small") [.t 12,.k (.int .i64 (7))]),qg 11 false (qv 14 13),qQ 15 11 14,qm 16 15,qg 16 false (qL 17 2 3),
 qg 16 false (qc 18 (F "r08.Small") [.t 17,.k (.int .i64 (7))]),qg 16 false (qv 19 18),qQ 20 16 19]
@[go_sem] def c_l08_IsoReason_r2 (F : Fn) : LL := [qc 21 (F "l08.awake") [],qm 4 21]
@[go_sem] def c_l08_IsoReason_r3 (F : Fn) : LL := [qL 23 2 2,qc 24 (F "l08.copied") [.t 23],qL 25 2 3,qc 26 (F "l08.copied") [.t 25],qc 27 (F "iso.Reason") [.t 24,.t 26],qm 22 27,qx 28 22 0,qx 29 22 1,qa 5 [.int .i64 (0),.nl 1,.int .i64 (0),.int .i64 (0)],
 qs 4 5 28,qm 6 29]
@[go_sem] def c_l08_IsoReason_r4 (F : Fn) : LL := [qL 31 2 2,qL 32 2 3,qc 33 (F "r08.Reason") [.t 31,.t 32],qm 30 33,qx 34 30 0,qx 35 30 1,qa 7 [.int .i64 (0),.nl 1,.int .i64 (0),.int .i64 (0)],qs 4 7 34,qm 8 35]
@[go_sem] def c_l08_IsoReason_r5 (F : Fn) : LL := [qm 36 6,qm 37 8,qo .eql 38 36 37,qm 39 38,qg 39 true (qL 40 4 5),qg 39 true (qL 41 4 7),qg 39 true (qc 42 (F "r08.SameDiffer") [.t 40,.t 41]),qP 43 39 42,qm 44 43,qg 44 true (qm 45 6),
 qg 44 true (qk .neq 46 45 0),qg 44 true (qm 47 46),qg 47 false (qL 48 2 2),qg 47 false (qL 49 2 3),qg 47 false (qL 50 4 5),qg 47 false (qc 51 (F "iso.CheckReason") [.t 48,.t 49,.t 50]),
 qg 44 true (qQ 52 47 51),qP 53 44 52,qm 4 53]
@[go_sem] def c_l08_IsoReason (F : Fn) : LC := (.seq (.reg c_l08_IsoReason_r0 [2,3]) (.seq (.seq (.reg (c_l08_IsoReason_r1 F) [2,3,20]) (.cond (.t 20) (.seq (.reg (c_l08_IsoReason_r2 F) [4]) .ret) .skip)) (.seq (.dreg [(1,none,[],true),(2,(some 0),[1],false)] (c_l08_IsoReason_r3 F) [2,3,5,6]) (.seq (.reg (c_l08_IsoReason_r4 F) [2,3,5,6,7,8]) (.seq (.reg (c_l08_IsoReason_r5 F) [4]) .ret)))))
def h_l08_IsoReason : Hints := hOf [] (c_l08_IsoReason fun _ => 0)
section
variable (P : Program) (F : String → Nat)
def K_l08_IsoReason : Prop := ∀ a b : G, FC P (F "l08.IsoReason") [gD a, gD b] (.bool true) []
end
section
variable {P : Program} {F : String → Nat} {α : Type}
theorem smallG_few {g : G} {n : Int} (h : smallG g n = true) : g.n.length ≤ 45 ∧ g.e.length ≤ 90 := by
 unfold smallG at h
 cases hf : few g
 ·rw [hf] at h; cases h
 ·exact few_len hf
theorem w_l08_IsoReason (hw : K_l08_awake P F) (hs : K_r08_Small P F) (hc : K_l08_copied P F) (h1 : K_iso_Reason P F) (h2 : K_r08_Reason P F) (h3 : K_r08_SameDiffer P F) (h4 : K_iso_CheckReason P F) (a b : G) : W P (c_l08_IsoReason F) (Done [.t 4] [] (.bool true) []) (init [gD a, gD b]) := by
 refine W_of ?_
 have q1 := hs a 7
 have q2 := hs b 7
 have c1 := hc a
 have c2 := hc b
 have r1 := h1 a b
 have r2 := h2 a b
 have r4 := h4 a b
 rw [rsn_same] at r1
 have hk := fun h d => rsn_chk (a := a) (b := b) (d := d) h
 cases s1 : smallG a 7 with
 | false =>
  rw [s1] at q1
  simp only [gD] at *
  simp (disch := omega) only [go_sem, ↓reduceIte]
  refine call_by hw ?_
  simp (disch := omega) only [go_sem, ↓reduceIte]
  refine call_by q1 ?_
  simp (disch := omega) only [go_sem, ↓reduceIte]
  refine call_by hw ?_
  simp (disch := omega) only [go_sem, ↓reduceIte]
 | true =>
  cases s2 : smallG b 7 with
  | false =>
   rw [s1] at q1
   rw [s2] at q2
   simp only [gD] at *
   simp (disch := omega) only [go_sem, ↓reduceIte]
   refine call_by hw ?_
   simp (disch := omega) only [go_sem, ↓reduceIte]
   refine call_by q1 ?_
   simp (disch := omega) only [go_sem, ↓reduceIte]
   refine call_by q2 ?_
   simp (disch := omega) only [go_sem, ↓reduceIte]
   refine call_by hw ?_
   simp (disch := omega) only [go_sem, ↓reduceIte]
  | true =>
   rw [s1] at q1
   rw [s2] at q2
   obtain ⟨l1, l2⟩ := smallG_few s1
   obtain ⟨l3, l4⟩ := smallG_few s2
   replace c1 := c1 (by omega) (by omega)
   replace c2 := c2 (by omega) (by omega)
   have hE : rfrD a b = if bothE a b = 0 then (match rfR a b 41 0 (-1) with | some d => .tup [.agg (dfC d), .int .i64 0] | none => .tup [zdf, .int .i64 10]) else .tup [zdf, .int .i64 (bothE a b)] := rfl
   generalize rfrD a b = R at *
   generalize bothE a b = e at *
   generalize rfR a b 41 0 (-1) = o at *
   have d0 : decide ((0 : Int) = 0) = true := rfl
   by_cases he : e = 0
   ·rw [if_pos he] at hE
    cases o with
    | none =>
     simp only at hE
     have r3 := h3 ⟨0, [], 0, 0⟩ ⟨0, [], 0, 0⟩ (by decide)
     rw [decide_eq_true rfl] at r3
     subst hE
     simp only [gD, gA, zdf, dfD, dfC] at *
     simp (disch := omega) only [go_sem, ↓reduceIte]
     refine call_by hw ?_
     simp (disch := omega) only [go_sem, ↓reduceIte]
     refine call_by q1 ?_
     simp (disch := omega) only [go_sem, ↓reduceIte]
     refine call_by q2 ?_
     simp (disch := omega) only [go_sem, ↓reduceIte]
     refine call_by c1 ?_
     simp (disch := omega) only [go_sem, ↓reduceIte]
     refine call_by c2 ?_
     simp (disch := omega) only [go_sem, ↓reduceIte]
     refine call_by r1 ?_
     simp (disch := omega) only [go_sem, ↓reduceIte]
     refine call_by r2 ?_
     simp (disch := omega) only [go_sem, ↓reduceIte]
     refine call_by r3 ?_
     simp (disch := omega) only [go_sem, ↓reduceIte, show decide ((10 : Int) = 0) = false from rfl]
    | some d =>
     simp only at hE
     obtain ⟨k1, k2⟩ := hk he d rfl
     have r3 := h3 d d (by unfold maxL; omega)
     rw [decide_eq_true rfl] at r3
     replace r4 := r4 d
     rw [k1] at r4
     subst hE
     obtain ⟨dr, dc, dx, dy⟩ := d
     simp only [gD, gA, zdf, dfD, dfC] at *
     simp (disch := omega) only [go_sem, ↓reduceIte]
     refine call_by hw ?_
     simp (disch := omega) only [go_sem, ↓reduceIte]
     refine call_by q1 ?_
     simp (disch := omega) only [go_sem, ↓reduceIte]
     refine call_by q2 ?_
     simp (disch := omega) only [go_sem, ↓reduceIte]
     refine call_by c1 ?_
     simp (disch := omega) only [go_sem, ↓reduceIte]
     refine call_by c2 ?_
     simp (disch := omega) only [go_sem, ↓reduceIte]
     refine call_by r1 ?_
     simp (disch := omega) only [go_sem, ↓reduceIte]
     refine call_by r2 ?_
     simp (disch := omega) only [go_sem, ↓reduceIte]
     refine call_by r3 ?_
     simp (disch := omega) only [go_sem, ↓reduceIte, d0]
     refine call_by r4 ?_
     simp (disch := omega) only [go_sem, ↓reduceIte]
   ·rw [if_neg he] at hE
    have r3 := h3 ⟨0, [], 0, 0⟩ ⟨0, [], 0, 0⟩ (by decide)
    rw [decide_eq_true rfl] at r3
    have d1 : decide (e = 0) = false := decide_eq_false he
    subst hE
    simp only [gD, gA, zdf, dfD, dfC] at *
    simp (disch := omega) only [go_sem, ↓reduceIte]
    refine call_by hw ?_
    simp (disch := omega) only [go_sem, ↓reduceIte]
    refine call_by q1 ?_
    simp (disch := omega) only [go_sem, ↓reduceIte]
    refine call_by q2 ?_
    simp (disch := omega) only [go_sem, ↓reduceIte]
    refine call_by c1 ?_
    simp (disch := omega) only [go_sem, ↓reduceIte]
    refine call_by c2 ?_
    simp (disch := omega) only [go_sem, ↓reduceIte]
    refine call_by r1 ?_
    simp (disch := omega) only [go_sem, ↓reduceIte]
    refine call_by r2 ?_
    simp (disch := omega) only [go_sem, ↓reduceIte]
    refine call_by r3 ?_
    simp (disch := omega) only [go_sem, ↓reduceIte, d1]
end
end Go.Am
