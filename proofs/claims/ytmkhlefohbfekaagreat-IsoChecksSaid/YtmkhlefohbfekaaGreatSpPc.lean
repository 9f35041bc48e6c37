/- The reference's signs and colours: the walks, continued. -/
import Derived.Test.YtmkhlefohbfekaaGreatSpPa
import Derived.Test.YtmkhlefohbfekaaGreatSpPb
namespace Go.Am
open Go
set_option linter.unusedVariables false
set_option linter.unusedSimpArgs false
attribute [local irreducible] W
section
variable {P : Program} {F : String → Nat} {α : Type}
theorem iis_one (l : List (List Int)) (x : Int) : iis l ++ [.lst 1 [.int .i64 x]] = iis (l ++ [[x]]) := by simp [iis, ints]
theorem sortL_nil : sortL [] = [] := by simp [sortL]
theorem dstL_nil : dstL [] = [] := by simp [dstL, sortL_nil, cptL, kpL]
theorem frstL_gt {g : G} {i : Nat} (hi : i < g.n.length) : gt (frstL g) (i : Int) = [gt g.n (i : Int)] := by
 rw [gt_nat (by simp [frstL]; omega), gt_nat hi]
 simp [frstL]
theorem w_r08_types (g : G) (hg : g.n.length ≤ 100) : W P (c_r08_types F) (Done [.t 2] [] (.arr 1 (iis (frstL g))) []) (init [gD g]) := by
 have hf : (frstL g).length = g.n.length := by simp [frstL]
 have hgt := fun i => frstL_gt (g := g) (i := i)
 obtain ⟨ns, es⟩ := g
 refine W_of ?_
 simp only [gD] at *
 generalize frstL ⟨ns, es⟩ = R at *
 simp (disch := omega) only [go_sem, ↓reduceIte]
 refine W_loop (fun i : Nat => ⟨[(1, .pt 0 0), (3, .sl 1 0 i), (4, .int .i64 i)], [(0, .box [.lst 1 (ints ns), .lst 3 (eds es)]), (1, .arr 1 (iis (R.take i)))], 2⟩) (fun i => i ≤ ns.length) (fun i => ns.length - i) 0 ?_ ?_ ?_
 ·simp (disch := omega) only [go_sem, ↓reduceIte]
  rfl
 ·omega
 ·intro i hi
  simp (disch := omega) only [go_sem, ↓reduceIte, c_r08_types_b6]
  refine bran_dec (fun d => ?_) (fun d => ?_)
  ·have ht : R.take (i + 1) = R.take i ++ [[gt ns (i : Int)]] := by rw [take_gt (by omega), hgt i (by omega)]
   have hRl : (R.take i).length = i := by simp; omega
   simp (disch := omega) only [go_sem, ↓reduceIte, hRl, iis_one]
   exact ⟨i + 1, by simp [ht], by omega, by omega⟩
  ·obtain rfl : i = ns.length := by omega
   have hti : R.take ns.length = R := List.take_of_length_le (by omega)
   rw [hti]
   simp (disch := omega) only [go_sem, ↓reduceIte, hf]
theorem w_r08_distinct (hin : K_r08_insert P F) (hsa : K_r05_SameInts P F) (l : List (List Int)) (hl : l.length ≤ 10000) (hy : ∀ y ∈ l, y.length ≤ 1000000) : W P (c_r08_distinct F) (Done [.t 2] [] (.arr 1 (iis (dstL l))) []) (init [.lst 1 (iis l)]) := by
 refine W_of ?_
 simp (disch := omega) only [go_sem, ↓reduceIte]
 refine W_loop (fun i : Nat => ⟨[(0, .lst 1 (iis l)), (3, .sl 0 0 (dstL (l.take i)).length), (4, .int .i64 i)], [(0, .arr 1 (iis (dstL (l.take i))))], 1⟩) (fun i => i ≤ l.length) (fun i => l.length - i) 0 ?_ ?_ ?_
 ·simp (disch := omega) only [go_sem, ↓reduceIte]
  rw [dstL_nil]
  rfl
 ·omega
 ·intro i hi
  simp (disch := omega) only [go_sem, ↓reduceIte, c_r08_distinct_b13]
  refine bran_dec (fun d => ?_) (fun d => ?_)
  ·have hs := dstL_snoc (l.take i) (gt l (i : Int))
   rw [← take_gt (by omega)] at hs
   have hle := dstL_len (l.take i)
   have hle2 : (l.take i).length ≤ 10000 := by simp; omega
   have hgy := hy _ (gt_mem (l := l) (j := (i : Int)) (by omega) (by omega))
   have hSy : ∀ y ∈ dstL (l.take i), y.length ≤ 1000000 := fun y h => hy y (List.mem_of_mem_take (dstL_mem.1 h))
   have rI := hin (dstL (l.take i)) (gt l (i : Int)) (by omega) hSy hgy
   have hnx : dstL (l.take (i + 1)) = dstL (l.take (i + 1)) := rfl
   generalize hS : dstL (l.take i) = S at *
   generalize hx : gt l (i : Int) = x at *
   simp (disch := omega) only [go_sem, ↓reduceIte]
   refine W_loop (fun k : Nat => ⟨[(0, .lst 1 (iis l)), (3, .sl 0 0 S.length), (4, .int .i64 i), (5, .bool (decide (x ∈ S.take k))), (6, .int .i64 k)], [(0, .arr 1 (iis S))], 1⟩) (fun k => k ≤ S.length) (fun k => S.length - k) 0 ?_ ?_ ?_
   ·simp (disch := omega) only [go_sem, ↓reduceIte]
    rfl
   ·omega
   ·intro k hk
    by_cases hm : x ∈ S.take k
    ·rw [decide_eq_true hm]
     simp (disch := omega) only [go_sem, ↓reduceIte, c_r08_distinct_b9]
     refine bran_dec (fun e => ?_) (fun e => ?_)
     ·have hm2 : x ∈ S.take (k + 1) := by rw [take_gt (by omega)]; exact List.mem_append_left _ hm
      have d1 := decide_eq_true hm2
      simp (disch := omega) only [go_sem, ↓reduceIte]
      exact ⟨k + 1, by simp [d1], by omega, by omega⟩
     ·have hm2 : x ∈ S := List.mem_of_mem_take hm
      rw [if_pos hm2] at hs
      simp (disch := omega) only [go_sem, ↓reduceIte]
      exact ⟨i + 1, by simp [hs], by omega, by omega⟩
    ·rw [decide_eq_false hm]
     simp (disch := omega) only [go_sem, ↓reduceIte, c_r08_distinct_b9]
     refine bran_dec (fun e => ?_) (fun e => ?_)
     ·have ek := take_gt (l := S) (i := k) (by omega)
      have r := hsa (gt S (k : Int)) x (by have := hSy _ (gt_mem (l := S) (j := (k : Int)) (by omega) (by omega)); unfold maxL; omega)
      have hd : decide (x ∈ S.take (k + 1)) = decide (gt S (k : Int) = x) := by
       rw [decide_eq_decide, ek, List.mem_append, List.mem_singleton]
       exact ⟨fun h => h.elim (fun h => absurd h hm) Eq.symm, fun h => .inr h.symm⟩
      simp (disch := omega) only [go_sem, ↓reduceIte, hx]
      refine call_by r ?_
      simp (disch := omega) only [go_sem, ↓reduceIte]
      exact ⟨k + 1, by simp [hd], by omega, by omega⟩
     ·obtain rfl : k = S.length := by omega
      rw [List.take_length] at hm
      rw [if_neg hm] at hs
      have hil := insL_length S x
      simp (disch := omega) only [go_sem, ↓reduceIte, hx]
      refine call_fz rI ?_
      simp (disch := omega) only [go_sem, ↓reduceIte]
      exact ⟨i + 1, by simp [hs], by omega, by omega⟩
  ·obtain rfl : i = l.length := by omega
   rw [List.take_length]
   simp (disch := omega) only [go_sem, ↓reduceIte]
theorem w_r08_colours (hle : K_r08_less P F) (l S : List (List Int)) (hl : l.length ≤ 10000) (hS : S.length ≤ 10000) (hy : ∀ y ∈ l, y.length ≤ 1000000) (hz : ∀ y ∈ S, y.length ≤ 1000000) : W P (c_r08_colours F) (Done [.t 4] [] (.arr 1 (ints (colA l S))) []) (init [.lst 1 (iis l), .lst 1 (iis S)]) := by
 refine W_of ?_
 have hRl : (colA l S).length = l.length := by simp [colA]
 have hRg : ∀ i : Nat, i < l.length → gt (colA l S) (i : Int) = below S (gt l (i : Int)) := fun i hi => by
  rw [gt_nat (by omega), gt_nat hi]
  simp [colA]
 have hb : ∀ k t, k ≤ S.length → below (S.take k) t ≤ k := fun k t hk => by have := below_le (S.take k) t; simp at this; omega
 generalize colA l S = R at *
 simp (disch := omega) only [go_sem, ↓reduceIte]
 refine W_loop (fun i : Nat => ⟨[(0, .lst 1 (iis l)), (1, .lst 1 (iis S)), (5, .sl 0 0 i), (6, .int .i64 i)], [(0, .arr 1 (ints (R.take i)))], 1⟩) (fun i => i ≤ l.length) (fun i => l.length - i) 0 ?_ ?_ ?_
 ·simp (disch := omega) only [go_sem, ↓reduceIte]
  rfl
 ·omega
 ·intro i hi
  simp (disch := omega) only [go_sem, ↓reduceIte, c_r08_colours_b13]
  refine bran_dec (fun d => ?_) (fun d => ?_)
  ·have ht : R.take (i + 1) = R.take i ++ [(below S (gt l (i : Int)) : Int)] := by rw [take_gt (by omega), hRg i (by omega)]
   have hti : (R.take i).length = i := by simp; omega
   have hgy := hy _ (gt_mem (l := l) (j := (i : Int)) (by omega) (by omega))
   simp (disch := omega) only [go_sem, ↓reduceIte]
   refine W_loop (fun k : Nat => ⟨[(0, .lst 1 (iis l)), (1, .lst 1 (iis S)), (5, .sl 0 0 i), (6, .int .i64 i), (7, .int .i64 (below (S.take k) (gt l (i : Int)))), (8, .int .i64 k)], [(0, .arr 1 (ints (R.take i)))], 1⟩) (fun k => k ≤ S.length) (fun k => S.length - k) 0 ?_ ?_ ?_
   ·simp (disch := omega) only [go_sem, ↓reduceIte]
    rfl
   ·omega
   ·intro k hk
    have hbk := hb k (gt l (i : Int)) hk
    simp (disch := omega) only [go_sem, ↓reduceIte, c_r08_colours_b10]
    refine bran_dec (fun e => ?_) (fun e => ?_)
    ·have r := hle (gt S (k : Int)) (gt l (i : Int)) (hz _ (gt_mem (l := S) (j := (k : Int)) (by omega) (by omega))) hgy
     have hs : below (S.take (k + 1)) (gt l (i : Int)) = below (S.take k) (gt l (i : Int)) + (if scmp (gt S (k : Int)) (gt l (i : Int)) < 0 then 1 else 0) := by
      rw [take_gt (by omega), below, List.filter_append, List.length_append]
      simp only [List.filter_cons, List.filter_nil, decide_eq_true_eq]
      split <;> simp [below]
     generalize below (S.take k) (gt l (i : Int)) = b at *
     simp (disch := omega) only [go_sem, ↓reduceIte]
     refine call_by r ?_
     simp (disch := omega) only [go_sem, ↓reduceIte]
     refine bran_dec (fun f => ?_) (fun f => ?_)
     ·rw [if_pos f] at hs
      simp (disch := omega) only [go_sem, ↓reduceIte]
      exact ⟨k + 1, by simp [hs], by omega, by omega⟩
     ·rw [if_neg f] at hs
      simp (disch := omega) only [go_sem, ↓reduceIte]
      exact ⟨k + 1, by simp [hs], by omega, by omega⟩
    ·obtain rfl : k = S.length := by omega
     rw [List.take_length]
     simp (disch := omega) only [go_sem, ↓reduceIte, hti]
     exact ⟨i + 1, by simp [ht], by omega, by omega⟩
  ·obtain rfl : i = l.length := by omega
   have hti : R.take l.length = R := List.take_of_length_le (by omega)
   rw [hti]
   simp (disch := omega) only [go_sem, ↓reduceIte, hRl]
theorem w_r08_signs (hin : K_r08_insert P F) (g : G) (c : List Int) (hi : InG g) (hc : c.length = g.n.length) : W P (c_r08_signs F) (Done [.t 4] [] (.arr 1 (iis (nextL g c))) []) (init [gD g, .lst 1 (ints c)]) := by
 have hnl := nextL_length g c
 obtain ⟨ns, es⟩ := g
 obtain ⟨i1, i2, i3⟩ := hi
 simp only at i1 i2 i3 hc hnl
 have hng : ∀ j : Nat, j < ns.length → gt (nextL ⟨ns, es⟩ c) (j : Int) = gt c (j : Int) :: (sortL (trL es c j)).flatten := fun j hj => by
  rw [gt_nat (by omega)]
  simp [nextL, sgnO]
 refine W_of ?_
 simp only [gD]
 generalize nextL ⟨ns, es⟩ c = R at *
 simp (disch := omega) only [go_sem, ↓reduceIte]
 refine W_loop (fun i : Nat => ⟨[(1, .lst 1 (ints c)), (2, .pt 0 0), (5, .sl 1 0 i), (6, .int .i64 i)], [(0, .box [.lst 1 (ints ns), .lst 3 (eds es)]), (1, .arr 1 (iis (R.take i)))], 2⟩) (fun i => i ≤ ns.length) (fun i => ns.length - i) 0 ?_ ?_ ?_
 ·simp (disch := omega) only [go_sem, ↓reduceIte]
  rfl
 ·omega
 ·intro i hi
  simp (disch := omega) only [go_sem, ↓reduceIte, c_r08_signs_b22]
  refine bran_dec (fun d => ?_) (fun d => ?_)
  ·have hR : R.take (i + 1) = R.take i ++ [gt c (i : Int) :: (sortL (trL es c i)).flatten] := by rw [take_gt (by omega), hng i (by omega)]
   have hRl : (R.take i).length = i := by simp; omega
   simp (disch := omega) only [go_sem, ↓reduceIte]
   refine W_loop (fun k : Nat => ⟨[(1, .lst 1 (ints c)), (2, .pt 0 0), (5, .sl 1 0 i), (6, .int .i64 i), (7, .sl 2 0 (sortL (trL (es.take k) c i)).length), (8, .int .i64 k)], [(0, .box [.lst 1 (ints ns), .lst 3 (eds es)]), (1, .arr 1 (iis (R.take i))), (2, .arr 1 (iis (sortL (trL (es.take k) c i))))], 3⟩) (fun k => k ≤ es.length) (fun k => es.length - k) 0 ?_ ?_ ?_
   ·simp (disch := omega) only [go_sem, ↓reduceIte]
    rw [show trL [] c i = [] from rfl, sortL_nil]
    rfl
   ·omega
   ·intro k hk
    simp (disch := omega) only [go_sem, ↓reduceIte, c_r08_signs_b13]
    refine bran_dec (fun e => ?_) (fun e => ?_)
    ·have hm := i3 _ (gt_mem (l := es) (j := (k : Int)) (by omega) (by omega))
     have ht := trL_take (es := es) (c := c) (i := i) (k := k) (by omega)
     have hl1 := trL_len (es.take k) c i
     have hl3 : (es.take k).length ≤ 200 := by simp; omega
     have hm3 := fun x h => trL_mem (es := es.take k) (c := c) (i := i) x h
     generalize trL (es.take k) c i = T at *
     have hsl := (sortL_perm T).length_eq
     have hT3 : ∀ y ∈ sortL T, y.length ≤ 1000000 := fun y h => by rw [hm3 y ((sortL_perm T).mem_iff.1 h)]; omega
     obtain ⟨⟨t, f, o⟩, hx⟩ : ∃ x, gt es (k : Int) = x := ⟨_, rfl⟩
     rw [hx] at hm ht
     simp only at hm
     obtain ⟨m1, m2, m3, m4⟩ := hm
     have r1 : FC P (F "r08.insert") [.lst 1 (iis (sortL T)), .lst 1 [.int .i64 0, .int .i64 t, .int .i64 (gt c o)]] (.arr 1 (iis (sortL (T ++ [[0, t, gt c o]])))) [] := by
      have := hin (sortL T) [0, t, gt c o] (by omega) hT3 (by simp)
      rw [← sortL_snoc] at this
      simpa [ints] using this
     unfold trE at ht
     simp only at ht
     have two : ∀ U : List (List Int), U.length ≤ 600 → (∀ y ∈ U, y.length = 3) → FC P (F "r08.insert") [.lst 1 (iis (sortL U)), .lst 1 [.int .i64 1, .int .i64 t, .int .i64 (gt c f)]] (.arr 1 (iis (sortL (U ++ [[1, t, gt c f]])))) [] := fun U hU hU3 => by
      have := hin (sortL U) [1, t, gt c f] (by rw [(sortL_perm U).length_eq]; omega) (fun y h => by rw [hU3 y ((sortL_perm U).mem_iff.1 h)]; omega) (by simp)
      rw [← sortL_snoc] at this
      simpa [ints] using this
     have e1 : ∀ (L : List (List Int)) (x : List Int), (sortL (L ++ [x])).length = L.length + 1 := fun L x => by rw [(sortL_perm _).length_eq]; simp
     simp (disch := omega) only [go_sem, ↓reduceIte, hx]
     refine bran_dec (fun a => ?_) (fun a => ?_)
     ·rw [if_pos a] at ht
      simp (disch := omega) only [go_sem, ↓reduceIte, hx]
      refine call_fz r1 ?_
      simp (disch := omega) only [go_sem, ↓reduceIte, hx]
      refine bran_dec (fun b => ?_) (fun b => ?_)
      ·rw [if_pos b] at ht
       have r2 := two (T ++ [[0, t, gt c o]]) (by simp; omega) (fun y h => by
        rcases List.mem_append.1 h with h | h
        ·exact hm3 y h
        ·simp at h; simp [h])
       have ht2 : trL (es.take (k + 1)) c i = T ++ [[0, t, gt c o]] ++ [[1, t, gt c f]] := by rw [ht]; simp
       simp (disch := omega) only [go_sem, ↓reduceIte, hx]
       refine call_fz r2 ?_
       simp (disch := omega) only [go_sem, ↓reduceIte, hx]
       exact ⟨k + 1, by simp [ht2], by omega, by omega⟩
      ·rw [if_neg b, List.append_nil] at ht
       simp (disch := omega) only [go_sem, ↓reduceIte, hx]
       exact ⟨k + 1, by simp [ht], by omega, by omega⟩
     ·rw [if_neg a, List.nil_append] at ht
      simp (disch := omega) only [go_sem, ↓reduceIte, hx]
      refine bran_dec (fun b => ?_) (fun b => ?_)
      ·rw [if_pos b] at ht
       have r2 := two T (by omega) hm3
       simp (disch := omega) only [go_sem, ↓reduceIte, hx]
       refine call_fz r2 ?_
       simp (disch := omega) only [go_sem, ↓reduceIte, hx]
       exact ⟨k + 1, by simp [ht], by omega, by omega⟩
      ·rw [if_neg b, List.append_nil] at ht
       simp (disch := omega) only [go_sem, ↓reduceIte, hx]
       exact ⟨k + 1, by simp [ht], by omega, by omega⟩
    ·obtain rfl : k = es.length := by omega
     rw [List.take_length]
     obtain ⟨s1, s2, s3⟩ := sgn_len (c := c) (i := i) i2
     generalize sortL (trL es c i) = S at *
     have hb : ∀ q, q ≤ S.length → (S.take q).flatten.length ≤ 1200 := fun q hq => by
      have h1 := List.take_append_drop q S
      have h2 : S.flatten = (S.take q).flatten ++ (S.drop q).flatten := by rw [← List.flatten_append, h1]
      have := congrArg List.length h2
      rw [List.length_append] at this
      omega
     obtain ⟨Q, hQ⟩ : ∃ Q : Nat → List Int, ∀ q, Q q = gt c (i : Int) :: (S.take q).flatten := ⟨_, fun _ => rfl⟩
     have hQl : ∀ q, q ≤ S.length → (Q q).length ≤ 1201 := fun q hq => by rw [hQ]; have := hb q hq; simp only [List.length_cons]; omega
     have hQs : ∀ q, q < S.length → Q (q + 1) = Q q ++ gt S (q : Int) := fun q hq => by rw [hQ, hQ, flat_take hq]; rfl
     have hQn : Q S.length = gt c (i : Int) :: S.flatten := by rw [hQ, List.take_length]
     rw [← hQn] at hR
     simp (disch := omega) only [go_sem, ↓reduceIte]
     refine W_loop (fun q : Nat => ⟨[(1, .lst 1 (ints c)), (2, .pt 0 0), (5, .sl 1 0 i), (6, .int .i64 i), (7, .sl 2 0 S.length), (10, .sl 3 0 (Q q).length), (11, .int .i64 q)], [(0, .box [.lst 1 (ints ns), .lst 3 (eds es)]), (1, .arr 1 (iis (R.take i))), (2, .arr 1 (iis S)), (3, .arr 1 (ints (Q q)))], 4⟩) (fun q => q ≤ S.length) (fun q => S.length - q) 0 ?_ ?_ ?_
     ·simp (disch := omega) only [go_sem, ↓reduceIte]
      rw [hQ]
      rfl
     ·omega
     ·intro q hq
      have hbq := hQl q hq
      simp (disch := omega) only [go_sem, ↓reduceIte, c_r08_signs_b19]
      refine bran_dec (fun e => ?_) (fun e => ?_)
      ·have hx1 := s1 _ (gt_mem (l := S) (j := (q : Int)) (by omega) (by omega))
       have h2 := hQs q (by omega)
       simp (disch := omega) only [go_sem, ↓reduceIte]
       exact ⟨q + 1, by simp [h2], by omega, by omega⟩
      ·obtain rfl : q = S.length := by omega
       simp (disch := omega) only [go_sem, ↓reduceIte, hRl]
       exact ⟨i + 1, by simp [hR], by omega, by omega⟩
  ·obtain rfl : i = ns.length := by omega
   have hti : R.take ns.length = R := List.take_of_length_le (by omega)
   rw [hti]
   simp (disch := omega) only [go_sem, ↓reduceIte, hnl]
end
@[go_sem] def c_iso_joined_stable_r0 : LL := [qB 1 0,qn 2 1]
@[go_sem] def c_iso_joined_stable_r1 (F : Fn) : LL := [qL 8 2 1,qc 9 (F "iso.joined.first") [.t 8],qc 10 (F "iso.colour") [.t 9],qm 7 10,qx 11 7 0,qx 12 7 1,qm 3 11,qm 4 12]
@[go_sem] def c_iso_joined_stable_r2 (F : Fn) : LL := [qL 14 2 1,qm 15 3,qc 16 (F "iso.joined.next") [.t 14,.t 15],qc 17 (F "iso.colour") [.t 16],qm 13 17,qx 18 13 0,qx 19 13 1,qm 5 18,qm 6 19]
@[go_sem] def c_iso_joined_stable_r3 : LL := [qm 20 6,qm 21 4,qo .eql 22 20 21]
@[go_sem] def c_iso_joined_stable_r4 : LL := [qm 23 3,qm 2 23]
@[go_sem] def c_iso_joined_stable_r5 : LL := [qm 24 5,qm 25 6,qm 3 24,qm 4 25]
def c_iso_joined_stable_b6 (F : Fn) : LC := (.block 1 (.seq (.reg (c_iso_joined_stable_r2 F) [1,3,4,5,6]) (.seq (.seq (.reg c_iso_joined_stable_r3 [1,3,5,6,22]) (.cond (.t 22) (.seq (.reg c_iso_joined_stable_r4 [2]) .ret) .skip)) (.reg c_iso_joined_stable_r5 [1,3,4]))))
@[go_sem] def c_iso_joined_stable (F : Fn) : LC := (.seq (.reg c_iso_joined_stable_r0 [1]) (.seq (.reg (c_iso_joined_stable_r1 F) [1,3,4]) (.block 0 (.loop [1,3,4] (c_iso_joined_stable_b6 F)))))
def h_iso_joined_stable : Hints := hOf [] (c_iso_joined_stable fun _ => 0)
@[go_sem] def c_iso_Refine_r0 : LL := [qB 1 0,qn 2 1,qi 3 0]
@[go_sem] def c_iso_Refine_r1 (F : Fn) : LL := [qL 5 2 1,qc 6 (F "graph.Valid") [.t 5],qm 4 6]
@[go_sem] def c_iso_Refine_r2 : LL := [qm 7 4,qk .neq 8 7 0]
@[go_sem] def c_iso_Refine_r3 : LL := [qm 9 4,qn 2 1,qm 3 9]
@[go_sem] def c_iso_Refine_r4 (F : Fn) : LL := [qL 10 2 1,⟨some 11,.buildSl 2 48 (.agg [.lst 1 [],.lst 3 []]) 1 [(0,.t 10)],none⟩,qc 12 (F "iso.join") [.t 11],qc 13 (F "iso.joined.stable") [.t 12],qm 2 13,qi 3 0]
@[go_sem] def c_iso_Refine (F : Fn) : LC := (.seq (.reg c_iso_Refine_r0 [1]) (.seq (.seq (.reg (c_iso_Refine_r1 F) [1,4]) (.seq (.reg c_iso_Refine_r2 [1,4,8]) (.cond (.t 8) (.seq (.reg c_iso_Refine_r3 [2,3]) .ret) .skip))) (.seq (.reg (c_iso_Refine_r4 F) [2,3]) .ret)))
def h_iso_Refine : Hints := hOf [] (c_iso_Refine fun _ => 0)
@[go_sem] def c_r08_Small_r0 : LL := [qB 2 0,qb 4 false]
@[go_sem] def c_r08_Small_r1 (F : Fn) : LL := [qL 5 2 2,qc 6 (F "r05.Few") [.t 5],qm 7 6,qg 7 true (qL 8 2 2),qg 7 true (qc 9 (F "r05.Valid") [.t 8]),qg 7 true (qk .neq 10 9 0),qg 7 true (qm 11 10),qg 11 false (qf 12 0 2),qg 11 false (ql 13 1 12),
 qg 11 false (qz 14 13),qg 11 false (qm 15 1),qg 11 false (qo .leq 16 14 15),qg 11 false (qm 17 16),qg 17 true (qf 18 1 2),qg 17 true (ql 19 1 18),qg 17 true (qz 20 19),
 qg 17 true (qk .leq 21 20 10),qg 11 false (qP 22 17 21),qg 7 true (qQ 23 11 22),qP 24 7 23,qm 4 24]
@[go_sem] def c_r08_Small (F : Fn) : LC := (.seq (.reg c_r08_Small_r0 [1,2]) (.seq (.reg (c_r08_Small_r1 F) [4]) .ret))
def h_r08_Small : Hints := hOf [] (c_r08_Small fun _ => 0)
@[go_sem] def c_l08_copied_r0 : LL := [qB 1 0,qa 2 [.nl 1,.nl 3]]
@[go_sem] def c_l08_copied_r1 (F : Fn) : LL := [qL 3 2 1,qc 4 (F "r05.Copied") [.t 3],qs 2 2 4]
@[go_sem] def c_l08_copied (F : Fn) : LC := (.seq (.reg c_l08_copied_r0 [1,2]) (.seq (.reg (c_l08_copied_r1 F) [2]) .ret))
def h_l08_copied : Hints := hOf [] (c_l08_copied fun _ => 0)
@[go_sem] def c_iso_both_r0 : LL := [qB 2 0,qB 3 1,qi 4 0]
@[go_sem] def c_iso_both_r1 (F : Fn) : LL := [qL 6 2 2,qc 7 (F "graph.Valid") [.t 6],qm 5 7]
@[go_sem] def c_iso_both_r2 : LL := [qm 8 5,qk .neq 9 8 0]
@[go_sem] def c_iso_both_r3 : LL := [qm 10 5,qm 4 10]
@[go_sem] def c_iso_both_r4 (F : Fn) : LL := [qL 11 2 3,qc 12 (F "graph.Valid") [.t 11],qm 4 12]
@[go_sem] def c_iso_both (F : Fn) : LC := (.seq (.reg c_iso_both_r0 [2,3]) (.seq (.seq (.reg (c_iso_both_r1 F) [3,5]) (.seq (.reg c_iso_both_r2 [3,5,9]) (.cond (.t 9) (.seq (.reg c_iso_both_r3 [4]) .ret) .skip))) (.seq (.reg (c_iso_both_r4 F) [4]) .ret)))
def h_iso_both : Hints := hOf [] (c_iso_both fun _ => 0)
@[go_sem] def c_iso_shaped_r0 : LL := [qB 2 0,qB 3 1,qb 4 false]
@[go_sem] def c_iso_shaped_r1 : LL := [qf 5 0 2,ql 6 1 5,qz 7 6,qf 8 0 3,ql 9 1 8,qz 10 9,qo .eql 11 7 10,qm 12 11,qg 12 true (qf 13 1 2),qg 12 true (ql 14 1 13),qg 12 true (qz 15 14),qg 12 true (qf 16 1 3),
 qg 12 true (ql 17 1 16),qg 12 true (qz 18 17),qg 12 true (qo .eql 19 15 18),qP 20 12 19,qm 4 20]
@[go_sem] def c_iso_shaped (F : Fn) : LC := (.seq (.reg c_iso_shaped_r0 [2,3]) (.seq (.reg c_iso_shaped_r1 [4]) .ret))
def h_iso_shaped : Hints := hOf [] (c_iso_shaped fun _ => 0)
def ndL (l : List (List Int)) : Nat := (dstL l).length
def stb (g : G) : Nat → List (List Int) → List Int
 | 0, s => colL s
 | k + 1, s => if ndL (nextL g (colL s)) = ndL s then colL s else stb g k (nextL g (colL s))
def stabL (g : G) : List Int := stb g (g.n.length + 1) (frstL g)
def refD (g : G) : D := if validG g = 0 then .tup [.lst 1 (ints (stabL g)), .int .i64 0] else .tup [.arr 1 [], .int .i64 (validG g)]
def smallG (g : G) (n : Int) : Bool := few g && (!decide (validG g = 0) || (decide ((g.n.length : Int) ≤ n) && decide (g.e.length ≤ 10)))
def bothE (a b : G) : Int := if validG a = 0 then validG b else validG a
section
variable (P : Program) (F : String → Nat)
def K_iso_joined_stable : Prop := ∀ g : G, InG g → FC P (F "iso.joined.stable") [gD g] (.lst 1 (ints (stabL g))) []
def K_iso_Refine : Prop := ∀ g : G, FC P (F "iso.Refine") [gD g] (refD g) []
def K_r08_Small : Prop := ∀ (g : G) (n : Int), FC P (F "r08.Small") [gD g, .int .i64 n] (.bool (smallG g n)) []
def K_l08_copied : Prop := ∀ g : G, g.n.length ≤ 1000000 → g.e.length ≤ 1000000 → FC P (F "l08.copied") [gD g] (gA g) []
def K_iso_both : Prop := ∀ a b : G, FC P (F "iso.both") [gD a, gD b] (.int .i64 (bothE a b)) []
def K_iso_shaped : Prop := ∀ a b : G, FC P (F "iso.shaped") [gD a, gD b] (.bool (decide (a.n.length = b.n.length) && decide (a.e.length = b.e.length))) []
end
section
variable {α : Type}
theorem ndL_le (l : List (List Int)) : ndL l ≤ l.length := dstL_len l
theorem dstL_nodup (l : List (List Int)) : (dstL l).Nodup := (dstL_strict l).imp fun {a b} h e => by subst e; rw [scmp_self] at h; omega
theorem below_lt {S : List (List Int)} {x y : List Int} (hx : x ∈ S) (h : scmp x y < 0) : below S x < below S y := by
 have hsub : ∀ z, z ∈ x :: S.filter (fun z => decide (scmp z x < 0)) → z ∈ x :: S := fun z hz => by
  rcases List.mem_cons.1 hz with rfl | hz
  ·simp
  ·exact List.mem_cons_of_mem _ (List.mem_filter.1 hz).1
 unfold below
 have h1 : ∀ z ∈ S, decide (scmp z x < 0) = true → decide (scmp z y < 0) = true := fun z _ hz => by
  simp only [decide_eq_true_eq] at *
  exact scmp_tr _ _ _ hz h
 induction S with
 | nil => cases hx
 | cons a S ih =>
  simp only [List.filter_cons]
  rcases List.mem_cons.1 hx with rfl | hx
  ·rw [if_neg (by simp [scmp_self]), if_pos (by simpa using h)]
   have : (S.filter fun z => decide (scmp z x < 0)).length ≤ (S.filter fun z => decide (scmp z y < 0)).length := by
    rw [← List.countP_eq_length_filter, ← List.countP_eq_length_filter]
    exact List.countP_mono_left fun z hz hzx => h1 z (by simp [hz]) hzx
   simp only [List.length_cons]
   omega
  ·have ih := ih hx (fun z hz => by
    rcases List.mem_cons.1 hz with rfl | hz
    ·simp
    ·exact List.mem_cons_of_mem _ (List.mem_filter.1 hz).1) fun z hz => h1 z (by simp [hz])
   by_cases ha : scmp a x < 0
   ·have hay : scmp a y < 0 := scmp_tr _ _ _ ha h
    rw [if_pos (by simpa using ha), if_pos (by simpa using hay)]
    simp only [List.length_cons]
    omega
   ·rw [if_neg (by simpa using ha)]
    split
    ·simp only [List.length_cons]; omega
    ·exact ih
theorem below_inj {S : List (List Int)} {x y : List Int} (hx : x ∈ S) (hy : y ∈ S) (h : below S x = below S y) : x = y := by
 have h1 : ¬ scmp x y < 0 := fun k => by have := below_lt hx k; omega
 have h2 : ¬ scmp y x < 0 := fun k => by have := below_lt hy k; omega
 have := scmp_neg x y
 exact scmp_eq _ _ (by omega)
theorem colL_gt {l : List (List Int)} {i : Nat} (h : i < l.length) : gt (colL l) (i : Int) = (below (dstL l) (gt l (i : Int)) : Int) := by
 rw [gt_nat (by simp [colL]; omega), gt_nat h]
 simp [colL]
theorem nextL_gt {g : G} {c : List Int} {i : Nat} (h : i < g.n.length) : gt (nextL g c) (i : Int) = sgnO g.e c i := by
 rw [gt_nat (by simp [nextL]; omega)]
 simp [nextL]
theorem frstL_length (g : G) : (frstL g).length = g.n.length := by simp [frstL]
theorem ndL_next {g : G} {s : List (List Int)} (hs : s.length = g.n.length) : ndL s ≤ ndL (nextL g (colL s)) := by
 have hnd : ((dstL s).map fun x => (below (dstL s) x : Int)).Nodup := by
  rw [List.nodup_iff_pairwise_ne, List.pairwise_map]
  have := dstL_nodup s
  rw [List.nodup_iff_pairwise_ne] at this
  refine List.Pairwise.imp_of_mem (fun {x y} hx hy hne e => hne (below_inj hx hy (by omega))) this
 have hsub : ((dstL s).map fun x => (below (dstL s) x : Int)) ⊆ (dstL (nextL g (colL s))).map fun l => l.headD 0 := by
  intro v hv
  obtain ⟨x, hx, rfl⟩ := List.mem_map.1 hv
  obtain ⟨i, hi, rfl⟩ := List.mem_iff_getElem.1 (dstL_mem.1 hx)
  refine List.mem_map.2 ⟨gt (nextL g (colL s)) (i : Int), dstL_mem.2 (gt_mem (by omega) (by rw [nextL_length]; omega)), ?_⟩
  rw [nextL_gt (by omega)]
  simp only [sgnO, List.headD_cons]
  rw [colL_gt hi, gt_nat hi]
 have := List.Nodup.length_le_of_subset hnd hsub
 simpa [ndL] using this
theorem InG.of_valid {g : G} (h : validG g = 0) : InG g := by
 obtain ⟨h1, h2, _, h4⟩ := valid_spec h
 refine ⟨by omega, by omega, fun x hx => ?_⟩
 have := h4 x hx
 simp only [fitsE, Bool.and_eq_true, decide_eq_true_eq] at this
 omega
theorem joinG_one (g : G) : joinG [g] = g := by
 obtain ⟨n, e⟩ := g
 simp only [joinG, List.foldl_cons, List.foldl_nil, join2, List.nil_append, List.length_nil, G.mk.injEq, true_and]
 have : shJ 0 = id := by
  funext x
  obtain ⟨t, f, o⟩ := x
  simp [shJ]
 rw [this, List.map_id]
theorem sgnO_len {es : List E} {c : List Int} {i : Nat} (h : es.length ≤ 200) : (sgnO es c i).length ≤ 1000000 := by
 obtain ⟨_, _, s3⟩ := sgn_len (c := c) (i := i) h
 simp only [sgnO, List.length_cons]
 omega
theorem nextL_len {g : G} {c : List Int} (h : g.e.length ≤ 200) : ∀ x ∈ nextL g c, x.length ≤ 1000000 := fun x hx => by
 obtain ⟨i, _, rfl⟩ := List.mem_map.1 hx
 exact sgnO_len h
theorem frstL_len (g : G) : ∀ x ∈ frstL g, x.length ≤ 1000000 := fun x hx => by
 obtain ⟨i, _, rfl⟩ := List.mem_map.1 hx
 simp
end
section
variable {P : Program} {F : String → Nat} {α : Type}
theorem w_iso_joined_stable (hf : K_iso_joined_first P F) (hc : K_iso_colour P F) (hn : K_iso_joined_next P F) (g : G) (hi : InG g) : W P (c_iso_joined_stable F) (DoneF [.t 2] [] (.lst 1 (ints (stabL g))) []) (init [gD g]) := by
 have r1 := hf g hi.1
 have r2 := hc (frstL g) (by have := hi.1; rw [frstL_length]; omega) (frstL_len g)
 have rn := fun c h => hn g c hi h
 have rc := fun s (h1 : s.length = g.n.length) (h2 : ∀ x ∈ s, x.length ≤ 1000000) => hc s (by have := hi.1; omega) h2
 have hst : stabL g = stb g (g.n.length + 1) (frstL g) := rfl
 have hlen := fun c => nextL_len (g := g) (c := c) hi.2.1
 have hfl := frstL_length g
 have hfx := frstL_len g
 have hnl := nextL_length g
 have hmono := fun s => ndL_next (g := g) (s := s)
 generalize stabL g = R at *
 generalize hN : g.n.length = N at *
 have hN2 := hi.1
 simp only [gD] at *
 refine W_ofF ?_
 simp (disch := omega) only [go_sem, ↓reduceIte]
 refine call_fz r1 ?_
 simp (disch := omega) only [go_sem, ↓reduceIte]
 refine call_by r2 ?_
 simp (disch := omega) only [go_sem, ↓reduceIte, colL_length]
 refine W_loop (fun s : List (List Int) => ⟨[(1, .pt 0 0), (3, .sl 1 0 (colL s).length), (4, .int .i64 (dstL s).length)], [(0, .box [.lst 1 (ints g.n), .lst 3 (eds g.e)]), (1, .arr 1 (ints (colL s)))], 2⟩)
  (fun s => s.length = N ∧ (∀ x ∈ s, x.length ≤ 1000000) ∧ ∃ k, R = stb g k s ∧ N < k + ndL s) (fun s => N - ndL s) (frstL g) ?_ ?_ ?_
 ·simp (disch := omega) only [go_sem, ↓reduceIte, colL_length]
 ·exact ⟨hfl, hfx, N + 1, hst, by omega⟩
 ·rintro s ⟨h1, h2, k, h3, h4⟩
  have hcl := colL_length s
  have q1 := rn (colL s) (by omega)
  have q2 := rc (nextL g (colL s)) (by rw [hnl]) (hlen (colL s))
  have hm := hmono s (by omega)
  have hle := ndL_le s
  have hle2 := ndL_le (nextL g (colL s))
  rw [hnl] at hle2
  obtain ⟨k, rfl⟩ : ∃ j, k = j + 1 := ⟨k - 1, by omega⟩
  rw [stb] at h3
  have hcl2 := colL_length (nextL g (colL s))
  rw [hnl] at hcl2
  have hnx := hnl (colL s)
  have hx2 := hlen (colL s)
  unfold ndL at *
  simp (disch := omega) only [go_sem, ↓reduceIte, c_iso_joined_stable_b6, hcl, h1]
  refine call_fz q1 ?_
  simp (disch := omega) only [go_sem, ↓reduceIte]
  refine call_by q2 ?_
  simp (disch := omega) only [go_sem, ↓reduceIte]
  refine bran_dec (fun d => ?_) (fun d => ?_)
  ·rw [if_pos (by omega)] at h3
   simp (disch := omega) only [go_sem, ↓reduceIte, hcl, h1]
   rw [h3]
  ·rw [if_neg (by omega)] at h3
   simp (disch := omega) only [go_sem, ↓reduceIte, hcl2]
   exact ⟨nextL g (colL s), by simp [hcl2], ⟨by omega, hx2, k, h3, by omega⟩, by omega⟩
theorem w_iso_Refine (hv : K_graph_Valid P F) (hj : K_iso_join P F) (hs : K_iso_joined_stable P F) (g : G) : W P (c_iso_Refine F) (DoneF [.t 2, .t 3] [] (refD g) []) (init [gD g]) := by
 have r1 := hv g
 have r2 := fun h : validG g = 0 => hj [g] (by simp) (by simpa using h)
 have r3 := fun h : validG g = 0 => hs g (InG.of_valid h)
 rw [joinG_one] at r2
 unfold refD
 generalize validG g = v at *
 generalize stabL g = R at *
 simp only [gDs, List.map_cons, List.map_nil, gD, gA] at *
 refine W_ofF ?_
 simp (disch := omega) only [go_sem, ↓reduceIte]
 refine call_by r1 ?_
 simp (disch := omega) only [go_sem, ↓reduceIte]
 refine bran_ndec (fun d => ?_) (fun d => ?_)
 ·rw [if_neg d]
  simp (disch := omega) only [go_sem, ↓reduceIte]
 ·subst d
  rw [if_pos rfl]
  simp (disch := omega) only [go_sem, ↓reduceIte]
  refine call_by (r2 rfl) ?_
  simp (disch := omega) only [go_sem, ↓reduceIte]
  refine call_fz (r3 rfl) ?_
  simp (disch := omega) only [go_sem, ↓reduceIte]
theorem w_iso_both (hv : K_graph_Valid P F) (a b : G) : W P (c_iso_both F) (Done [.t 4] [] (.int .i64 (bothE a b)) []) (init [gD a, gD b]) := by
 have r1 := hv a
 have r2 := hv b
 unfold bothE
 generalize validG a = v at *
 generalize validG b = u at *
 simp only [gD] at *
 refine W_of ?_
 simp (disch := omega) only [go_sem, ↓reduceIte]
 refine call_by r1 ?_
 simp (disch := omega) only [go_sem, ↓reduceIte]
 refine bran_ndec (fun d => ?_) (fun d => ?_)
 ·rw [if_neg d]
  simp (disch := omega) only [go_sem, ↓reduceIte]
 ·rw [if_pos d]
  simp (disch := omega) only [go_sem, ↓reduceIte]
  refine call_by r2 ?_
  simp (disch := omega) only [go_sem, ↓reduceIte]
theorem w_iso_shaped (a b : G) : W P (c_iso_shaped F) (Done [.t 4] [] (.bool (decide (a.n.length = b.n.length) && decide (a.e.length = b.e.length))) []) (init [gD a, gD b]) := by
 simp only [gD] at *
 refine W_of ?_
 have e1 : decide ((a.n.length : Int) = b.n.length) = decide (a.n.length = b.n.length) := by rw [decide_eq_decide]; omega
 have e2 : decide ((a.e.length : Int) = b.e.length) = decide (a.e.length = b.e.length) := by rw [decide_eq_decide]; omega
 by_cases c : a.n.length = b.n.length
 ·rw [decide_eq_true c] at *
  simp (disch := omega) only [go_sem, ↓reduceIte, e1, e2]
 ·rw [decide_eq_false c] at *
  simp (disch := omega) only [go_sem, ↓reduceIte, e1, e2]
theorem w_l08_copied (hc : K_r05_Copied P F) (g : G) (h1 : g.n.length ≤ 1000000) (h2 : g.e.length ≤ 1000000) : W P (c_l08_copied F) (Done [.c 2 true 2] [] (gA g) []) (init [gD g]) := by
 have r := hc g h1 h2
 simp only [gD, gA] at *
 refine W_of ?_
 simp (disch := omega) only [go_sem, ↓reduceIte]
 refine call_by r ?_
 simp (disch := omega) only [go_sem, ↓reduceIte]
theorem w_r08_Small (hf : K_r05_Few P F) (hv : K_r05_Valid P F) (g : G) (n : Int) : W P (c_r08_Small F) (Done [.t 4] [] (.bool (smallG g n)) []) (init [gD g, .int .i64 n]) := by
 have r1 := hf g
 have r2 := hv g
 unfold smallG
 generalize few g = f at *
 generalize validG g = v at *
 simp only [gD] at *
 refine W_of ?_
 simp (disch := omega) only [go_sem, ↓reduceIte]
 refine call_by r1 ?_
 cases f with
 | false => simp (disch := omega) only [go_sem, ↓reduceIte]
 | true =>
  simp (disch := omega) only [go_sem, ↓reduceIte]
  refine call_by r2 ?_
  by_cases d : v = 0
  ·have d0 : decide (v = 0) = true := decide_eq_true d
   by_cases e : (g.n.length : Int) ≤ n
   ·have d1 : decide ((g.n.length : Int) ≤ n) = true := decide_eq_true e
    have d2 : decide ((g.e.length : Int) ≤ 10) = decide (g.e.length ≤ 10) := by rw [decide_eq_decide]; omega
    simp (disch := omega) only [go_sem, ↓reduceIte, d0, d1, d2]
    rfl
   ·have d1 : decide ((g.n.length : Int) ≤ n) = false := decide_eq_false e
    simp (disch := omega) only [go_sem, ↓reduceIte, d0, d1]
    rfl
  ·have d0 : decide (v = 0) = false := decide_eq_false d
   simp (disch := omega) only [go_sem, ↓reduceIte, d0]
   rfl
end
@[go_sem] def c_iso_rounds_r0 : LL := [qB 3 0,qB 4 1]
@[go_sem] def c_iso_rounds_r1 (F : Fn) : LL := [qL 11 2 3,qL 12 2 4,⟨some 13,.buildSl 2 48 (.agg [.lst 1 [],.lst 3 []]) 2 [(0,.t 11),(1,.t 12)],none⟩,qc 14 (F "iso.join") [.t 13],qa 6 [.nl 1,.nl 3],qs 2 6 14]
@[go_sem] def c_iso_rounds_r2 (F : Fn) : LL := [qL 15 2 6,qc 16 (F "iso.joined.first") [.t 15],qm 7 16]
@[go_sem] def c_iso_rounds_r3 : LL := [qi 8 0]
@[go_sem] def c_iso_rounds_r4 : LL := [qm 17 8,qk .leq 18 17 40]
@[go_sem] def c_iso_rounds_r5 : LL := [qm 21 2,qm 22 8,qm 23 7,⟨some 24,.callm (.t 21) [.t 22,.t 23],none⟩]
@[go_sem] def c_iso_rounds_r6 (F : Fn) : LL := [qm 26 7,qc 27 (F "iso.colour") [.t 26],qm 25 27,qx 28 25 0,qx 29 25 1,qm 9 28,qm 10 29]
@[go_sem] def c_iso_rounds_r7 (F : Fn) : LL := [qL 30 2 6,qm 31 9,qc 32 (F "iso.joined.next") [.t 30,.t 31],qm 7 32]
@[go_sem] def c_iso_rounds_r8 : LL := [qm 19 8,qk .add 20 19 1,qm 8 20]
def c_iso_rounds_b9 (F : Fn) : LC := (.seq (.seq (.reg c_iso_rounds_r4 [2,6,7,8,18]) (.cond (.t 18) .skip (.exit 0))) (.seq (.block 1 (.seq (.seq (.reg c_iso_rounds_r5 [2,6,7,8,24]) (.cond (.t 24) .ret .skip)) (.seq (.reg (c_iso_rounds_r6 F) [2,6,8,9]) (.reg (c_iso_rounds_r7 F) [2,6,7,8])))) (.reg c_iso_rounds_r8 [2,6,7,8])))
@[go_sem] def c_iso_rounds (F : Fn) : LC := (.seq (.reg c_iso_rounds_r0 [2,3,4]) (.seq (.reg (c_iso_rounds_r1 F) [2,6]) (.seq (.reg (c_iso_rounds_r2 F) [2,6,7]) (.seq (.reg c_iso_rounds_r3 [2,6,7,8]) (.block 0 (.loop [2,6,7,8] (c_iso_rounds_b9 F)))))))
def h_iso_rounds : Hints := hn [2] [(0,[2,3,4]),(1,[2,6]),(2,[2,6,7]),(3,[2,6,7,8]),(4,[2,6,7,8,18]),(5,[2,6,7,8]),(6,[2,6,7,8,24]),(7,[2,6,8,9]),(8,[2,6,7,8])] [(4,[2,6,7,8])]
@[go_sem] def c_iso_count_r0 : LL := [qi 6 0,qi 7 0]
@[go_sem] def c_iso_count_r1 : LL := [qi 8 0,qi 9 0]
@[go_sem] def c_iso_count_r2 : LL := [qm 12 0,qz 13 12,qi 14 0]
@[go_sem] def c_iso_count_r3 : LL := [qo .lss 15 14 13]
@[go_sem] def c_iso_count_r4 : LL := [qm 16 14,qd 17 1 12 14,ql 18 1 17,qm 10 16,qm 11 18]
@[go_sem] def c_iso_count_r5 (F : Fn) : LL := [qm 22 11,qm 23 2,qc 24 (F "slices.Equal.I") [.t 22,.t 23],qv 25 24,qm 21 25]
@[go_sem] def c_iso_count_r6 : LL := [qm 27 10,qm 28 1,qo .lss 29 27 28,qm 26 29]
@[go_sem] def c_iso_count_r7 : LL := [qm 30 8,qk .add 31 30 1,qm 8 31]
@[go_sem] def c_iso_count_r8 : LL := [qm 19 9,qk .add 20 19 1,qm 9 20]
@[go_sem] def c_iso_count_r9 : LL := [qk .add 32 14 1,qm 14 32]
def c_iso_count_b10 (F : Fn) : LC := (.seq (.reg c_iso_count_r3 [1,2,8,9,12,13,14,15]) (.seq (.cond (.t 15) .skip (.exit 0)) (.seq (.block 1 (.seq (.reg c_iso_count_r4 [1,2,8,9,10,11,12,13,14]) (.block 2 (.seq (.reg (c_iso_count_r5 F) [1,2,8,9,10,12,13,14,21]) (.cond (.t 21) .skip (.seq (.reg c_iso_count_r6 [1,2,8,9,12,13,14,26]) (.cond (.t 26) (.reg c_iso_count_r7 [1,2,8,9,12,13,14]) (.reg c_iso_count_r8 [1,2,8,9,12,13,14])))))))) (.reg c_iso_count_r9 [1,2,8,9,12,13,14]))))
@[go_sem] def c_iso_count_r11 : LL := [qm 33 8,qm 34 9,qm 6 33,qm 7 34]
@[go_sem] def c_iso_count (F : Fn) : LC := (.seq (.reg c_iso_count_r0 [0,1,2]) (.seq (.reg c_iso_count_r1 [0,1,2,8,9]) (.seq (.seq (.reg c_iso_count_r2 [1,2,8,9,12,13,14]) (.block 0 (.loop [1,2,8,9,12,13,14] (c_iso_count_b10 F)))) (.seq (.reg c_iso_count_r11 [6,7]) .ret))))
def h_iso_count : Hints := hn [] [(0,[0,1,2]),(1,[0,1,2,8,9]),(2,[1,2,8,9,12,13,14]),(3,[1,2,8,9,12,13,14,15]),(4,[1,2,8,9,10,11,12,13,14]),(5,[1,2,8,9,12,13,14]),(6,[1,2,8,9,10,12,13,14,21]),(7,[1,2,8,9,12,13,14,26]),(8,[1,2,8,9,12,13,14]),(9,[1,2,8,9,12,13,14]),(10,[6,7])] [(3,[1,2,8,9,12,13,14])]
@[go_sem] def c_iso_Reason_1_r0 : LL := [qb 7 false]
@[go_sem] def c_iso_Reason_1_r1 (F : Fn) : LL := [qm 13 1,qc 14 (F "slices.Clone.int3") [.t 13],qm 8 14]
@[go_sem] def c_iso_Reason_1_r2 (F : Fn) : LL := [qm 15 8,⟨some 16,.call (F "slices.SortFunc.int3") [.t 15,.k (.clo (F "slices.Compare.I") [])] [.mu,.rd],none⟩]
@[go_sem] def c_iso_Reason_1_r3 : LL := [qm 17 8,qz 18 17,qi 19 0]
@[go_sem] def c_iso_Reason_1_r4 : LL := [qo .lss 20 19 18]
@[go_sem] def c_iso_Reason_1_r5 : LL := [qd 21 1 17 19,ql 22 1 21,qm 10 22]
@[go_sem] def c_iso_Reason_1_r6 (F : Fn) : LL := [qm 24 1,qf 25 0 2,ql 26 1 25,qz 27 26,qm 28 10,qc 29 (F "iso.count") [.t 24,.t 27,.t 28],qm 23 29,qx 30 23 0,qx 31 23 1,qm 11 30,qm 12 31]
@[go_sem] def c_iso_Reason_1_r7 : LL := [qm 32 11,qm 33 12,qo .neq 34 32 33]
@[go_sem] def c_iso_Reason_1_r8 (F : Fn) : LL := [qm 35 0,qm 36 10,qc 37 (F "slices.Clone.I") [.t 36],qm 38 11,qm 39 12,qu 40 [.int .i64 (0),.nl 1,.int .i64 (0),.int .i64 (0)] [(0,1,.t 35),(1,1,.t 37),(2,1,.t 38),(3,1,.t 39)],
 qs 4 3 40,⟨none,.store 1 (.t 4) (.k (.bool true)),none⟩]
@[go_sem] def c_iso_Reason_1_r9 : LL := [qb 7 true]
@[go_sem] def c_iso_Reason_1_r10 : LL := [qk .add 41 19 1,qm 19 41]
def c_iso_Reason_1_b11 (F : Fn) : LC := (.seq (.reg c_iso_Reason_1_r4 [0,1,2,3,4,17,18,19,20]) (.seq (.cond (.t 20) .skip (.exit 0)) (.seq (.block 1 (.seq (.reg c_iso_Reason_1_r5 [0,1,2,3,4,10,17,18,19]) (.seq (.reg (c_iso_Reason_1_r6 F) [0,1,2,3,4,10,11,12,17,18,19]) (.seq (.reg c_iso_Reason_1_r7 [0,1,2,3,4,10,11,12,17,18,19,34]) (.cond (.t 34) (.seq (.reg (c_iso_Reason_1_r8 F) [2,3,4]) (.seq (.reg c_iso_Reason_1_r9 [2,3,4,7]) .ret)) .skip))))) (.reg c_iso_Reason_1_r10 [0,1,2,3,4,17,18,19]))))
@[go_sem] def c_iso_Reason_1_r12 : LL := [qb 7 false]
@[go_sem] def c_iso_Reason_1 (F : Fn) : LC := (.seq (.reg c_iso_Reason_1_r0 [0,1,2,3,4]) (.seq (.reg (c_iso_Reason_1_r1 F) [0,1,2,3,4,8]) (.seq (.reg (c_iso_Reason_1_r2 F) [0,1,2,3,4,8]) (.seq (.seq (.reg c_iso_Reason_1_r3 [0,1,2,3,4,17,18,19]) (.block 0 (.loop [0,1,2,3,4,17,18,19] (c_iso_Reason_1_b11 F)))) (.seq (.reg c_iso_Reason_1_r12 [2,3,4,7]) .ret)))))
def h_iso_Reason_1 : Hints := hOf [2, 3, 4] (c_iso_Reason_1 fun _ => 0)
def sgR (g : G) : Nat → List (List Int)
 | 0 => frstL g
 | r + 1 => nextL g (colL (sgR g r))
def runR {σ : Type} (f : σ → Nat → σ × Bool) : Nat → σ → Nat → σ
 | 0, s, _ => s
 | k + 1, s, r => if (f s r).2 then (f s r).1 else runR f k (f s r).1 (r + 1)
def plainC : D → Bool
 | .int .. | .bool _ | .lst .. => true
 | _ => false
def cntL (l : List (List Int)) (x : List Int) : Nat := (l.filter fun y => decide (y = x)).length
section
variable (P : Program) (F : String → Nat)
def K_iso_rounds : Prop := ∀ (σ : Type) (c1 c2 c3 : σ → List D) (f : σ → Nat → σ × Bool) (g : Nat) (a b : G), validG a = 0 → validG b = 0 → (∀ s, (c1 s).all plainC = true ∧ (c2 s).all plainC = true ∧ (c3 s).all plainC = true) →
 (∀ s (r : Nat), r ≤ 40 → FC P g [.int .i64 r, .lst 1 (iis (sgR (joinG [a, b]) r)), .box (c1 s), .box (c2 s), .box (c3 s)] (.bool (f s r).2) [(2, .box (c1 (f s r).1)), (3, .box (c2 (f s r).1)), (4, .box (c3 (f s r).1))]) →
 ∀ s : σ, FC P (F "iso.rounds") [gD a, gD b, .clb g [.box (c1 s), .box (c2 s), .box (c3 s)]] (.tup []) [(2, .clb g [.box (c1 (runR f 41 s 0)), .box (c2 (runR f 41 s 0)), .box (c3 (runR f 41 s 0))])]
def K_iso_count : Prop := ∀ (l : List (List Int)) (k : Nat) (x : List Int), l.length ≤ 1000000 → (∀ y ∈ l, y.length ≤ 1000000) → FC P (F "iso.count") [.lst 1 (iis l), .int .i64 k, .lst 1 (ints x)] (.tup [.int .i64 (cntL (l.take k) x), .int .i64 (cntL (l.drop k) x)]) []
end
section
variable {α : Type}
theorem pl_adopt : ∀ {c : List D} {n : Nat}, c.all plainC = true → adopts adopt0 n c = (c, [], n)
 | [], n, _ => rfl
 | d :: c, n, h => by
  simp only [List.all_cons, Bool.and_eq_true] at h
  have h0 : adopt0 n d = (d, [], n) := by cases d <;> first | rfl | (simp [plainC] at h)
  simp only [adopts, h0, pl_adopt (n := n) h.2, List.nil_append]
theorem pl_expel : ∀ {c : List D} {hp : List (Nat × Ent)}, c.all plainC = true → expels expel0 hp c = some (c, hp)
 | [], hp, _ => rfl
 | d :: c, hp, h => by
  simp only [List.all_cons, Bool.and_eq_true] at h
  have h0 : expel0 hp d = some (d, hp) := by cases d <;> first | rfl | (simp [plainC] at h)
  simp only [expels, h0, pl_expel (hp := hp) h.2]
theorem pl_expelP : ∀ {c : List D} {hp : List (Nat × Ent)}, c.all plainC = true → expels expelP hp c = some (c, hp)
 | [], hp, _ => rfl
 | d :: c, hp, h => by
  simp only [List.all_cons, Bool.and_eq_true] at h
  have h0 : expelP hp d = some (d, hp) := by cases d <;> first | rfl | (simp [plainC] at h)
  simp only [expels, h0, pl_expelP (hp := hp) h.2]
theorem pl_ren : ∀ {c : List D} {hp : List (Nat × Ent)} {n : NS}, c.all plainC = true → renL (ren0 hp) n c = (c, n)
 | [], hp, n, _ => rfl
 | d :: c, hp, n, h => by
  simp only [List.all_cons, Bool.and_eq_true] at h
  have h0 : ren0 hp n d = (d, n) := by cases d <;> first | rfl | (simp [plainC] at h)
  simp only [renL, h0, pl_ren (hp := hp) (n := n) h.2]
theorem pl_ok {c : List D} (h : c.all plainC = true) : c.all okA0 = true := by
 rw [List.all_eq_true] at *
 intro d hd
 have := h d hd
 cases d <;> first | rfl | (simp [plainC] at this)
theorem InG.join {a b : G} (ha : validG a = 0) (hb : validG b = 0) : InG (joinG [a, b]) ∧ (joinG [a, b]).n.length = a.n.length + b.n.length := by
 have h1 := InG.of_valid ha
 have h2 := InG.of_valid hb
 obtain ⟨v1, v2, _⟩ := valid_spec ha
 obtain ⟨u1, u2, _⟩ := valid_spec hb
 have e : joinG [a, b] = join2 a b := by
  have := joinG_one a
  simp only [joinG, List.foldl_cons, List.foldl_nil] at this ⊢
  rw [this]
 rw [e]
 refine ⟨⟨by simp [join2]; omega, by simp [join2]; omega, fun x hx => ?_⟩, by simp [join2]⟩
 simp only [join2, List.length_append]
 rcases List.mem_append.1 hx with hx | hx
 ·have := h1.2.2 x hx; omega
 ·obtain ⟨y, hy, rfl⟩ := List.mem_map.1 hx
  have := h2.2.2 y hy
  simp only [shJ]
  omega
theorem sgR_length (g : G) : ∀ r, (sgR g r).length = g.n.length
 | 0 => frstL_length g
 | r + 1 => nextL_length g _
theorem sgR_len {g : G} (h : g.e.length ≤ 200) : ∀ r, ∀ x ∈ sgR g r, x.length ≤ 1000000
 | 0 => frstL_len g
 | r + 1 => nextL_len h
end
section
variable {P : Program} {F : String → Nat} {α : Type}
theorem w_iso_rounds (hj : K_iso_join P F) (hf : K_iso_joined_first P F) (hc : K_iso_colour P F) (hn : K_iso_joined_next P F) (σ : Type) (c1 c2 c3 : σ → List D) (f : σ → Nat → σ × Bool) (g : Nat) (a b : G) (va : validG a = 0) (vb : validG b = 0)
  (hp : ∀ s, (c1 s).all plainC = true ∧ (c2 s).all plainC = true ∧ (c3 s).all plainC = true)
  (hg : ∀ s (r : Nat), r ≤ 40 → FC P g [.int .i64 r, .lst 1 (iis (sgR (joinG [a, b]) r)), .box (c1 s), .box (c2 s), .box (c3 s)] (.bool (f s r).2) [(2, .box (c1 (f s r).1)), (3, .box (c2 (f s r).1)), (4, .box (c3 (f s r).1))]) (s : σ) :
  W P (c_iso_rounds F) (Done [] [2] (.tup []) [(2, .clb g [.box (c1 (runR f 41 s 0)), .box (c2 (runR f 41 s 0)), .box (c3 (runR f 41 s 0))])]) (init [gD a, gD b, .clb g [.box (c1 s), .box (c2 s), .box (c3 s)]]) := by
 have r1 := hj [a, b] (by simp) (by simp [va, vb])
 obtain ⟨hi, _⟩ := InG.join va vb
 have r2 := hf _ hi.1
 have hsl := sgR_length (joinG [a, b])
 have hsx := sgR_len (g := joinG [a, b]) hi.2.1
 have hsc := fun r => hc (sgR (joinG [a, b]) r) (by have := hi.1; rw [hsl]; omega) (hsx r)
 have hsn := fun r => hn (joinG [a, b]) (colL (sgR (joinG [a, b]) r)) hi (by rw [colL_length, hsl])
 have hs0 : frstL (joinG [a, b]) = sgR (joinG [a, b]) 0 := rfl
 have hss : ∀ r, nextL (joinG [a, b]) (colL (sgR (joinG [a, b]) r)) = sgR (joinG [a, b]) (r + 1) := fun _ => rfl
 rw [hs0] at r2
 simp only [hss] at hsn
 have hN := hi.1
 clear hs0 hss hi hc hn hf hj
 simp only [gDs, List.map_cons, List.map_nil, gD, gA] at *
 generalize joinG [a, b] = J at *
 have ad : ∀ s n, adopts adopt0 n (c1 s) = (c1 s, [], n) ∧ adopts adopt0 n (c2 s) = (c2 s, [], n) ∧ adopts adopt0 n (c3 s) = (c3 s, [], n) := fun s n => ⟨pl_adopt (hp s).1, pl_adopt (hp s).2.1, pl_adopt (hp s).2.2⟩
 have ex : ∀ s hp', expels expel0 hp' (c1 s) = some (c1 s, hp') ∧ expels expel0 hp' (c2 s) = some (c2 s, hp') ∧ expels expel0 hp' (c3 s) = some (c3 s, hp') := fun s _ => ⟨pl_expel (hp s).1, pl_expel (hp s).2.1, pl_expel (hp s).2.2⟩
 have ep : ∀ s hp', expels expelP hp' (c1 s) = some (c1 s, hp') ∧ expels expelP hp' (c2 s) = some (c2 s, hp') ∧ expels expelP hp' (c3 s) = some (c3 s, hp') := fun s _ => ⟨pl_expelP (hp s).1, pl_expelP (hp s).2.1, pl_expelP (hp s).2.2⟩
 have rn : ∀ s hp' n, renL (ren0 hp') n (c1 s) = (c1 s, n) ∧ renL (ren0 hp') n (c2 s) = (c2 s, n) ∧ renL (ren0 hp') n (c3 s) = (c3 s, n) := fun s _ _ => ⟨pl_ren (hp s).1, pl_ren (hp s).2.1, pl_ren (hp s).2.2⟩
 have ok : ∀ s, (c1 s).all okA0 = true ∧ (c2 s).all okA0 = true ∧ (c3 s).all okA0 = true := fun s => ⟨pl_ok (hp s).1, pl_ok (hp s).2.1, pl_ok (hp s).2.2⟩
 refine W_of ?_
 simp (disch := omega) only [go_sem, ↓reduceIte, ad]
 refine call_by r1 ?_
 simp (disch := omega) only [go_sem, ↓reduceIte, ad]
 refine call_fz r2 ?_
 simp (disch := omega) only [go_sem, ↓reduceIte]
 generalize hU : runR f 41 s 0 = U
 refine W_loop (fun p : Nat × σ => ⟨[(2, .clo g [.pt 0 0, .pt 1 0, .pt 2 0]), (6, .pt 5 0), (7, .sl 6 0 (sgR J p.1).length), (8, .int .i64 p.1)],
   [(0, .box (c1 p.2)), (1, .box (c2 p.2)), (2, .box (c3 p.2)), (3, .imm 1 (ints J.n)), (4, .imm 3 (eds J.e)), (5, .box [.sl 3 0 J.n.length, .sl 4 0 J.e.length]), (6, .arr 1 (iis (sgR J p.1)))], 7⟩) (fun p => p.1 ≤ 41 ∧ U = runR f (41 - p.1) p.2 p.1) (fun p => 41 - p.1) (0, s) ?_ ?_ ?_
 ·simp (disch := omega) only [go_sem, ↓reduceIte, rn]
  rfl
 ·exact ⟨by simp, hU.symm⟩
 ·rintro ⟨r, t⟩ ⟨h1, h2⟩
  simp only at h1 h2
  simp (disch := omega) only [go_sem, ↓reduceIte, c_iso_rounds_b9]
  refine bran_dec (fun d => ?_) (fun d => ?_)
  ·have q := hg t r (by omega)
   have qc := hsc r
   have qn := hsn r
   rw [show 41 - r = (40 - r) + 1 by omega, runR] at h2
   cases hb : (f t r).2 with
   | true =>
    rw [hb, if_pos rfl] at h2
    rw [hb] at q
    simp (disch := omega) only [go_sem, ↓reduceIte, ad, ex, ep, ok]
    refine call_fz q ?_
    rw [← h2] at *
    simp (disch := omega) only [go_sem, ↓reduceIte, ad, ex, ep, ok, rn]
   | false =>
    rw [hb, if_neg (by simp)] at h2
    rw [hb] at q
    generalize (f t r).1 = u at *
    simp (disch := omega) only [go_sem, ↓reduceIte, ad, ex, ep, ok]
    refine call_fz q ?_
    simp (disch := omega) only [go_sem, ↓reduceIte, ad, ex, ep, ok, rn]
    refine call_by qc ?_
    simp (disch := omega) only [go_sem, ↓reduceIte, ad, ex, ep, ok, rn]
    refine call_fz qn ?_
    simp (disch := omega) only [go_sem, ↓reduceIte, ad, ex, ep, ok, rn]
    refine ⟨(r + 1, u), by simp, ⟨by simp only; omega, ?_⟩, by simp only; omega⟩
    rw [h2]
    simp only
    congr 1
    omega
  ·obtain rfl : r = 41 := by omega
   rw [Nat.sub_self, runR] at h2
   rw [h2]
   simp (disch := omega) only [go_sem, ↓reduceIte, ad, ex, ep, ok]
theorem pl_okA0 {c : List D} (h : c.all plainC = true) : okB (.box c) = true := by
 show c.all okA0 = true
 rw [List.all_eq_true] at *
 intro d hd
 have := h d hd
 cases d <;> first | rfl | (simp [plainC] at this)
theorem rounds_ok {a b : G} {g : Nat} {c1 c2 c3 : List D} (h : c1.all plainC = true ∧ c2.all plainC = true ∧ c3.all plainC = true) : [gD a, gD b, .clb g [.box c1, .box c2, .box c3]].all okA1 = true := by
 have : okA1 (.clb g [.box c1, .box c2, .box c3]) = true := by
  show [D.box c1, .box c2, .box c3].all okB = true
  simp only [List.all_cons, List.all_nil, pl_okA0 h.1, pl_okA0 h.2.1, pl_okA0 h.2.2, Bool.and_true]
 simp only [List.all_cons, List.all_nil, this, Bool.and_true]
 rfl
end
@[go_sem] def c_iso_Reason_r0 : LL := [qB 2 0,qB 3 1,qa 4 [.int .i64 (0),.nl 1,.int .i64 (0),.int .i64 (0)],qi 5 0]
@[go_sem] def c_iso_Reason_r1 (F : Fn) : LL := [qL 9 2 2,qL 10 2 3,qc 11 (F "iso.both") [.t 9,.t 10],qm 6 11]
@[go_sem] def c_iso_Reason_r2 : LL := [qm 12 6,qk .neq 13 12 0]
@[go_sem] def c_iso_Reason_r3 : LL := [qu 14 [.int .i64 (0),.nl 1,.int .i64 (0),.int .i64 (0)] [],qm 15 6,qs 4 4 14,qm 5 15]
@[go_sem] def c_iso_Reason_r4 : LL := [qu 16 [.int .i64 (0),.nl 1,.int .i64 (0),.int .i64 (0)] [],qa 7 [.int .i64 (0),.nl 1,.int .i64 (0),.int .i64 (0)],qa 8 [.bool false],qs 4 7 16,
 ⟨none,.store 1 (.t 8) (.k (.bool false)),none⟩]
@[go_sem] def c_iso_Reason_r5 (F : Fn) : LL := [qL 17 2 2,qL 18 2 3,⟨some 19,.mkf (F "iso.Reason.1") [.t 2,.t 7,.t 8],none⟩,⟨some 20,.call (F "iso.rounds") [.t 17,.t 18,.t 19] [.rd,.rd,.mp],none⟩]
@[go_sem] def c_iso_Reason_r6 : LL := [ql 21 1 8,qv 22 21]
@[go_sem] def c_iso_Reason_r7 : LL := [qu 23 [.int .i64 (0),.nl 1,.int .i64 (0),.int .i64 (0)] [],qs 4 4 23,qi 5 10]
@[go_sem] def c_iso_Reason_r8 : LL := [qL 24 4 7,qs 4 4 24,qi 5 0]
@[go_sem] def c_iso_Reason (F : Fn) : LC := (.seq (.reg c_iso_Reason_r0 [2,3,4]) (.seq (.seq (.reg (c_iso_Reason_r1 F) [2,3,4,6]) (.seq (.reg c_iso_Reason_r2 [2,3,4,6,13]) (.cond (.t 13) (.seq (.reg c_iso_Reason_r3 [4,5]) .ret) .skip))) (.seq (.reg c_iso_Reason_r4 [2,3,4,7,8]) (.seq (.reg (c_iso_Reason_r5 F) [4,7,8]) (.seq (.seq (.reg c_iso_Reason_r6 [4,7,22]) (.cond (.t 22) (.seq (.reg c_iso_Reason_r7 [4,5]) .ret) .skip)) (.seq (.reg c_iso_Reason_r8 [4,5]) .ret))))))
def h_iso_Reason : Hints := hOf [] (c_iso_Reason fun _ => 0)
@[go_sem] def c_iso_CheckReason_1_r0 : LL := [qb 7 false]
@[go_sem] def c_iso_CheckReason_1_r1 : LL := [qm 10 0,qf 11 0 2,ql 12 1 11,qo .lss 13 10 12]
@[go_sem] def c_iso_CheckReason_1_r2 : LL := [qb 7 false]
@[go_sem] def c_iso_CheckReason_1_r3 (F : Fn) : LL := [qm 15 1,qf 16 0 3,ql 17 1 16,qz 18 17,qf 19 1 2,ql 20 1 19,qc 21 (F "iso.count") [.t 15,.t 18,.t 20],qm 14 21,qx 22 14 0,qx 23 14 1,qm 8 22,qm 9 23]
@[go_sem] def c_iso_CheckReason_1_r4 : LL := [qm 24 8,qf 25 2 2,ql 26 1 25,qo .eql 27 24 26,qm 28 27,qg 28 true (qm 29 9),qg 28 true (qf 30 3 2),qg 28 true (ql 31 1 30),qg 28 true (qo .eql 32 29 31),qP 33 28 32,qs 1 4 33]
@[go_sem] def c_iso_CheckReason_1_r5 : LL := [qb 7 true]
@[go_sem] def c_iso_CheckReason_1 (F : Fn) : LC := (.seq (.reg c_iso_CheckReason_1_r0 [0,1,2,3,4]) (.seq (.seq (.reg c_iso_CheckReason_1_r1 [1,2,3,4,13]) (.cond (.t 13) (.seq (.reg c_iso_CheckReason_1_r2 [2,3,4,7]) .ret) .skip)) (.seq (.reg (c_iso_CheckReason_1_r3 F) [2,3,4,8,9]) (.seq (.reg c_iso_CheckReason_1_r4 [2,3,4]) (.seq (.reg c_iso_CheckReason_1_r5 [2,3,4,7]) .ret)))))
def h_iso_CheckReason_1 : Hints := hOf [2, 3, 4] (c_iso_CheckReason_1 fun _ => 0)
@[go_sem] def c_iso_CheckReason_r0 : LL := [qB 3 0,qB 4 1,qB 5 2,qb 6 false]
@[go_sem] def c_iso_CheckReason_r1 (F : Fn) : LL := [qL 8 2 3,qL 9 2 4,qc 10 (F "iso.both") [.t 8,.t 9],qk .neq 11 10 0,qm 12 11,qg 12 false (qf 13 0 5),qg 12 false (ql 14 1 13),qg 12 false (qk .lss 15 14 0),qQ 16 12 15,qm 17 16,
 qg 17 false (qf 18 0 5),qg 17 false (ql 19 1 18),qg 17 false (qk .gtr 20 19 40),qQ 21 17 20,qm 22 21,qg 22 false (qf 23 2 5),qg 22 false (ql 24 1 23),qg 22 false (qf 25 3 5),
 qg 22 false (ql 26 1 25),qg 22 false (qo .eql 27 24 26),qQ 28 22 27]
@[go_sem] def c_iso_CheckReason_r2 : LL := [qb 6 false]
@[go_sem] def c_iso_CheckReason_r3 : LL := [qa 7 [.bool false],⟨none,.store 1 (.t 7) (.k (.bool false)),none⟩]
@[go_sem] def c_iso_CheckReason_r4 (F : Fn) : LL := [qL 29 2 3,qL 30 2 4,⟨some 31,.mkf (F "iso.CheckReason.1") [.t 5,.t 3,.t 7],none⟩,⟨some 32,.call (F "iso.rounds") [.t 29,.t 30,.t 31] [.rd,.rd,.mp],none⟩]
@[go_sem] def c_iso_CheckReason_r5 : LL := [ql 33 1 7,qm 6 33]
@[go_sem] def c_iso_CheckReason (F : Fn) : LC := (.seq (.reg c_iso_CheckReason_r0 [3,4,5]) (.seq (.seq (.reg (c_iso_CheckReason_r1 F) [3,4,5,28]) (.cond (.t 28) (.seq (.reg c_iso_CheckReason_r2 [6]) .ret) .skip)) (.seq (.reg c_iso_CheckReason_r3 [3,4,5,7]) (.seq (.reg (c_iso_CheckReason_r4 F) [7]) (.seq (.reg c_iso_CheckReason_r5 [6]) .ret)))))
def h_iso_CheckReason : Hints := hOf [] (c_iso_CheckReason fun _ => 0)
structure Df where
 r : Int
 c : List Int
 x : Int
 y : Int
 deriving DecidableEq, Inhabited
def dfC (d : Df) : List D := [.int .i64 d.r, .lst 1 (ints d.c), .int .i64 d.x, .int .i64 d.y]
def difS (l : List (List Int)) (k : Nat) : Option (List Int) := (sortL l).find? fun x => !decide (cntL (l.take k) x = cntL (l.drop k) x)
def stpR (J : G) (k : Nat) (s : Df × Bool) (r : Nat) : (Df × Bool) × Bool := match difS (sgR J r) k with
 | some x => ((⟨r, x, cntL ((sgR J r).take k) x, cntL ((sgR J r).drop k) x⟩, true), true)
 | none => (s, false)
def rsnR (a b : G) : Df × Bool := runR (stpR (joinG [a, b]) a.n.length) 41 (⟨0, [], 0, 0⟩, false) 0
def zdf : D := .agg [.int .i64 0, .arr 1 [], .int .i64 0, .int .i64 0]
def rsnD (a b : G) : D := if bothE a b = 0 then (if (rsnR a b).2 = true then .tup [.agg (dfC (rsnR a b).1), .int .i64 0] else .tup [zdf, .int .i64 10]) else .tup [zdf, .int .i64 (bothE a b)]
section
variable (P : Program) (F : String → Nat)
def K_iso_Reason_1 : Prop := ∀ (l : List (List Int)) (r : Nat) (a : G) (d : Df) (b : Bool), r ≤ 1000 → l.length ≤ 1000 → a.n.length ≤ 1000 → (∀ y ∈ l, y.length ≤ 1000000) →
 FC P (F "iso.Reason.1") [.int .i64 r, .lst 1 (iis l), .box [.lst 1 (ints a.n), .lst 3 (eds a.e)], .box (dfC d), .box [.bool b]] (.bool (difS l a.n.length).isSome)
  [(2, .box [.lst 1 (ints a.n), .lst 3 (eds a.e)]), (3, .box (dfC (match difS l a.n.length with | some x => ⟨r, x, cntL (l.take a.n.length) x, cntL (l.drop a.n.length) x⟩ | none => d))), (4, .box [.bool (b || (difS l a.n.length).isSome)])]
def K_iso_CheckReason_1 : Prop := ∀ (l : List (List Int)) (r : Nat) (a : G) (d : Df) (b : Bool), r ≤ 1000 → l.length ≤ 1000 → a.n.length ≤ 1000 → (∀ y ∈ l, y.length ≤ 1000000) →
 FC P (F "iso.CheckReason.1") [.int .i64 r, .lst 1 (iis l), .box (dfC d), .box [.lst 1 (ints a.n), .lst 3 (eds a.e)], .box [.bool b]] (.bool (!decide ((r : Int) < d.r)))
  [(2, .box (dfC d)), (3, .box [.lst 1 (ints a.n), .lst 3 (eds a.e)]), (4, .box [.bool (if (r : Int) < d.r then b else decide ((cntL (l.take a.n.length) d.c : Int) = d.x) && decide ((cntL (l.drop a.n.length) d.c : Int) = d.y))])]
def dfD (d : Df) : D := .agg (dfC d)
def chkR (a b : G) (d : Df) : Bool := if bothE a b = 0 ∧ 0 ≤ d.r ∧ d.r ≤ 40 ∧ d.x ≠ d.y then decide ((cntL ((sgR (joinG [a, b]) d.r.toNat).take a.n.length) d.c : Int) = d.x) && decide ((cntL ((sgR (joinG [a, b]) d.r.toNat).drop a.n.length) d.c : Int) = d.y) else false
def K_iso_CheckReason : Prop := ∀ (a b : G) (d : Df), FC P (F "iso.CheckReason") [gD a, gD b, dfD d] (.bool (chkR a b d)) []
def K_iso_Reason : Prop := ∀ a b : G, FC P (F "iso.Reason") [gD a, gD b] (rsnD a b) []
end
section
variable {P : Program} {F : String → Nat} {α : Type}
theorem cntL_le (l : List (List Int)) (x : List Int) : cntL l x ≤ l.length := List.length_filter_le _ _
theorem cntL_snoc (l : List (List Int)) (y x : List Int) : cntL (l ++ [y]) x = cntL l x + (if y = x then 1 else 0) := by
 unfold cntL
 rw [List.filter_append, List.length_append]
 simp only [List.filter_cons, List.filter_nil, decide_eq_true_eq]
 split <;> simp
theorem w_iso_count (he : K_slices_Equal_I P F) (l : List (List Int)) (k : Nat) (x : List Int) (hl : l.length ≤ 1000000) (hy : ∀ y ∈ l, y.length ≤ 1000000) :
  W P (c_iso_count F) (Done [.t 6, .t 7] [] (.tup [.int .i64 (cntL (l.take k) x), .int .i64 (cntL (l.drop k) x)]) []) (init [.lst 1 (iis l), .int .i64 k, .lst 1 (ints x)]) := by
 refine W_of ?_
 simp (disch := omega) only [go_sem, ↓reduceIte]
 refine W_loop (fun i : Nat => ⟨[(1, .int .i64 k), (2, .lst 1 (ints x)), (8, .int .i64 (cntL ((l.take i).take k) x)), (9, .int .i64 (cntL ((l.take i).drop k) x)), (12, .lst 1 (iis l)), (13, .int .i64 l.length), (14, .int .i64 i)], [], 0⟩) (fun i => i ≤ l.length) (fun i => l.length - i) 0 ?_ ?_ ?_
 ·simp (disch := omega) only [go_sem, ↓reduceIte]
  simp [cntL]
 ·omega
 ·intro i hi
  have b1 := cntL_le ((l.take i).take k) x
  have b2 := cntL_le ((l.take i).drop k) x
  have b3 : ((l.take i).take k).length ≤ 1000000 := by simp; omega
  have b4 : ((l.take i).drop k).length ≤ 1000000 := by simp; omega
  simp (disch := omega) only [go_sem, ↓reduceIte, c_iso_count_b10]
  refine bran_dec (fun d => ?_) (fun d => ?_)
  ·have r := he (gt l (i : Int)) x (by have := hy _ (gt_mem (l := l) (j := (i : Int)) (by omega) (by omega)); unfold maxL; omega)
   have ht := take_gt (l := l) (i := i) (by omega)
   have h1 : i < k → cntL ((l.take (i + 1)).take k) x = cntL ((l.take i).take k) x + (if gt l (i : Int) = x then 1 else 0) ∧ cntL ((l.take (i + 1)).drop k) x = cntL ((l.take i).drop k) x := fun h => by
    rw [List.take_take, List.take_take, show min k (i + 1) = i + 1 by omega, show min k i = i by omega, ht, cntL_snoc, List.drop_of_length_le (by simp; omega), List.drop_of_length_le (by simp; omega)]
    exact ⟨rfl, rfl⟩
   have h2 : ¬ i < k → cntL ((l.take (i + 1)).take k) x = cntL ((l.take i).take k) x ∧ cntL ((l.take (i + 1)).drop k) x = cntL ((l.take i).drop k) x + (if gt l (i : Int) = x then 1 else 0) := fun h => by
    rw [List.take_take, List.take_take, show min k (i + 1) = k by omega, show min k i = k by omega, ht, List.drop_append_of_le_length (by simp; omega), cntL_snoc]
    exact ⟨rfl, rfl⟩
   generalize cntL ((l.take i).take k) x = p at *
   generalize cntL ((l.take i).drop k) x = q at *
   simp (disch := omega) only [go_sem, ↓reduceIte]
   refine call_by r ?_
   simp (disch := omega) only [go_sem, ↓reduceIte]
   refine bran_ndec (fun e => ?_) (fun e => ?_)
   ·rw [if_neg e] at h1 h2
    simp (disch := omega) only [go_sem, ↓reduceIte]
    refine ⟨i + 1, ?_, by omega, by omega⟩
    by_cases hk : i < k
    ·simp [h1 hk]
    ·simp [h2 hk]
   ·rw [if_pos e] at h1 h2
    simp (disch := omega) only [go_sem, ↓reduceIte]
    refine bran_dec (fun f => ?_) (fun f => ?_)
    ·have := h1 (by omega)
     simp (disch := omega) only [go_sem, ↓reduceIte]
     exact ⟨i + 1, by simp [this], by omega, by omega⟩
    ·have := h2 (by omega)
     simp (disch := omega) only [go_sem, ↓reduceIte]
     exact ⟨i + 1, by simp [this], by omega, by omega⟩
  ·obtain rfl : i = l.length := by omega
   rw [List.take_length] at *
   simp (disch := omega) only [go_sem, ↓reduceIte]
theorem w_iso_Reason_1 (hcl : K_slices_Clone_int3 P F) (hso : K_slices_SortFunc_int3 P F) (hcm : K_slices_Compare_I P F) (hct : K_iso_count P F) (hci : K_slices_Clone_I P F) (l : List (List Int)) (r : Nat) (a : G) (d : Df) (b : Bool) (h1 : r ≤ 1000) (h2 : l.length ≤ 1000) (h3 : a.n.length ≤ 1000) (hy : ∀ y ∈ l, y.length ≤ 1000000) :
  W P (c_iso_Reason_1 F) (DoneF [.t 7] [2, 3, 4] (.bool (difS l a.n.length).isSome)
  [(2, .box [.lst 1 (ints a.n), .lst 3 (eds a.e)]), (3, .box (dfC (match difS l a.n.length with | some x => ⟨r, x, cntL (l.take a.n.length) x, cntL (l.drop a.n.length) x⟩ | none => d))), (4, .box [.bool (b || (difS l a.n.length).isSome)])]) (init [.int .i64 r, .lst 1 (iis l), .box [.lst 1 (ints a.n), .lst 3 (eds a.e)], .box (dfC d), .box [.bool b]]) := by
 have hsp := sortL_perm l
 have hsl : (sortL l).length = l.length := hsp.length_eq
 have r1 := hcl l (by omega)
 have r2 := hso l (sortL l) (F "slices.Compare.I") scmp (by omega) scmp_cmp hsp (sortL_sorted l) fun x h1 y h2 => hcm x y (hy x h1) (hy y h2)
 have r3 : ∀ x, FC P (F "iso.count") [.lst 1 (iis l), .int .i64 a.n.length, .lst 1 (ints x)] (.tup [.int .i64 (cntL (l.take a.n.length) x), .int .i64 (cntL (l.drop a.n.length) x)]) [] := fun x => hct l a.n.length x (by omega) hy
 have r4 : ∀ x ∈ l, FC P (F "slices.Clone.I") [.lst 1 (ints x)] (.arr 1 (ints x)) [] := fun x hx => hci x (by have := hy x hx; omega)
 have hS : ∀ x ∈ sortL l, x ∈ l := fun x hx => hsp.mem_iff.1 hx
 have hc1 := fun x => cntL_le (l.take a.n.length) x
 have hc2 := fun x => cntL_le (l.drop a.n.length) x
 have hl1 : (l.take a.n.length).length ≤ 1000 := by simp; omega
 have hl2 : (l.drop a.n.length).length ≤ 1000 := by simp; omega
 have hdf : difS l a.n.length = (sortL l).find? fun x => !decide (cntL (l.take a.n.length) x = cntL (l.drop a.n.length) x) := rfl
 generalize difS l a.n.length = o at *
 generalize sortL l = S at *
 obtain ⟨dr, dc, dx, dy⟩ := d
 refine W_ofF ?_
 simp only [dfC]
 simp (disch := omega) only [go_sem, ↓reduceIte]
 refine call_fz r1 ?_
 simp (disch := omega) only [go_sem, ↓reduceIte]
 refine call_fz r2 ?_
 simp (disch := omega) only [go_sem, ↓reduceIte, hsl]
 refine W_loop (fun i : Nat => ⟨[(0, .int .i64 r), (1, .lst 1 (iis l)), (2, .pt 0 0), (3, .pt 1 0), (4, .pt 2 0), (17, .sl 3 0 l.length), (18, .int .i64 l.length), (19, .int .i64 i)],
  [(0, .box [.lst 1 (ints a.n), .lst 3 (eds a.e)]), (1, .box [.int .i64 dr, .lst 1 (ints dc), .int .i64 dx, .int .i64 dy]), (2, .box [.bool b]), (3, .arr 1 (iis S))], 4⟩)
  (fun i => i ≤ l.length ∧ o = (S.drop i).find? fun x => !decide (cntL (l.take a.n.length) x = cntL (l.drop a.n.length) x)) (fun i => l.length - i) 0 ?_ ?_ ?_
 ·simp (disch := omega) only [go_sem, ↓reduceIte, hsl]
  rfl
 ·exact ⟨Nat.zero_le _, hdf⟩
 ·rintro i ⟨hi, ho⟩
  simp (disch := omega) only [go_sem, ↓reduceIte, c_iso_Reason_1_b11, hsl]
  refine bran_dec (fun e => ?_) (fun e => ?_)
  ·have hx := gt_mem (l := S) (j := (i : Int)) (by omega) (by omega)
   rw [drop_gt (l := S) (by omega), List.find?_cons] at ho
   have q := r3 (gt S (i : Int))
   have q4 := r4 _ (hS _ hx)
   have b1 := hc1 (gt S (i : Int))
   have b2 := hc2 (gt S (i : Int))
   generalize hgx : gt S (i : Int) = x at *
   generalize hp : cntL (l.take a.n.length) x = p at *
   generalize hq : cntL (l.drop a.n.length) x = u at *
   simp (disch := omega) only [go_sem, ↓reduceIte, hsl, hgx]
   refine call_by q ?_
   simp (disch := omega) only [go_sem, ↓reduceIte]
   refine bran_ndec (fun f => ?_) (fun f => ?_)
   ·have hd : decide (p = u) = false := decide_eq_false (by omega)
    rw [hd] at ho
    simp only [Bool.not_false] at ho
    subst ho
    simp (disch := omega) only [go_sem, ↓reduceIte, hgx]
    refine call_by q4 ?_
    simp (disch := omega) only [go_sem, ↓reduceIte]
    simp [dfC, hp, hq]
   ·have hd : decide (p = u) = true := decide_eq_true (by omega)
    rw [hd] at ho
    simp only [Bool.not_true] at ho
    simp (disch := omega) only [go_sem, ↓reduceIte, hsl]
    exact ⟨i + 1, by simp, ⟨by omega, ho⟩, by omega⟩
  ·obtain rfl : i = l.length := by omega
   rw [List.drop_of_length_le (l := S) (by omega)] at ho
   simp only [List.find?_nil] at ho
   subst ho
   simp (disch := omega) only [go_sem, ↓reduceIte]
   simp [dfC]
theorem w_iso_Reason (hb : K_iso_both P F) (hr : K_iso_rounds P F) (h1 : K_iso_Reason_1 P F) (a b : G) : W P (c_iso_Reason F) (DoneF [.c 4 true 4, .t 5] [] (rsnD a b) []) (init [gD a, gD b]) := by
 have r1 := hb a b
 by_cases hv : bothE a b = 0
 ·have va : validG a = 0 := by unfold bothE at hv; split at hv <;> first | assumption | (exact absurd hv (by assumption))
  have vb : validG b = 0 := by unfold bothE at hv; rw [if_pos va] at hv; exact hv
  have hrs : rsnD a b = if (rsnR a b).2 = true then .tup [.agg (dfC (rsnR a b).1), .int .i64 0] else .tup [zdf, .int .i64 10] := if_pos hv
  rw [hrs]
  rw [hv] at r1
  obtain ⟨hi, hnl⟩ := InG.join va vb
  have hsl := sgR_length (joinG [a, b])
  have hsx := sgR_len (g := joinG [a, b]) hi.2.1
  have hN := hi.1
  have r2 := hr (Df × Bool) (fun _ => [.lst 1 (ints a.n), .lst 3 (eds a.e)]) (fun s => dfC s.1) (fun s => [.bool s.2]) (stpR (joinG [a, b]) a.n.length) (F "iso.Reason.1") a b va vb (fun s => ⟨rfl, rfl, rfl⟩) (fun s r hr => by
   have q := h1 (sgR (joinG [a, b]) r) r a s.1 s.2 (by omega) (by rw [hsl]; omega) (by omega) (hsx r)
   unfold stpR
   cases ho : difS (sgR (joinG [a, b]) r) a.n.length with
   | none => rw [ho] at q; simpa using q
   | some x => rw [ho] at q; simpa using q) (⟨0, [], 0, 0⟩, false)
  rw [show runR (stpR (joinG [a, b]) a.n.length) 41 (⟨0, [], 0, 0⟩, false) 0 = rsnR a b from rfl] at r2
  generalize rsnR a b = R at *
  obtain ⟨⟨dr, dc, dx, dy⟩, f⟩ := R
  simp only [gD, dfC, zdf] at *
  rw [show ints [] = [] from rfl] at r2
  refine W_ofF ?_
  have d0 : decide ((0 : Int) = 0) = true := rfl
  simp (disch := omega) only [go_sem, ↓reduceIte]
  refine call_by r1 ?_
  simp (disch := omega) only [go_sem, ↓reduceIte, d0]
  refine call_fz r2 ?_
  cases f with
  | true => simp (disch := omega) only [go_sem, ↓reduceIte]
  | false => simp (disch := omega) only [go_sem, ↓reduceIte]
 ·rw [show rsnD a b = .tup [zdf, .int .i64 (bothE a b)] from if_neg hv]
  generalize bothE a b = e at *
  simp only [gD, zdf] at *
  refine W_ofF ?_
  have d0 : decide (e = 0) = false := decide_eq_false hv
  simp (disch := omega) only [go_sem, ↓reduceIte]
  refine call_by r1 ?_
  simp (disch := omega) only [go_sem, ↓reduceIte, d0]
theorem w_iso_CheckReason_1 (hct : K_iso_count P F) (l : List (List Int)) (r : Nat) (a : G) (d : Df) (b : Bool) (h1 : r ≤ 1000) (h2 : l.length ≤ 1000) (h3 : a.n.length ≤ 1000) (hy : ∀ y ∈ l, y.length ≤ 1000000) :
  W P (c_iso_CheckReason_1 F) (Done [.t 7] [2, 3, 4] (.bool (!decide ((r : Int) < d.r)))
  [(2, .box (dfC d)), (3, .box [.lst 1 (ints a.n), .lst 3 (eds a.e)]), (4, .box [.bool (if (r : Int) < d.r then b else decide ((cntL (l.take a.n.length) d.c : Int) = d.x) && decide ((cntL (l.drop a.n.length) d.c : Int) = d.y))])]) (init [.int .i64 r, .lst 1 (iis l), .box (dfC d), .box [.lst 1 (ints a.n), .lst 3 (eds a.e)], .box [.bool b]]) := by
 have q := hct l a.n.length d.c (by omega) hy
 have c1 := cntL_le (l.take a.n.length) d.c
 have c2 := cntL_le (l.drop a.n.length) d.c
 have hl1 : (l.take a.n.length).length ≤ 1000 := by simp; omega
 have hl2 : (l.drop a.n.length).length ≤ 1000 := by simp; omega
 obtain ⟨dr, dc, dx, dy⟩ := d
 simp only [dfC] at *
 generalize cntL (l.take a.n.length) dc = p at *
 generalize cntL (l.drop a.n.length) dc = u at *
 refine W_of ?_
 simp (disch := omega) only [go_sem, ↓reduceIte]
 refine bran_dec (fun c => ?_) (fun c => ?_)
 ·rw [if_pos c, decide_eq_true c]
  simp (disch := omega) only [go_sem, ↓reduceIte]
 ·rw [if_neg c, decide_eq_false c]
  simp (disch := omega) only [go_sem, ↓reduceIte]
  refine call_by q ?_
  by_cases e : (p : Int) = dx
  ·have d1 := decide_eq_true e
   rw [d1]
   simp (disch := omega) only [go_sem, ↓reduceIte, d1]
  ·have d1 := decide_eq_false e
   rw [d1]
   simp (disch := omega) only [go_sem, ↓reduceIte, d1]
theorem run_chk (f : Bool → Nat → Bool × Bool) (q : Nat) (v : Bool) (hf : ∀ s r, f s r = if r < q then (s, false) else (if r = q then v else (f s r).1, true)) : ∀ k s r, r ≤ q → q < r + k → runR f k s r = v
 | 0, s, r, h1, h2 => by omega
 | k + 1, s, r, h1, h2 => by
  rw [runR, hf]
  by_cases h : r < q
  ·rw [if_pos h]
   simp only [Bool.false_eq_true, if_false]
   exact run_chk f q v hf k s (r + 1) (by omega) (by omega)
  ·obtain rfl : r = q := by omega
   rw [if_neg h]
   simp
theorem w_iso_CheckReason (hb : K_iso_both P F) (hr : K_iso_rounds P F) (h1 : K_iso_CheckReason_1 P F) (a b : G) (d : Df) : W P (c_iso_CheckReason F) (Done [.t 6] [] (.bool (chkR a b d)) []) (init [gD a, gD b, dfD d]) := by
 have r1 := hb a b
 by_cases hv : bothE a b = 0
 ·have va : validG a = 0 := by unfold bothE at hv; split at hv <;> first | assumption | (exact absurd hv (by assumption))
  have vb : validG b = 0 := by unfold bothE at hv; rw [if_pos va] at hv; exact hv
  rw [hv] at r1
  obtain ⟨hi, hnl⟩ := InG.join va vb
  have hsl := sgR_length (joinG [a, b])
  have hsx := sgR_len (g := joinG [a, b]) hi.2.1
  have hN := hi.1
  let f : Bool → Nat → Bool × Bool := fun s r => ((if (r : Int) < d.r then s else decide ((cntL ((sgR (joinG [a, b]) r).take a.n.length) d.c : Int) = d.x) && decide ((cntL ((sgR (joinG [a, b]) r).drop a.n.length) d.c : Int) = d.y)), !decide ((r : Int) < d.r))
  have r2 := hr Bool (fun _ => dfC d) (fun _ => [.lst 1 (ints a.n), .lst 3 (eds a.e)]) (fun s => [.bool s]) f (F "iso.CheckReason.1") a b va vb (fun s => ⟨rfl, rfl, rfl⟩) (fun s r hr => h1 (sgR (joinG [a, b]) r) r a d s (by omega) (by rw [hsl]; omega) (by omega) (hsx r)) false
  have hch : 0 ≤ d.r → d.r ≤ 40 → d.x ≠ d.y → runR f 41 false 0 = chkR a b d := fun g1 g2 g3 => by
   rw [show chkR a b d = (decide ((cntL ((sgR (joinG [a, b]) d.r.toNat).take a.n.length) d.c : Int) = d.x) && decide ((cntL ((sgR (joinG [a, b]) d.r.toNat).drop a.n.length) d.c : Int) = d.y)) from if_pos ⟨hv, g1, g2, g3⟩]
   refine run_chk f d.r.toNat _ (fun s r => ?_) 41 false 0 (by omega) (by omega)
   simp only [f]
   by_cases c : r < d.r.toNat
   ·have e1 : decide ((r : Int) < d.r) = true := decide_eq_true (by omega)
    rw [if_pos c, if_pos (by omega), e1]
    rfl
   ·have e1 : decide ((r : Int) < d.r) = false := decide_eq_false (by omega)
    rw [if_neg c, if_neg (by omega), e1]
    by_cases e : r = d.r.toNat
    ·rw [if_pos e, e]; rfl
    ·rw [if_neg e]; rfl
  have hno : ¬ (0 ≤ d.r ∧ d.r ≤ 40 ∧ d.x ≠ d.y) → chkR a b d = false := fun h => by unfold chkR; rw [if_neg (by simp only [hv, true_and]; exact h)]
  generalize runR f 41 false 0 = R at *
  generalize chkR a b d = V at *
  obtain ⟨r, c, x, y⟩ := d
  simp only [gD, dfD, dfC] at *
  clear hr h1 hb hsl hsx
  refine W_of ?_
  have d0 : decide ((0 : Int) = 0) = true := rfl
  by_cases h1 : r < 0
  ·have d1 := decide_eq_true h1
   rw [hno (by omega)]
   simp (disch := omega) only [go_sem, ↓reduceIte]
   refine call_by r1 ?_
   simp (disch := omega) only [go_sem, ↓reduceIte, d0, d1]
  ·have d1 := decide_eq_false h1
   by_cases h2 : 40 < r
   ·have d2 := decide_eq_true h2
    rw [hno (by omega)]
    simp (disch := omega) only [go_sem, ↓reduceIte]
    refine call_by r1 ?_
    simp (disch := omega) only [go_sem, ↓reduceIte, d0, d1, d2]
   ·have d2 := decide_eq_false h2
    by_cases h3 : x = y
    ·have d3 := decide_eq_true h3
     rw [hno (by omega)]
     simp (disch := omega) only [go_sem, ↓reduceIte]
     refine call_by r1 ?_
     simp (disch := omega) only [go_sem, ↓reduceIte, d0, d1, d2, d3]
    ·have d3 := decide_eq_false h3
     rw [hch (by omega) (by omega) h3] at r2
     simp (disch := omega) only [go_sem, ↓reduceIte]
     refine call_by r1 ?_
     simp (disch := omega) only [go_sem, ↓reduceIte, d0, d1, d2, d3]
     refine call_fz r2 ?_
     simp (disch := omega) only [go_sem, ↓reduceIte]
 ·have hcf : chkR a b d = false := by unfold chkR; rw [if_neg (by simp [hv])]
  rw [hcf]
  generalize bothE a b = e at *
  obtain ⟨r, c, x, y⟩ := d
  simp only [gD, dfD, dfC] at *
  refine W_of ?_
  have d0 : decide (e = 0) = false := decide_eq_false hv
  simp (disch := omega) only [go_sem, ↓reduceIte]
  refine call_by r1 ?_
  simp (disch := omega) only [go_sem, ↓reduceIte, d0]
end
@[go_sem] def c_r08_both_r0 : LL := [qB 3 0,qB 4 1,qn 6 1,qn 7 1]
@[go_sem] def c_r08_both_r1 (F : Fn) : LL := [qL 12 2 3,qc 13 (F "r08.types") [.t 12],qL 14 2 4,qc 15 (F "r08.types") [.t 14],qm 8 13,qm 9 15]
@[go_sem] def c_r08_both_r2 : LL := [qi 10 0]
@[go_sem] def c_r08_both_r3 : LL := [qm 16 10,qm 17 2,qo .lss 18 16 17]
@[go_sem] def c_r08_both_r4 (F : Fn) : LL := [⟨some 21,.buildSl 1 24 (.lst 1 []) 0 [],none⟩,qm 22 8,qp 23 1 24 21 22,qm 24 9,qp 25 1 24 23 24,qc 26 (F "r08.distinct") [.t 25],qm 11 26]
@[go_sem] def c_r08_both_r5 (F : Fn) : LL := [qL 27 2 3,qm 28 8,qm 29 11,qc 30 (F "r08.colours") [.t 28,.t 29],qc 31 (F "r08.signs") [.t 27,.t 30],qL 32 2 4,qm 33 9,qm 34 11,qc 35 (F "r08.colours") [.t 33,.t 34],qc 36 (F "r08.signs") [.t 32,.t 35],qm 8 31,qm 9 36]
@[go_sem] def c_r08_both_r6 : LL := [qm 19 10,qk .add 20 19 1,qm 10 20]
def c_r08_both_b7 (F : Fn) : LC := (.seq (.seq (.reg c_r08_both_r3 [2,3,4,8,9,10,18]) (.cond (.t 18) .skip (.exit 0))) (.seq (.block 1 (.seq (.reg (c_r08_both_r4 F) [2,3,4,8,9,10,11]) (.dreg [(0,none,[],true),(3,none,[0],true),(4,none,[],true),(5,(some 0),[3,4],true),(8,none,[5],false)] (c_r08_both_r5 F) [2,3,4,8,9,10]))) (.reg c_r08_both_r6 [2,3,4,8,9,10])))
@[go_sem] def c_r08_both_r8 : LL := [qm 37 8,qm 38 9,qm 6 37,qm 7 38]
@[go_sem] def c_r08_both (F : Fn) : LC := (.seq (.reg c_r08_both_r0 [2,3,4]) (.seq (.dreg [(1,none,[],true),(2,(some 0),[1],false)] (c_r08_both_r1 F) [2,3,4,8,9]) (.seq (.seq (.reg c_r08_both_r2 [2,3,4,8,9,10]) (.block 0 (.loop [2,3,4,8,9,10] (c_r08_both_b7 F)))) (.seq (.reg c_r08_both_r8 [6,7]) .ret))))
def h_r08_both : Hints := hn [] [(0,[2,3,4]),(1,[2,3,4,8,9]),(2,[2,3,4,8,9,10]),(3,[2,3,4,8,9,10,18]),(4,[2,3,4,8,9,10]),(5,[2,3,4,8,9,10,11]),(6,[2,3,4,8,9,10]),(7,[6,7])] [(3,[2,3,4,8,9,10])]
@[go_sem] def c_r08_count_r0 : LL := [qi 4 0]
@[go_sem] def c_r08_count_r1 : LL := [qi 5 0]
@[go_sem] def c_r08_count_r2 : LL := [qi 6 0]
@[go_sem] def c_r08_count_r3 : LL := [qm 7 6,qm 8 0,qz 9 8,qo .lss 10 7 9]
@[go_sem] def c_r08_count_r4 (F : Fn) : LL := [qm 13 0,qm 14 6,qd 15 1 13 14,ql 16 1 15,qm 17 1,qc 18 (F "r05.SameInts") [.t 16,.t 17]]
@[go_sem] def c_r08_count_r5 : LL := [qm 19 5,qk .add 20 19 1,qm 5 20]
@[go_sem] def c_r08_count_r6 : LL := [qm 11 6,qk .add 12 11 1,qm 6 12]
def c_r08_count_b7 (F : Fn) : LC := (.seq (.seq (.reg c_r08_count_r3 [0,1,5,6,10]) (.cond (.t 10) .skip (.exit 0))) (.seq (.block 1 (.seq (.reg (c_r08_count_r4 F) [0,1,5,6,18]) (.cond (.t 18) (.reg c_r08_count_r5 [0,1,5,6]) .skip))) (.reg c_r08_count_r6 [0,1,5,6])))
@[go_sem] def c_r08_count_r8 : LL := [qm 21 5,qm 4 21]
@[go_sem] def c_r08_count (F : Fn) : LC := (.seq (.reg c_r08_count_r0 [0,1]) (.seq (.reg c_r08_count_r1 [0,1,5]) (.seq (.seq (.reg c_r08_count_r2 [0,1,5,6]) (.block 0 (.loop [0,1,5,6] (c_r08_count_b7 F)))) (.seq (.reg c_r08_count_r8 [4]) .ret))))
def h_r08_count : Hints := hn [] [(0,[0,1]),(1,[0,1,5]),(2,[0,1,5,6]),(3,[0,1,5,6,10]),(4,[0,1,5,6]),(5,[0,1,5,6,18]),(6,[0,1,5,6]),(7,[4])] [(3,[0,1,5,6])]
@[go_sem] def c_r08_given_r0 : LL := [qB 2 0,qB 3 1,qi 4 0]
@[go_sem] def c_r08_given_r1 (F : Fn) : LL := [qL 6 2 2,qc 7 (F "r05.Valid") [.t 6],qm 5 7]
@[go_sem] def c_r08_given_r2 : LL := [qm 8 5,qk .neq 9 8 0]
@[go_sem] def c_r08_given_r3 : LL := [qm 10 5,qm 4 10]
@[go_sem] def c_r08_given_r4 (F : Fn) : LL := [qL 11 2 3,qc 12 (F "r05.Valid") [.t 11],qm 4 12]
@[go_sem] def c_r08_given (F : Fn) : LC := (.seq (.reg c_r08_given_r0 [2,3]) (.seq (.seq (.reg (c_r08_given_r1 F) [3,5]) (.seq (.reg c_r08_given_r2 [3,5,9]) (.cond (.t 9) (.seq (.reg c_r08_given_r3 [4]) .ret) .skip))) (.seq (.reg (c_r08_given_r4 F) [4]) .ret)))
def h_r08_given : Hints := hOf [] (c_r08_given fun _ => 0)
@[go_sem] def c_r08_SameDiffer_r0 : LL := [qB 2 0,qB 3 1,qb 4 false]
@[go_sem] def c_r08_SameDiffer_r1 (F : Fn) : LL := [qf 5 0 2,ql 6 1 5,qf 7 0 3,ql 8 1 7,qo .eql 9 6 8,qm 10 9,qg 10 true (qf 11 2 2),qg 10 true (ql 12 1 11),qg 10 true (qf 13 2 3),qg 10 true (ql 14 1 13),
 qg 10 true (qo .eql 15 12 14),qP 16 10 15,qm 17 16,qg 17 true (qf 18 3 2),qg 17 true (ql 19 1 18),qg 17 true (qf 20 3 3),qg 17 true (ql 21 1 20),qg 17 true (qo .eql 22 19 21),
 qP 23 17 22,qm 24 23,qg 24 true (qf 25 1 2),qg 24 true (ql 26 1 25),qg 24 true (qf 27 1 3),qg 24 true (ql 28 1 27),qg 24 true (qc 29 (F "r05.SameInts") [.t 26,.t 28]),qP 30 24 29,qm 4 30]
@[go_sem] def c_r08_SameDiffer (F : Fn) : LC := (.seq (.reg c_r08_SameDiffer_r0 [2,3]) (.seq (.reg (c_r08_SameDiffer_r1 F) [4]) .ret))
def h_r08_SameDiffer : Hints := hOf [] (c_r08_SameDiffer fun _ => 0)
def sdR (a b : G) : Nat → List (List Int) × List (List Int)
 | 0 => (frstL a, frstL b)
 | r + 1 => (nextL a (colA (sdR a b r).1 (dstL ((sdR a b r).1 ++ (sdR a b r).2))), nextL b (colA (sdR a b r).2 (dstL ((sdR a b r).1 ++ (sdR a b r).2))))
def chkF (a b : G) (d : Df) : Bool := if bothE a b = 0 ∧ 0 ≤ d.r ∧ d.r ≤ 40 ∧ d.x ≠ d.y then decide ((cntL (sdR a b d.r.toNat).1 d.c : Int) = d.x) && decide ((cntL (sdR a b d.r.toNat).2 d.c : Int) = d.y) else false
section
variable (P : Program) (F : String → Nat)
def K_r08_both : Prop := ∀ (a b : G) (r : Nat), validG a = 0 → validG b = 0 → r ≤ 1000 → FC P (F "r08.both") [gD a, gD b, .int .i64 r] (.tup [.arr 1 (iis (sdR a b r).1), .arr 1 (iis (sdR a b r).2)]) []
def K_r08_count : Prop := ∀ (l : List (List Int)) (x : List Int), l.length ≤ 1000000 → (∀ y ∈ l, y.length ≤ 1000000) → FC P (F "r08.count") [.lst 1 (iis l), .lst 1 (ints x)] (.int .i64 (cntL l x)) []
def K_r08_given : Prop := ∀ a b : G, FC P (F "r08.given") [gD a, gD b] (.int .i64 (bothE a b)) []
def K_r08_SameDiffer : Prop := ∀ d e : Df, d.c.length ≤ maxL → FC P (F "r08.SameDiffer") [dfD d, dfD e] (.bool (decide (d = e))) []
end
section
variable {α : Type}
theorem sdR_length (a b : G) : ∀ r, (sdR a b r).1.length = a.n.length ∧ (sdR a b r).2.length = b.n.length
 | 0 => ⟨frstL_length a, frstL_length b⟩
 | r + 1 => ⟨nextL_length a _, nextL_length b _⟩
theorem sdR_len {a b : G} (h1 : a.e.length ≤ 200) (h2 : b.e.length ≤ 200) : ∀ r, (∀ x ∈ (sdR a b r).1, x.length ≤ 1000000) ∧ ∀ x ∈ (sdR a b r).2, x.length ≤ 1000000
 | 0 => ⟨frstL_len a, frstL_len b⟩
 | r + 1 => ⟨nextL_len h1, nextL_len h2⟩
theorem colA_length (l S : List (List Int)) : (colA l S).length = l.length := by simp [colA]
end
section
variable {P : Program} {F : String → Nat} {α : Type}
theorem w_r08_count (he : K_r05_SameInts P F) (l : List (List Int)) (x : List Int) (hl : l.length ≤ 1000000) (hy : ∀ y ∈ l, y.length ≤ 1000000) :
  W P (c_r08_count F) (Done [.t 4] [] (.int .i64 (cntL l x)) []) (init [.lst 1 (iis l), .lst 1 (ints x)]) := by
 refine W_of ?_
 simp (disch := omega) only [go_sem, ↓reduceIte]
 refine W_loop (fun i : Nat => ⟨[(0, .lst 1 (iis l)), (1, .lst 1 (ints x)), (5, .int .i64 (cntL (l.take i) x)), (6, .int .i64 i)], [], 0⟩) (fun i => i ≤ l.length) (fun i => l.length - i) 0 ?_ ?_ ?_
 ·simp (disch := omega) only [go_sem, ↓reduceIte]
  simp [cntL]
 ·omega
 ·intro i hi
  have b1 := cntL_le (l.take i) x
  have b3 : (l.take i).length ≤ 1000000 := by simp; omega
  simp (disch := omega) only [go_sem, ↓reduceIte, c_r08_count_b7]
  refine bran_dec (fun d => ?_) (fun d => ?_)
  ·have r := he (gt l (i : Int)) x (by have := hy _ (gt_mem (l := l) (j := (i : Int)) (by omega) (by omega)); unfold maxL; omega)
   have ht := take_gt (l := l) (i := i) (by omega)
   have h1 : cntL (l.take (i + 1)) x = cntL (l.take i) x + (if gt l (i : Int) = x then 1 else 0) := by rw [ht, cntL_snoc]
   generalize cntL (l.take i) x = p at *
   simp (disch := omega) only [go_sem, ↓reduceIte]
   refine call_by r ?_
   simp (disch := omega) only [go_sem, ↓reduceIte]
   refine bran_dec (fun e => ?_) (fun e => ?_)
   ·rw [if_pos e] at h1
    simp (disch := omega) only [go_sem, ↓reduceIte]
    exact ⟨i + 1, by simp [h1], by omega, by omega⟩
   ·rw [if_neg e] at h1
    simp (disch := omega) only [go_sem, ↓reduceIte]
    exact ⟨i + 1, by simp [h1], by omega, by omega⟩
  ·obtain rfl : i = l.length := by omega
   rw [List.take_length] at *
   simp (disch := omega) only [go_sem, ↓reduceIte]
theorem w_r08_given (hv : K_r05_Valid P F) (a b : G) : W P (c_r08_given F) (Done [.t 4] [] (.int .i64 (bothE a b)) []) (init [gD a, gD b]) := by
 have r1 := hv a
 have r2 := hv b
 unfold bothE
 generalize validG a = v at *
 generalize validG b = u at *
 simp only [gD] at *
 refine W_of ?_
 simp (disch := omega) only [go_sem, ↓reduceIte]
 refine call_by r1 ?_
 simp (disch := omega) only [go_sem, ↓reduceIte]
 refine bran_ndec (fun d => ?_) (fun d => ?_)
 ·rw [if_neg d]
  simp (disch := omega) only [go_sem, ↓reduceIte]
 ·rw [if_pos d]
  simp (disch := omega) only [go_sem, ↓reduceIte]
  refine call_by r2 ?_
  simp (disch := omega) only [go_sem, ↓reduceIte]
theorem w_r08_both (ht : K_r08_types P F) (hd : K_r08_distinct P F) (hc : K_r08_colours P F) (hs : K_r08_signs P F) (a b : G) (r : Nat) (va : validG a = 0) (vb : validG b = 0) (hr : r ≤ 1000) :
  W P (c_r08_both F) (Done [.t 6, .t 7] [] (.tup [.arr 1 (iis (sdR a b r).1), .arr 1 (iis (sdR a b r).2)]) []) (init [gD a, gD b, .int .i64 r]) := by
 have ia := InG.of_valid va
 have ib := InG.of_valid vb
 have ra := ht a ia.1
 have rb := ht b ib.1
 have hl := sdR_length a b
 have hx := sdR_len (a := a) (b := b) ia.2.1 ib.2.1
 have l1 := ia.1
 have l2 := ib.1
 have h0 : sdR a b 0 = (frstL a, frstL b) := rfl
 have hss : ∀ i, sdR a b (i + 1) = (nextL a (colA (sdR a b i).1 (dstL ((sdR a b i).1 ++ (sdR a b i).2))), nextL b (colA (sdR a b i).2 (dstL ((sdR a b i).1 ++ (sdR a b i).2)))) := fun _ => rfl
 have q1 : ∀ i, FC P (F "r08.distinct") [.lst 1 (iis ((sdR a b i).1 ++ (sdR a b i).2))] (.arr 1 (iis (dstL ((sdR a b i).1 ++ (sdR a b i).2)))) [] := fun i => hd _ (by rw [List.length_append]; have := hl i; omega) (fun y hy => (List.mem_append.1 hy).elim ((hx i).1 y) ((hx i).2 y))
 have hdl : ∀ i, (dstL ((sdR a b i).1 ++ (sdR a b i).2)).length ≤ 10000 := fun i => by have := dstL_len ((sdR a b i).1 ++ (sdR a b i).2); have := hl i; rw [List.length_append] at *; omega
 have hdx : ∀ i, ∀ y ∈ dstL ((sdR a b i).1 ++ (sdR a b i).2), y.length ≤ 1000000 := fun i y hy => (List.mem_append.1 (dstL_mem.1 hy)).elim ((hx i).1 y) ((hx i).2 y)
 have q2 := fun i => hc (sdR a b i).1 (dstL ((sdR a b i).1 ++ (sdR a b i).2)) (by have := hl i; omega) (hdl i) (hx i).1 (hdx i)
 have q3 := fun i => hc (sdR a b i).2 (dstL ((sdR a b i).1 ++ (sdR a b i).2)) (by have := hl i; omega) (hdl i) (hx i).2 (hdx i)
 have q4 := fun i => hs a (colA (sdR a b i).1 (dstL ((sdR a b i).1 ++ (sdR a b i).2))) ia (by rw [colA_length, (hl i).1])
 have q5 := fun i => hs b (colA (sdR a b i).2 (dstL ((sdR a b i).1 ++ (sdR a b i).2))) ib (by rw [colA_length, (hl i).2])
 have hcl : ∀ i, (colA (sdR a b i).1 (dstL ((sdR a b i).1 ++ (sdR a b i).2))).length = a.n.length ∧ (colA (sdR a b i).2 (dstL ((sdR a b i).1 ++ (sdR a b i).2))).length = b.n.length := fun i => by rw [colA_length, colA_length]; exact hl i
 have q4' : ∀ i, FC P (F "r08.signs") [gD a, .lst 1 (ints (colA (sdR a b i).1 (dstL ((sdR a b i).1 ++ (sdR a b i).2))))] (.arr 1 (iis (sdR a b (i + 1)).1)) [] := q4
 have q5' : ∀ i, FC P (F "r08.signs") [gD b, .lst 1 (ints (colA (sdR a b i).2 (dstL ((sdR a b i).1 ++ (sdR a b i).2))))] (.arr 1 (iis (sdR a b (i + 1)).2)) [] := q5
 rw [show frstL a = (sdR a b 0).1 from rfl] at ra
 rw [show frstL b = (sdR a b 0).2 from rfl] at rb
 clear hss h0 q4 q5 hd hc hs ht
 generalize sdR a b = R at *
 simp only [gD] at *
 refine W_of ?_
 simp (disch := omega) only [go_sem, ↓reduceIte]
 refine call_fz ra ?_
 simp (disch := omega) only [go_sem, ↓reduceIte]
 refine call_fz rb ?_
 simp (disch := omega) only [go_sem, ↓reduceIte]
 refine W_loop (fun i : Nat => ⟨[(2, .int .i64 r), (3, .pt 0 0), (4, .pt 1 0), (8, .sl 2 0 a.n.length), (9, .sl 3 0 b.n.length), (10, .int .i64 i)], [(0, .box [.lst 1 (ints a.n), .lst 3 (eds a.e)]), (1, .box [.lst 1 (ints b.n), .lst 3 (eds b.e)]), (2, .arr 1 (iis (R i).1)), (3, .arr 1 (iis (R i).2))], 4⟩) (fun i => i ≤ r) (fun i => r - i) 0 ?_ ?_ ?_
 ·simp (disch := omega) only [go_sem, ↓reduceIte, hl]
  rfl
 ·omega
 ·intro i hi
  obtain ⟨e1, e2⟩ := hl i
  have a1 := q1 i
  have a2 := q2 i
  have a3 := q3 i
  have a4 := q4' i
  have a5 := q5' i
  have hn := hl (i + 1)
  obtain ⟨c1, c2⟩ := hcl i
  generalize dstL ((R i).1 ++ (R i).2) = S at *
  simp (disch := omega) only [go_sem, ↓reduceIte, c_r08_both_b7, e1, e2]
  refine bran_dec (fun d => ?_) (fun d => ?_)
  ·simp (disch := omega) only [go_sem, ↓reduceIte, e1, e2]
   refine call_fz a1 ?_
   simp (disch := omega) only [go_sem, ↓reduceIte, e1, e2]
   refine call_by a2 ?_
   simp (disch := omega) only [go_sem, ↓reduceIte, e1, e2]
   refine call_fz a4 ?_
   simp (disch := omega) only [go_sem, ↓reduceIte, e1, e2]
   refine call_by a3 ?_
   simp (disch := omega) only [go_sem, ↓reduceIte, e1, e2]
   refine call_fz a5 ?_
   simp (disch := omega) only [go_sem, ↓reduceIte, e1, e2, hn]
   exact ⟨i + 1, by simp, by omega, by omega⟩
  ·obtain rfl : i = r := by omega
   simp (disch := omega) only [go_sem, ↓reduceIte, e1, e2]
theorem w_r08_SameDiffer (hsa : K_r05_SameInts P F) (d e : Df) (hl : d.c.length ≤ maxL) : W P (c_r08_SameDiffer F) (Done [.t 4] [] (.bool (decide (d = e))) []) (init [dfD d, dfD e]) := by
 obtain ⟨r, c, x, y⟩ := d
 obtain ⟨r', c', x', y'⟩ := e
 have q := hsa c c' hl
 have e0 : decide ((⟨r, c, x, y⟩ : Df) = ⟨r', c', x', y'⟩) = (decide (r = r') && (decide (x = x') && (decide (y = y') && decide (c = c')))) := by
  simp only [Df.mk.injEq]
  by_cases h1 : r = r' <;> by_cases h2 : x = x' <;> by_cases h3 : y = y' <;> by_cases h4 : c = c' <;> simp [h1, h2, h3, h4]
 rw [e0]
 simp only [dfD, dfC] at *
 refine W_of ?_
 by_cases h1 : r = r'
 ·have d1 := decide_eq_true h1
  by_cases h2 : x = x'
  ·have d2 := decide_eq_true h2
   by_cases h3 : y = y'
   ·have d3 := decide_eq_true h3
    rw [d1, d2, d3]
    simp (disch := omega) only [go_sem, ↓reduceIte, d1, d2, d3]
    refine call_by q ?_
    simp (disch := omega) only [go_sem, ↓reduceIte]
   ·have d3 := decide_eq_false h3
    rw [d1, d2, d3]
    simp (disch := omega) only [go_sem, ↓reduceIte, d1, d2, d3]
  ·have d2 := decide_eq_false h2
   rw [d1, d2]
   simp (disch := omega) only [go_sem, ↓reduceIte, d1, d2]
 ·have d1 := decide_eq_false h1
  rw [d1]
  simp (disch := omega) only [go_sem, ↓reduceIte, d1]
end
@[go_sem] def c_iso_of_r0 : LL := [qB 3 0,qB 4 1,⟨some 6,.mov (.k (.undef)),none⟩]
@[go_sem] def c_iso_of_r1 (F : Fn) : LL := [qL 7 2 3,qL 8 2 4,qL 9 2 3,qL 10 2 4,⟨some 11,.buildSl 2 48 (.agg [.lst 1 [],.lst 3 []]) 2 [(0,.t 9),(1,.t 10)],none⟩,qc 12 (F "iso.join") [.t 11],qc 13 (F "iso.joined.stable") [.t 12],qm 14 2,
 qu 15 [.nl 1,.nl 3,.nl 1,.nl 3,.nl 1,.int .i64 (0),.nl 2] [(0,2,.t 7),(2,2,.t 8),(4,1,.t 13),(5,1,.t 14)],qB 16 15,qm 6 16]
@[go_sem] def c_iso_of (F : Fn) : LC := (.seq (.reg c_iso_of_r0 [2,3,4]) (.seq (.dreg [(0,none,[],true),(1,none,[],true),(4,none,[0,1],false),(5,none,[0,1],false),(6,none,[0,1],false)] (c_iso_of_r1 F) [6]) .ret))
def h_iso_of : Hints := hOf [] (c_iso_of fun _ => 0)
@[go_sem] def c_iso_between_r0 : LL := [qB 3 0,qn 6 1]
@[go_sem] def c_iso_between_r1 : LL := [qn 7 1]
@[go_sem] def c_iso_between_r2 : LL := [qf 10 1 3,ql 11 1 10,qz 12 11,qi 13 0]
@[go_sem] def c_iso_between_r3 : LL := [qo .lss 14 13 12]
@[go_sem] def c_iso_between_r4 : LL := [qd 15 3 11 13,qL 16 3 15,qa 9 [.int .i64 (0),.int .i64 (0),.int .i64 (0)],qs 3 9 16]
@[go_sem] def c_iso_between_r5 : LL := [qf 17 1 9,ql 18 1 17,qm 19 1,qo .eql 20 18 19,qm 21 20,qg 21 true (qf 22 2 9),qg 21 true (ql 23 1 22),qg 21 true (qm 24 2),qg 21 true (qo .eql 25 23 24),qP 26 21 25]
@[go_sem] def c_iso_between_r6 : LL := [qm 27 7,qf 28 0 9,ql 29 1 28,⟨some 30,.buildSl 1 8 (.int .i64 (0)) 1 [(0,.t 29)],none⟩,qp 31 1 8 27 30,qm 7 31]
@[go_sem] def c_iso_between_r7 : LL := [qk .add 32 13 1,qm 13 32]
def c_iso_between_b8 : LC := (.seq (.reg c_iso_between_r3 [1,2,7,11,12,13,14]) (.seq (.cond (.t 14) .skip (.exit 0)) (.seq (.block 1 (.seq (.reg c_iso_between_r4 [1,2,7,9,11,12,13]) (.seq (.reg c_iso_between_r5 [1,2,7,9,11,12,13,26]) (.cond (.t 26) (.reg c_iso_between_r6 [1,2,7,11,12,13]) .skip)))) (.reg c_iso_between_r7 [1,2,7,11,12,13]))))
@[go_sem] def c_iso_between_r9 (F : Fn) : LL := [qm 33 7,⟨some 34,.call (F "slices.Sort.I") [.t 33] [.mu],none⟩]
@[go_sem] def c_iso_between_r10 : LL := [qm 35 7,qm 6 35]
@[go_sem] def c_iso_between (F : Fn) : LC := (.seq (.reg c_iso_between_r0 [1,2,3]) (.seq (.reg c_iso_between_r1 [1,2,3,7]) (.seq (.seq (.reg c_iso_between_r2 [1,2,7,11,12,13]) (.block 0 (.loop [1,2,7,11,12,13] c_iso_between_b8))) (.seq (.reg (c_iso_between_r9 F) [7]) (.seq (.reg c_iso_between_r10 [6]) .ret)))))
def h_iso_between : Hints := hOf [] (c_iso_between fun _ => 0)
@[go_sem] def c_iso_free_r0 : LL := [qb 4 false]
@[go_sem] def c_iso_free_r1 : LL := [qb 4 true]
@[go_sem] def c_iso_free (F : Fn) : LC := (.seq (.reg c_iso_free_r0 []) (.seq (.reg c_iso_free_r1 [4]) .ret))
def h_iso_free : Hints := hOf [] (c_iso_free fun _ => 0)
@[go_sem] def c_iso_search_fits_r0 : LL := [qb 6 false]
@[go_sem] def c_iso_search_fits_r1 : LL := [qm 10 1,qz 11 10,qm 7 11]
@[go_sem] def c_iso_search_fits_r2 (F : Fn) : LL := [qm 12 1,qm 13 2,qc 14 (F "slices.Contains.I") [.t 12,.t 13],qm 15 14,qg 15 false (qm 16 0),qg 15 false (qf 17 0 16),qg 15 false (qf 18 4 17),qg 15 false (ql 19 1 18),qg 15 false (qm 20 7),
 qg 15 false (qd 21 1 19 20),qg 15 false (ql 22 1 21),qg 15 false (qm 23 0),qg 15 false (qf 24 0 23),qg 15 false (qf 25 4 24),qg 15 false (ql 26 1 25),qg 15 false (qm 27 0),
 qg 15 false (qf 28 0 27),qg 15 false (qf 29 0 28),qg 15 false (qf 30 0 29),qg 15 false (ql 31 1 30),qg 15 false (qz 32 31),qg 15 false (qm 33 2),qg 15 false (qo .add 34 32 33),
 qg 15 false (qd 35 1 26 34),qg 15 false (ql 36 1 35),qg 15 false (qo .neq 37 22 36),qQ 38 15 37,qm 39 38,qg 39 false (qm 40 0),qg 39 false (qf 41 0 40),qg 39 false (qf 42 0 41),
 qg 39 false (qL 43 2 42),qg 39 false (qm 44 7),qg 39 false (qm 45 7),qg 39 false (qc 46 (F "iso.between") [.t 43,.t 44,.t 45]),qg 39 false (qm 47 0),qg 39 false (qf 48 0 47),
 qg 39 false (qf 49 2 48),qg 39 false (qL 50 2 49),qg 39 false (qm 51 2),qg 39 false (qm 52 2),qg 39 false (qc 53 (F "iso.between") [.t 50,.t 51,.t 52]),qg 39 false (qc 54 (F "slices.Equal.I") [.t 46,.t 53]),
 qg 39 false (qv 55 54),qQ 56 39 55]
@[go_sem] def c_iso_search_fits_r3 : LL := [qb 6 false]
@[go_sem] def c_iso_search_fits_r4 : LL := [qm 57 1,qz 58 57,qi 59 0]
@[go_sem] def c_iso_search_fits_r5 : LL := [qo .lss 60 59 58]
@[go_sem] def c_iso_search_fits_r6 : LL := [qm 61 59,qd 62 1 57 59,ql 63 1 62,qm 8 61,qm 9 63]
@[go_sem] def c_iso_search_fits_r7 (F : Fn) : LL := [qm 64 0,qf 65 0 64,qf 66 0 65,qL 67 2 66,qm 68 7,qm 69 8,qc 70 (F "iso.between") [.t 67,.t 68,.t 69],qm 71 0,qf 72 0 71,qf 73 2 72,qL 74 2 73,qm 75 2,qm 76 9,qc 77 (F "iso.between") [.t 74,.t 75,.t 76],
 qc 78 (F "slices.Equal.I") [.t 70,.t 77],qv 79 78,qm 80 79,qg 80 false (qm 81 0),qg 80 false (qf 82 0 81),qg 80 false (qf 83 0 82),qg 80 false (qL 84 2 83),qg 80 false (qm 85 8),
 qg 80 false (qm 86 7),qg 80 false (qc 87 (F "iso.between") [.t 84,.t 85,.t 86]),qg 80 false (qm 88 0),qg 80 false (qf 89 0 88),qg 80 false (qf 90 2 89),qg 80 false (qL 91 2 90),
 qg 80 false (qm 92 9),qg 80 false (qm 93 2),qg 80 false (qc 94 (F "iso.between") [.t 91,.t 92,.t 93]),qg 80 false (qc 95 (F "slices.Equal.I") [.t 87,.t 94]),qg 80 false (qv 96 95),qQ 97 80 96]
@[go_sem] def c_iso_search_fits_r8 : LL := [qb 6 false]
@[go_sem] def c_iso_search_fits_r9 : LL := [qk .add 98 59 1,qm 59 98]
def c_iso_search_fits_b10 (F : Fn) : LC := (.seq (.reg c_iso_search_fits_r5 [0,2,7,57,58,59,60]) (.seq (.cond (.t 60) .skip (.exit 0)) (.seq (.block 1 (.seq (.reg c_iso_search_fits_r6 [0,2,7,8,9,57,58,59]) (.seq (.dreg [(6,none,[],true),(10,(some 896),[6],false),(23,none,[],true),(27,(some 117571583),[23],false)] (c_iso_search_fits_r7 F) [0,2,7,57,58,59,97]) (.cond (.t 97) (.seq (.reg c_iso_search_fits_r8 [6]) .ret) .skip)))) (.reg c_iso_search_fits_r9 [0,2,7,57,58,59]))))
@[go_sem] def c_iso_search_fits_r11 : LL := [qb 6 true]
@[go_sem] def c_iso_search_fits (F : Fn) : LC := (.seq (.reg c_iso_search_fits_r0 [0,1,2]) (.seq (.reg c_iso_search_fits_r1 [0,1,2,7]) (.seq (.seq (.dreg [(34,none,[],true),(38,(some 240786604031),[34],false)] (c_iso_search_fits_r2 F) [0,1,2,7,56]) (.cond (.t 56) (.seq (.reg c_iso_search_fits_r3 [6]) .ret) .skip)) (.seq (.seq (.reg c_iso_search_fits_r4 [0,2,7,57,58,59]) (.block 0 (.loop [0,2,7,57,58,59] (c_iso_search_fits_b10 F)))) (.seq (.reg c_iso_search_fits_r11 [6]) .ret)))))
def h_iso_search_fits : Hints := hOf [] (c_iso_search_fits fun _ => 0)
@[go_sem] def c_iso_Orbits_1_r0 : LL := [qb 6 false]
@[go_sem] def c_iso_Orbits_1_r1 : LL := [qm 7 0,ql 8 1 2,qo .neq 9 7 8,qm 10 9,qg 10 false (qm 11 1),qg 10 false (ql 12 1 3),qg 10 false (qo .eql 13 11 12),qQ 14 10 13,qm 6 14]
@[go_sem] def c_iso_Orbits_1 (F : Fn) : LC := (.seq (.reg c_iso_Orbits_1_r0 [0,1,2,3]) (.seq (.reg c_iso_Orbits_1_r1 [6]) .ret))
def h_iso_Orbits_1 : Hints := hOf [] (c_iso_Orbits_1 fun _ => 0)
def betL (g : G) (f t : Int) : List Int := srt ((g.e.filter fun x => decide (x.f = f) && decide (x.o = t)).map E.t)
def pairO (a b : G) (i k n m : Int) : Bool := decide (betL a i k = betL b n m) && decide (betL a k i = betL b m n)
def fitsP (a b : G) (c ns : List Int) (n : Int) : Bool := !decide (n ∈ ns) && (decide (gt c ns.length = gt c ((a.n.length : Int) + n)) && (decide (betL a ns.length ns.length = betL b n n) && (List.range ns.length).all fun k => pairO a b ns.length k n (gt ns (k : Int))))
def colJ (a b : G) : List Int := stabL (joinG [a, b])
def seBx (a b : G) (c : List Int) (m : Int) (out : List Mo) : D := .box [.lst 1 (ints a.n), .lst 3 (eds a.e), .lst 1 (ints b.n), .lst 3 (eds b.e), .lst 1 (ints c), .int .i64 m, .arr 2 (pts out)]
def seRf (a b : G) (c : List Int) (m : Int) (out : List Mo) : D := .ref [.lst 1 (ints a.n), .lst 3 (eds a.e), .lst 1 (ints b.n), .lst 3 (eds b.e), .lst 1 (ints c), .int .i64 m, .lst 2 (pts out)]
section
variable (P : Program) (F : String → Nat)
def K_iso_of : Prop := ∀ (a b : G) (m : Int), validG a = 0 → validG b = 0 → FC P (F "iso.of") [gD a, gD b, .int .i64 m] (seBx a b (colJ a b) m []) []
def K_iso_between : Prop := ∀ (g : G) (f t : Int), g.e.length ≤ 1000 → FC P (F "iso.between") [gD g, .int .i64 f, .int .i64 t] (.arr 1 (ints (betL g f t))) []
def K_iso_free : Prop := ∀ i n : Int, FC P (F "iso.free") [.int .i64 i, .int .i64 n] (.bool true) []
def K_iso_Orbits_1 : Prop := ∀ i n u v : Int, FC P (F "iso.Orbits.1") [.int .i64 i, .int .i64 n, .ref [.int .i64 u], .ref [.int .i64 v]] (.bool (!decide (i = u) || decide (n = v))) []
def K_iso_search_fits : Prop := ∀ (a b : G) (c : List Int) (m : Int) (out : List Mo) (ns : List Int) (n : Int), a.n.length ≤ 100 → a.e.length ≤ 1000 → b.e.length ≤ 1000 → ns.length < a.n.length → 0 ≤ n → n < b.n.length → c.length = a.n.length + b.n.length → b.n.length ≤ 100 →
 FC P (F "iso.search.fits") [seRf a b c m out, .lst 1 (ints ns), .int .i64 n] (.bool (fitsP a b c ns n)) []
end
section
variable {P : Program} {F : String → Nat} {α : Type}
theorem w_iso_free (i n : Int) : W P (c_iso_free F) (Done [.t 4] [] (.bool true) []) (init [.int .i64 i, .int .i64 n]) := by
 refine W_of ?_
 simp (disch := omega) only [go_sem, ↓reduceIte]
theorem w_iso_Orbits_1 (i n u v : Int) : W P (c_iso_Orbits_1 F) (Done [.t 6] [] (.bool (!decide (i = u) || decide (n = v))) []) (init [.int .i64 i, .int .i64 n, .ref [.int .i64 u], .ref [.int .i64 v]]) := by
 refine W_of ?_
 by_cases h : i = u
 ·have d := decide_eq_true h
  rw [d]
  simp (disch := omega) only [go_sem, ↓reduceIte, d]
  rfl
 ·have d := decide_eq_false h
  rw [d]
  simp (disch := omega) only [go_sem, ↓reduceIte, d]
  rfl
theorem w_iso_between (hs : K_slices_Sort_I P F) (g : G) (f t : Int) (hg : g.e.length ≤ 1000) : W P (c_iso_between F) (Done [.t 6] [] (.arr 1 (ints (betL g f t))) []) (init [gD g, .int .i64 f, .int .i64 t]) := by
 obtain ⟨ns, es⟩ := g
 simp only [gD, betL] at *
 have hT : ∀ k, k ≤ es.length → (((es.take k).filter fun x => decide (x.f = f) && decide (x.o = t)).map E.t).length ≤ 1000 := fun k hk => by
  rw [List.length_map]
  have := List.length_filter_le (fun x : E => decide (x.f = f) && decide (x.o = t)) (es.take k)
  simp at this
  omega
 refine W_of ?_
 simp (disch := omega) only [go_sem, ↓reduceIte]
 refine W_loop (fun k : Nat => ⟨[(1, .int .i64 f), (2, .int .i64 t), (7, .sl 0 0 (((es.take k).filter fun x => decide (x.f = f) && decide (x.o = t)).map E.t).length), (11, .lst 3 (eds es)), (12, .int .i64 es.length), (13, .int .i64 k)], [(0, .arr 1 (ints (((es.take k).filter fun x => decide (x.f = f) && decide (x.o = t)).map E.t)))], 1⟩) (fun k => k ≤ es.length) (fun k => es.length - k) 0 ?_ ?_ ?_
 ·simp (disch := omega) only [go_sem, ↓reduceIte]
  rfl
 ·omega
 ·intro k hk
  have hTk := hT k hk
  simp (disch := omega) only [go_sem, ↓reduceIte, c_iso_between_b8]
  refine bran_dec (fun d => ?_) (fun d => ?_)
  ·have hn : (((es.take (k + 1)).filter fun x => decide (x.f = f) && decide (x.o = t)).map E.t) = (((es.take k).filter fun x => decide (x.f = f) && decide (x.o = t)).map E.t) ++ (if (decide ((gt es (k : Int)).f = f) && decide ((gt es (k : Int)).o = t)) = true then [(gt es (k : Int)).t] else []) := by
    rw [take_gt (by omega), List.filter_append, List.map_append]
    congr 1
    simp only [List.filter_cons, List.filter_nil]
    split <;> rfl
   generalize ((es.take k).filter fun x => decide (x.f = f) && decide (x.o = t)).map E.t = T at *
   obtain ⟨⟨et, ef, eo⟩, hx⟩ : ∃ x, gt es (k : Int) = x := ⟨_, rfl⟩
   rw [hx] at hn
   simp only at hn
   by_cases h1 : ef = f
   ·have d1 := decide_eq_true h1
    rw [d1] at hn
    simp (disch := omega) only [go_sem, ↓reduceIte, hx, d1]
    refine bran_dec (fun h2 => ?_) (fun h2 => ?_)
    ·rw [decide_eq_true h2] at hn
     simp (disch := omega) only [go_sem, ↓reduceIte, hx, d1]
     exact ⟨k + 1, by simp [hn], by omega, by omega⟩
    ·rw [decide_eq_false h2] at hn
     simp (disch := omega) only [go_sem, ↓reduceIte, hx, d1]
     exact ⟨k + 1, by simp [hn], by omega, by omega⟩
   ·have d1 := decide_eq_false h1
    rw [d1] at hn
    simp (disch := omega) only [go_sem, ↓reduceIte, hx, d1]
    exact ⟨k + 1, by simp [hn], by omega, by omega⟩
  ·obtain rfl : k = es.length := by omega
   rw [List.take_length] at *
   have r := hs ((es.filter fun x => decide (x.f = f) && decide (x.o = t)).map E.t) (by unfold maxL; omega)
   have hl : (srt ((es.filter fun x => decide (x.f = f) && decide (x.o = t)).map E.t)).length = ((es.filter fun x => decide (x.f = f) && decide (x.o = t)).map E.t).length := by
    rw [srt_len]
   generalize ((es.filter fun x => decide (x.f = f) && decide (x.o = t)).map E.t) = T at *
   simp (disch := omega) only [go_sem, ↓reduceIte]
   refine call_by r ?_
   simp (disch := omega) only [go_sem, ↓reduceIte, hl]
theorem w_iso_of (hj : K_iso_join P F) (hs : K_iso_joined_stable P F) (a b : G) (m : Int) (va : validG a = 0) (vb : validG b = 0) : W P (c_iso_of F) (DoneF [.t 6] [] (seBx a b (colJ a b) m []) []) (init [gD a, gD b, .int .i64 m]) := by
 have r1 := hj [a, b] (by simp) (by simp [va, vb])
 obtain ⟨hi, _⟩ := InG.join va vb
 have r2 := hs _ hi
 rw [show colJ a b = stabL (joinG [a, b]) from rfl]
 generalize stabL (joinG [a, b]) = c at *
 generalize joinG [a, b] = J at *
 simp only [gDs, List.map_cons, List.map_nil, gD, gA, seBx] at *
 refine W_ofF ?_
 simp (disch := omega) only [go_sem, ↓reduceIte]
 refine call_by r1 ?_
 simp (disch := omega) only [go_sem, ↓reduceIte]
 refine call_fz r2 ?_
 simp (disch := omega) only [go_sem, ↓reduceIte]
 rfl
set_option maxRecDepth 100000 in
theorem w_iso_search_fits (hc : K_slices_Contains_I P F) (hb : K_iso_between P F) (he : K_slices_Equal_I P F) (a b : G) (c : List Int) (m : Int) (out : List Mo) (ns : List Int) (n : Int) (h0 : a.n.length ≤ 100) (h1 : a.e.length ≤ 1000) (h2 : b.e.length ≤ 1000) (h3 : ns.length < a.n.length) (h4 : 0 ≤ n) (h5 : n < b.n.length) (h6 : c.length = a.n.length + b.n.length) (h7 : b.n.length ≤ 100) :
  W P (c_iso_search_fits F) (Done [.t 6] [] (.bool (fitsP a b c ns n)) []) (init [seRf a b c m out, .lst 1 (ints ns), .int .i64 n]) := by
 have r1 := hc ns n (by unfold maxL; omega)
 have ra := fun f t => hb a f t h1
 have rb := fun f t => hb b f t h2
 have hl : ∀ (g : G) (f t : Int), g.e.length ≤ 1000 → (betL g f t).length ≤ 1000 := fun g f t hg => by
  rw [betL, srt_len, List.length_map]
  have := List.length_filter_le (fun x : E => decide (x.f = f) && decide (x.o = t)) g.e
  omega
 have re : ∀ (f t : Int) (l : List Int), FC P (F "slices.Equal.I") [.lst 1 (ints (betL a f t)), .lst 1 (ints l)] (.bool (decide (betL a f t = l))) [] := fun f t l => he _ l (by have := hl a f t h1; unfold maxL; omega)
 have hf : fitsP a b c ns n = (!decide (n ∈ ns) && (decide (gt c ns.length = gt c ((a.n.length : Int) + n)) && (decide (betL a ns.length ns.length = betL b n n) && (List.range ns.length).all fun k => pairO a b ns.length k n (gt ns (k : Int))))) := rfl
 rw [hf]
 have hpo : ∀ k : Nat, pairO a b ns.length k n (gt ns (k : Int)) = (decide (betL a ns.length k = betL b n (gt ns (k : Int))) && decide (betL a k ns.length = betL b (gt ns (k : Int)) n)) := fun _ => rfl
 generalize pairO a b ns.length = po at *
 generalize betL a = ba at *
 generalize betL b = bb at *
 obtain ⟨an, ae⟩ := a
 obtain ⟨bn, be⟩ := b
 simp only [gD, seRf] at *
 have g1 : (0 : Int) ≤ (an.length : Int) + n := by omega
 have g2 : (an.length : Int) + n < c.length := by omega
 refine W_of ?_
 simp (disch := omega) only [go_sem, ↓reduceIte]
 refine call_by r1 ?_
 by_cases e1 : n ∈ ns
 ·have d1 := decide_eq_true e1
  rw [d1]
  simp (disch := omega) only [go_sem, ↓reduceIte]
 ·have d1 := decide_eq_false e1
  rw [d1]
  by_cases e2 : gt c ns.length = gt c ((an.length : Int) + n)
  ·have d2 := decide_eq_true e2
   rw [d2]
   simp (disch := omega) only [go_sem, ↓reduceIte, d2]
   refine call_by (ra _ _) ?_
   simp (disch := omega) only [go_sem, ↓reduceIte, d2]
   refine call_by (rb _ _) ?_
   simp (disch := omega) only [go_sem, ↓reduceIte, d2]
   refine call_by (re _ _ _) ?_
   by_cases e3 : ba ns.length ns.length = bb n n
   ·have d3 := decide_eq_true e3
    rw [d3]
    simp (disch := omega) only [go_sem, ↓reduceIte]
    refine W_loop (fun k : Nat => ⟨[(0, .ref [.lst 1 (ints an), .lst 3 (eds ae), .lst 1 (ints bn), .lst 3 (eds be), .lst 1 (ints c), .int .i64 m, .lst 2 (pts out)]), (2, .int .i64 n), (7, .int .i64 ns.length), (57, .lst 1 (ints ns)), (58, .int .i64 ns.length), (59, .int .i64 k)], [], 0⟩) (fun k => k ≤ ns.length ∧ ((List.range ns.length).all fun k => po k n (gt ns (k : Int))) = ((List.range' k (ns.length - k)).all fun k => po k n (gt ns (k : Int)))) (fun k => ns.length - k) 0 ?_ ?_ ?_
    ·simp (disch := omega) only [go_sem, ↓reduceIte]
     rfl
    ·exact ⟨Nat.zero_le _, by rw [List.range_eq_range', Nat.sub_zero]⟩
    ·rintro k ⟨k1, k2⟩
     simp (disch := omega) only [go_sem, ↓reduceIte, c_iso_search_fits_b10]
     refine bran_dec (fun f => ?_) (fun f => ?_)
     ·have hk : List.range' k (ns.length - k) = k :: List.range' (k + 1) (ns.length - (k + 1)) := by
       rw [show ns.length - k = (ns.length - (k + 1)) + 1 by omega, List.range'_succ]
      rw [hk, List.all_cons, hpo] at k2
      generalize hrest : ((List.range' (k + 1) (ns.length - (k + 1))).all fun k => po k n (gt ns (k : Int))) = rest at *
      generalize ((List.range ns.length).all fun k => po k n (gt ns (k : Int))) = tot at *
      simp (disch := omega) only [go_sem, ↓reduceIte]
      refine call_by (ra _ _) ?_
      simp (disch := omega) only [go_sem, ↓reduceIte]
      refine call_by (rb _ _) ?_
      simp (disch := omega) only [go_sem, ↓reduceIte]
      refine call_by (re _ _ _) ?_
      by_cases e4 : ba ns.length k = bb n (gt ns (k : Int))
      ·have d4 := decide_eq_true e4
       rw [d4] at k2 ⊢
       simp (disch := omega) only [go_sem, ↓reduceIte]
       refine call_by (ra _ _) ?_
       simp (disch := omega) only [go_sem, ↓reduceIte]
       refine call_by (rb _ _) ?_
       simp (disch := omega) only [go_sem, ↓reduceIte]
       refine call_by (re _ _ _) ?_
       by_cases e5 : ba k ns.length = bb (gt ns (k : Int)) n
       ·have d5 := decide_eq_true e5
        rw [d5] at k2 ⊢
        simp (disch := omega) only [go_sem, ↓reduceIte]
        exact ⟨k + 1, by simp, ⟨by omega, by rw [k2, hrest]; rfl⟩, by omega⟩
       ·have d5 := decide_eq_false e5
        rw [d5] at k2 ⊢
        simp (disch := omega) only [go_sem, ↓reduceIte]
        rw [k2]
        rfl
      ·have d4 := decide_eq_false e4
       rw [d4] at k2 ⊢
       simp (disch := omega) only [go_sem, ↓reduceIte]
       rw [k2]
       rfl
     ·obtain rfl : k = ns.length := by omega
      rw [Nat.sub_self] at k2
      simp (disch := omega) only [go_sem, ↓reduceIte]
      rw [k2]
      rfl
   ·have d3 := decide_eq_false e3
    rw [d3]
    simp (disch := omega) only [go_sem, ↓reduceIte]
  ·have d2 := decide_eq_false e2
   rw [d2]
   simp (disch := omega) only [go_sem, ↓reduceIte, d2]
end
end Go.Am
