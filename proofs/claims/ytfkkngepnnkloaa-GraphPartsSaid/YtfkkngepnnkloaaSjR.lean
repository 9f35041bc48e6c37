/- Components of a union; what a union leaves. -/
import Derived.Test.YtfkkngepnnkloaaSjL
import Derived.Test.YtfkkngepnnkloaaSkS
import Derived.Test.YtfkkngepnnkloaaSpA
namespace Go.Am
open Go
set_option linter.unusedVariables false
set_option linter.unusedSimpArgs false
def shL (n : Int) (l : List Int) : List Int := l.map (· + n)
section
variable {α : Type} [Inhabited α]
theorem app_gtL {l m : List α} {i : Int} (h : i.toNat < l.length) : gt (l ++ m) i = gt l i := by
  simp only [gt, List.getD_eq_getElem?_getD, List.getElem?_append_left h]
theorem app_gtR {l m : List α} {i : Int} (h : 0 ≤ i) : gt (l ++ m) (i + (l.length : Int)) = gt m i := by
  simp only [gt, List.getD_eq_getElem?_getD]
  rw [show (i + (l.length : Int)).toNat = i.toNat + l.length by omega, List.getElem?_append_right (by omega), Nat.add_sub_cancel]
end
theorem shL_gt {n : Int} {l : List Int} {i : Int} (h : i.toNat < l.length) : gt (shL n l) i = gt l i + n := by
  simp [gt, shL, List.getD_eq_getElem?_getD, h]
theorem mn2_add (a b n : Int) : mn2 (a + n) (b + n) = mn2 a b + n := by unfold mn2; split <;> split <;> omega
theorem nums_S (f : Int) (n : Nat) : nums f (n + 1) = nums f n ++ [f + n] := by simp [nums, List.range_succ]
theorem nums_app (n m : Nat) : nums 0 (n + m) = nums 0 n ++ shL n (nums 0 m) := by
  induction m with
  | zero => simp [nums, shL]
  | succ m ih =>
    rw [← Nat.add_assoc, nums_S, ih, nums_S]
    simp [shL]
    omega
theorem stepC_L {la lb : List Int} {x : E} (h1 : x.f.toNat < la.length) (h2 : x.o.toNat < la.length) : stepC (la ++ lb) x = stepC la x ++ lb := by
  unfold stepC
  rw [app_gtL h1, app_gtL h2, List.set_append_left _ _ h1, List.set_append_left _ _ (by simpa using h2)]
theorem stepC_R {la lb : List Int} {x : E} (h1 : 0 ≤ x.f ∧ x.f < lb.length) (h2 : 0 ≤ x.o ∧ x.o < lb.length) : stepC (la ++ shL la.length lb) (shE1 la.length x) = la ++ shL la.length (stepC lb x) := by
  unfold stepC shE1
  simp only
  rw [app_gtR h1.1, app_gtR h2.1, shL_gt (by omega), shL_gt (by omega), mn2_add, List.set_append_right _ _ (by omega), List.set_append_right _ _ (by omega)]
  congr 1
  rw [show (x.f + (la.length : Int)).toNat - la.length = x.f.toNat by omega, show (x.o + (la.length : Int)).toNat - la.length = x.o.toNat by omega]
  simp [shL, List.map_set]
theorem foldC_L : ∀ {es : List E} {la lb : List Int}, Ends la.length es → es.foldl stepC (la ++ lb) = es.foldl stepC la ++ lb
  | [], _, _, _ => rfl
  | x :: es, la, lb, h => by
    have hx := h x (by simp)
    rw [List.foldl_cons, List.foldl_cons, stepC_L (by omega) (by omega)]
    exact foldC_L (by rw [stepC_len]; exact h.tail)
theorem foldC_R : ∀ {es : List E} {la lb : List Int}, Ends lb.length es → (es.map (shE1 la.length)).foldl stepC (la ++ shL la.length lb) = la ++ shL la.length (es.foldl stepC lb)
  | [], _, _, _ => rfl
  | x :: es, la, lb, h => by
    have hx := h x (by simp)
    rw [List.map_cons, List.foldl_cons, List.foldl_cons, stepC_R hx.1 hx.2]
    exact foldC_R (by rw [stepC_len]; exact h.tail)
theorem itC_U {ea eb : List E} {la lb : List Int} (ha : Ends la.length ea) (hb : Ends lb.length eb) : ∀ k, itC (ea ++ eb.map (shE1 la.length)) (la ++ shL la.length lb) k = itC ea la k ++ shL la.length (itC eb lb k)
  | 0 => rfl
  | k + 1 => by
    have e := itC_len ea la k
    have e2 := itC_len eb lb k
    have e3 := foldC_len ea (itC ea la k)
    rw [e] at e3
    simp only [itC]
    rw [itC_U ha hb k]
    unfold passC
    rw [List.foldl_append, foldC_L (by rw [e]; exact ha)]
    have := foldC_R (es := eb) (la := ea.foldl stepC (itC ea la k)) (lb := itC eb lb k) (by rw [e2]; exact hb)
    rw [e3] at this
    exact this
theorem itC_stay {es : List E} {l : List Int} (hn : NN0 l) (he : Ends l.length es) : ∀ j, itC es l (l.length + j) = limC es l
  | 0 => itC_end hn he
  | j + 1 => by
    rw [← Nat.add_assoc]
    simp only [itC]
    rw [itC_stay hn he j]
    exact (limC_reach _ hn (Nat.le_refl _)).2
theorem NN0_mem {l : List Int} : (∀ x ∈ l, 0 ≤ x) → NN0 l := fun h i => by
  by_cases c : i < l.length
  · exact h _ (gt_mem (by omega) (by omega))
  · simp only [gt, List.getD_eq_getElem?_getD, Int.toNat_natCast]
    rw [List.getElem?_eq_none (by omega)]
    exact Int.le_refl _
theorem limC_U {ea eb : List E} {na nb : Nat} (ha : Ends na ea) (hb : Ends nb eb) :
    limC (ea ++ eb.map (shE1 na)) (nums 0 (na + nb)) = limC ea (nums 0 na) ++ shL na (limC eb (nums 0 nb)) := by
  have la : (nums 0 na).length = na := by simp [nums]
  have lb : (nums 0 nb).length = nb := by simp [nums]
  have hnn : ∀ n, NN0 (nums 0 n) := fun n => NN0_mem fun x hx => by
    obtain ⟨k, _, rfl⟩ := List.mem_map.1 hx; omega
  have hU : Ends (nums 0 (na + nb)).length (ea ++ eb.map (shE1 na)) := fun x hx => by
    rw [show (nums 0 (na + nb)).length = na + nb by simp [nums]]
    rcases List.mem_append.1 hx with hx | hx
    · have := ha x hx; omega
    · obtain ⟨y, hy, rfl⟩ := List.mem_map.1 hx
      have := hb y hy
      simp only [shE1]
      omega
  have e0 := itC_stay (hnn (na + nb)) hU 0
  rw [Nat.add_zero, show (nums 0 (na + nb)).length = na + nb by simp [nums]] at e0
  have e1 := itC_U (ea := ea) (eb := eb) (la := nums 0 na) (lb := nums 0 nb) (by rw [la]; exact ha) (by rw [lb]; exact hb) (na + nb)
  rw [la, ← nums_app] at e1
  have e2 := itC_stay (es := ea) (hnn na) (by rw [la]; exact ha) nb
  have e3 := itC_stay (es := eb) (hnn nb) (by rw [lb]; exact hb) na
  rw [la] at e2
  rw [lb, Nat.add_comm] at e3
  rw [← e0, e1, e2, e3]
/-- How many roots there are. -/
def cntR (l : List Int) : Nat → Nat
  | 0 => 0
  | i + 1 => if gt l i = (i : Int) then cntR l i + 1 else cntR l i
theorem partsC_cnt (es : List E) (l : List Int) : ∀ i, (partsC es l i).length = cntR l i
  | 0 => rfl
  | i + 1 => by rw [partsC, cntR]; split <;> simp [partsC_cnt es l i]
theorem cntR_L {la lb : List Int} : ∀ {i : Nat}, i ≤ la.length → cntR (la ++ lb) i = cntR la i
  | 0, _ => rfl
  | i + 1, h => by rw [cntR, cntR, cntR_L (by omega), app_gtL (by omega)]
theorem cntR_R {la lb : List Int} : ∀ {j : Nat}, j ≤ lb.length → cntR (la ++ shL la.length lb) (la.length + j) = cntR la la.length + cntR lb j
  | 0, _ => by rw [Nat.add_zero, cntR_L (Nat.le_refl _)]; rfl
  | j + 1, h => by
    rw [← Nat.add_assoc, cntR, cntR, cntR_R (by omega)]
    rw [show (((la.length + j : Nat)) : Int) = (j : Int) + (la.length : Int) by push_cast; omega, app_gtR (by omega), shL_gt (by omega)]
    by_cases c : gt lb j = (j : Int)
    · rw [if_pos c, if_pos (by omega)]; omega
    · rw [if_neg c, if_neg (by omega)]
theorem compsG_ok {g : G} (h : validG g = 0) : compsG g = (partsC g.e (limC g.e (nums 0 g.n.length)) g.n.length, 0) := by unfold compsG; rw [if_neg (by simp [h])]
theorem comps_U {a b : G} (va : validG a = 0) (vb : validG b = 0) (vu : validG ⟨a.n ++ b.n, a.e ++ b.e.map (shE1 a.n.length)⟩ = 0) :
    (compsG ⟨a.n ++ b.n, a.e ++ b.e.map (shE1 a.n.length)⟩).1.length = (compsG a).1.length + (compsG b).1.length := by
  have ea : Ends a.n.length a.e := fun x hx => (fits_spec ((valid_spec va).2.2.2 x hx)).2
  have eb : Ends b.n.length b.e := fun x hx => (fits_spec ((valid_spec vb).2.2.2 x hx)).2
  have la : (limC a.e (nums 0 a.n.length)).length = a.n.length := by
    obtain ⟨k, hk⟩ := (limC_reach (es := a.e) _ (NN0_mem (l := nums 0 a.n.length) fun x hx => by obtain ⟨k, _, rfl⟩ := List.mem_map.1 hx; omega) (Nat.le_refl _)).1
    rw [hk, itC_len]; simp [nums]
  have lb : (limC b.e (nums 0 b.n.length)).length = b.n.length := by
    obtain ⟨k, hk⟩ := (limC_reach (es := b.e) _ (NN0_mem (l := nums 0 b.n.length) fun x hx => by obtain ⟨k, _, rfl⟩ := List.mem_map.1 hx; omega) (Nat.le_refl _)).1
    rw [hk, itC_len]; simp [nums]
  rw [compsG_ok va, compsG_ok vb, compsG_ok vu]
  simp only
  rw [partsC_cnt, partsC_cnt, partsC_cnt, List.length_append, limC_U ea eb]
  have := cntR_R (la := limC a.e (nums 0 a.n.length)) (lb := limC b.e (nums 0 b.n.length)) (j := b.n.length) (by omega)
  rw [la] at this
  exact this
/-- Numbers stay within their component. -/
def Rep (m l : List Int) : Prop := ∀ i : Nat, i < l.length → (0 ≤ gt l i ∧ gt l i < l.length) ∧ gt m (gt l i) = gt m i
theorem stepC_rep {m l : List Int} {x : E} (hf : gt m x.f = gt m x.o) (hx : (0 ≤ x.f ∧ x.f < l.length) ∧ (0 ≤ x.o ∧ x.o < l.length)) (h : Rep m l) : Rep m (stepC l x) := fun i hi => by
  rw [stepC_len] at hi ⊢
  obtain ⟨a, a1, a2⟩ := gtI hx.1
  obtain ⟨b, b1, b2⟩ := gtI hx.2
  have ha := h a a1
  have hb := h b b1
  rw [a2, b2] at hf
  have hmin : (0 ≤ mn2 (gt l x.f) (gt l x.o) ∧ mn2 (gt l x.f) (gt l x.o) < l.length) ∧ gt m (mn2 (gt l x.f) (gt l x.o)) = gt m a := by
    rw [a2, b2]
    unfold mn2
    split
    · exact ⟨hb.1, by rw [hb.2, hf]⟩
    · exact ⟨ha.1, ha.2⟩
  unfold stepC
  generalize mn2 (gt l x.f) (gt l x.o) = v at *
  rw [gt_set, gt_set]
  split
  · rename_i c
    refine ⟨hmin.1, ?_⟩
    rw [hmin.2, hf, show i = b by omega]
  · split
    · rename_i c
      refine ⟨hmin.1, ?_⟩
      rw [hmin.2, show i = a by omega]
    · exact h i hi
theorem foldC_rep {m : List Int} : ∀ {es : List E} {l : List Int}, Flat es m → Ends l.length es → Rep m l → Rep m (es.foldl stepC l)
  | [], _, _, _, h => h
  | x :: es, l, hf, he, h => by
    rw [List.foldl_cons]
    exact foldC_rep (fun y hy => hf y (by simp [hy])) (by rw [stepC_len]; exact he.tail) (stepC_rep (hf x (by simp)) (he x (by simp)) h)
theorem itC_rep {m : List Int} {es : List E} {l : List Int} (hf : Flat es m) (he : Ends l.length es) (h : Rep m l) : ∀ k, Rep m (itC es l k)
  | 0 => h
  | k + 1 => foldC_rep hf (by rw [itC_len]; exact he) (itC_rep hf he h k)
/-- The numbers at the end are roots. -/
theorem lim_root {es : List E} {n : Nat} (he : Ends n es) : (limC es (nums 0 n)).length = n ∧ Flat es (limC es (nums 0 n)) ∧ ∀ i : Nat, i < n → (0 ≤ gt (limC es (nums 0 n)) i ∧ gt (limC es (nums 0 n)) i < n) ∧ gt (limC es (nums 0 n)) (gt (limC es (nums 0 n)) i) = gt (limC es (nums 0 n)) i := by
  have ln : (nums 0 n).length = n := nums_len _ _
  have hn : NN0 (nums 0 n) := NN0_mem fun x hx => (nums_mem.1 hx).1
  have he' : Ends (nums 0 n).length es := by rw [ln]; exact he
  obtain ⟨⟨k, hk⟩, hfix⟩ := limC_reach (es := es) _ hn (Nat.le_refl _)
  have hl : (limC es (nums 0 n)).length = n := by rw [hk, itC_len, ln]
  have hflat : Flat es (limC es (nums 0 n)) := fold_fix_flat (by rw [hk]; exact itC_nn hn k) (by rw [hl]; exact he) hfix
  refine ⟨hl, hflat, fun i hi => ?_⟩
  have h0 : Rep (limC es (nums 0 n)) (nums 0 n) := fun i hi => by
    rw [ln] at hi ⊢
    rw [nums_gt hi]
    exact ⟨by omega, rfl⟩
  have := itC_rep hflat he' h0 k
  rw [← hk] at this
  have := this i (by omega)
  rw [hl] at this
  exact this
theorem idxs_sel (p : Nat → Bool) : ∀ n, idxs p n = sel p n
  | 0 => rfl
  | n + 1 => by rw [idxs, sel_succ, idxs_sel p n]
theorem partsC_mem {es : List E} {l : List Int} {m : Mo} : ∀ {i : Nat}, m ∈ partsC es l i ↔ ∃ r : Nat, r < i ∧ gt l r = (r : Int) ∧ m = partC es l r
  | 0 => by simp [partsC]
  | i + 1 => by
    rw [partsC]
    have ih := partsC_mem (es := es) (l := l) (m := m) (i := i)
    split
    · rename_i h
      rw [List.mem_append, ih, List.mem_singleton]
      constructor
      · rintro (⟨r, h1, h2⟩ | rfl)
        · exact ⟨r, by omega, h2⟩
        · exact ⟨i, by omega, h, rfl⟩
      · rintro ⟨r, h1, h2, h3⟩
        by_cases e : r = i
        · subst e; exact .inr h3
        · exact .inl ⟨r, by omega, h2, h3⟩
    · rename_i h
      rw [ih]
      constructor
      · rintro ⟨r, h1, h2⟩; exact ⟨r, by omega, h2⟩
      · rintro ⟨r, h1, h2, h3⟩
        by_cases e : r = i
        · subst e; exact absurd h2 h
        · exact ⟨r, by omega, h2, h3⟩
/-- What all parts hold, one kind of elements. -/
theorem parts_all {es : List E} {l : List Int} {n m : Nat} {f : Mo → List Int} {g : Nat → Int} (hf : ∀ r, f (partC es l r) = sel (fun k : Nat => decide (g k = (r : Int))) m) (hg : ∀ k : Nat, k < m → (0 ≤ g k ∧ g k < n) ∧ gt l (g k) = g k) :
    srt ((partsC es l n).flatMap f) = nums 0 m := by
  have hnd : ∀ i, ((partsC es l i).flatMap f).Nodup := fun i => by
    induction i with
    | zero => simp [partsC]
    | succ i ih =>
      rw [partsC]
      split
      · rw [List.flatMap_append, List.nodup_append]
        refine ⟨ih, ?_, fun a ha b hb e => ?_⟩
        · rw [List.flatMap_cons, List.flatMap_nil, List.append_nil, hf]
          exact (sel_pair _ _).imp fun h => by omega
        · subst e
          rw [List.flatMap_cons, List.flatMap_nil, List.append_nil, hf] at hb
          obtain ⟨k, _, h2, rfl⟩ := sel_mem.1 hb
          obtain ⟨q, hq, hk⟩ := List.mem_flatMap.1 ha
          obtain ⟨r, r1, r2, rfl⟩ := partsC_mem.1 hq
          rw [hf] at hk
          have := (sel_memN.1 hk).2
          simp only [decide_eq_true_eq] at h2 this
          omega
      · exact ih
  have hs := srt_sorted ((partsC es l n).flatMap f)
  have hp := srt_perm ((partsC es l n).flatMap f)
  have hnd' : (srt ((partsC es l n).flatMap f)).Nodup := hp.nodup_iff.2 (hnd n)
  refine asc_ext ?_ ?_ fun x => ?_
  · have := hs.and (List.nodup_iff_pairwise_ne.1 hnd')
    exact this.imp fun h => by omega
  · have : nums 0 m = sel (fun _ => true) m := by
      clear hs hp hnd hnd' hf hg
      induction m with
      | zero => rfl
      | succ m ih => rw [nums_S, sel_succ, if_pos rfl, ih]; simp
    rw [this]; exact sel_pair _ _
  · rw [hp.mem_iff, nums_mem, List.mem_flatMap]
    constructor
    · rintro ⟨q, hq, hk⟩
      obtain ⟨r, r1, r2, rfl⟩ := partsC_mem.1 hq
      rw [hf] at hk
      obtain ⟨k, k1, _, rfl⟩ := sel_mem.1 hk
      omega
    · intro hx
      obtain ⟨k, rfl⟩ : ∃ k : Nat, x = (k : Int) := ⟨x.toNat, by omega⟩
      obtain ⟨h1, h2⟩ := hg k (by omega)
      obtain ⟨r, hr⟩ : ∃ r : Nat, g k = (r : Int) := ⟨(g k).toNat, by omega⟩
      refine ⟨partC es l r, partsC_mem.2 ⟨r, by omega, by rw [← hr]; exact h2, rfl⟩, ?_⟩
      rw [hf]
      exact sel_memN.2 ⟨by omega, by simpa using hr⟩
theorem comps_all {g : G} (hv : validG g = 0) : srt ((compsG g).1.flatMap Mo.n) = nums 0 g.n.length ∧ srt ((compsG g).1.flatMap Mo.e) = nums 0 g.e.length := by
  have hE : Ends g.n.length g.e := fun x hx => (fits_spec ((valid_spec hv).2.2.2 x hx)).2
  obtain ⟨h1, h2, h3⟩ := lim_root hE
  rw [compsG_ok hv]
  constructor
  · refine parts_all (g := fun k : Nat => gt (limC g.e (nums 0 g.n.length)) k) (fun r => ?_) h3
    simp only [partC]
    rw [idxs_sel, h1]
  · refine parts_all (g := fun k : Nat => gt (limC g.e (nums 0 g.n.length)) (gt g.e k).f) (fun r => ?_) fun k hk => ?_
    · simp only [partC]
      rw [idxs_sel]
    · obtain ⟨a, a1, a2⟩ := gtI (hE _ (gt_mem (l := g.e) (j := (k : Int)) (by omega) (by omega))).1
      rw [a2]
      exact h3 a a1
end Go.Am
