/- Pushouts: what is injective, exchanged, in another order; plain facts. -/
import Derived.Test.YtoeomfoohdheoaaSoE
import Derived.Test.YtoeomfoohdheoaaSjM
namespace Go.Am
open Go
set_option linter.unusedVariables false
set_option linter.unusedSimpArgs false
section
theorem nodup_ix {l : List Int} (h : ∀ i j : Nat, i < l.length → j < l.length → gt l i = gt l j → i = j) : l.Nodup := by
  unfold List.Nodup
  rw [List.pairwise_iff_getElem]
  intro i j hi hj hij e
  have := h i j hi hj (by rw [gt_nat hi, gt_nat hj, e])
  omega
theorem covers_ix {l : List Int} {n : Nat} : covers l n = true ↔ ∀ k : Nat, k < n → ∃ i : Nat, i < l.length ∧ gt l i = k := by
  unfold covers
  rw [List.all_eq_true]
  simp only [List.mem_range, decide_eq_true_eq]
  exact ⟨fun h k hk => mem_gt (h k hk), fun h k hk => by obtain ⟨i, h1, h2⟩ := h k hk; rw [← h2]; exact gt_mem (by omega) (by omega)⟩
theorem injM_ok {a b : G} {m : Mo} (hm : MOk a b m) : injM a b m = true ↔ m.n.Nodup ∧ m.e.Nodup := by
  unfold injM distinct
  rw [mok.2 hm]
  simp
theorem surM_ok {a b : G} {m : Mo} (hm : MOk a b m) : surM a b m = true ↔ covers m.n b.n.length = true ∧ covers m.e b.e.length = true := by
  unfold surM
  rw [mok.2 hm]
  simp
section
variable {s : Sp}
theorem SOk.chk_grown (hs : SOk s) {x : G} {m : Mo} (hm : MOk (poG s) x m) : chkP s x (thenM (poP s) m) (thenM (poK s) m) = (injM (poG s) x m && surM (poG s) x m) := by
  have e : cocE s x (thenM (poP s) m) (thenM (poK s) m) = 0 := cocE_ok.2 ⟨hs, then_okP hs.p hm, then_okP hs.k hm, by rw [← then_assoc hs.f hs.p, ← then_assoc hs.g hs.k, hs.comm]⟩
  unfold chkP
  rw [e, hs.medU hm]
  rfl
theorem gen_inj {n nb : Nat} {F H : List Int} (hp : PrIn n (prL F H F.length)) (hF : ∀ i : Nat, i < F.length → gt F i < nb) (hH : ∀ i : Nat, i < F.length → (nb : Int) ≤ gt H i) (hn : ∀ i j : Nat, i < F.length → j < F.length → gt F i = gt F j → i = j)
    {x y : Nat} (hx : nb ≤ x ∧ x < n) (hy : nb ≤ y ∧ y < n) (e : gt (genL n (prL F H F.length)) x = gt (genL n (prL F H F.length)) y) : x = y := by
  let φ : Int → Int := fun v => if v < nb then (match (List.range F.length).find? (fun t : Nat => decide (gt F t = v)) with | some t => gt H t | none => -1 - v) else v
  have key : ∀ i : Nat, i < (prL F H F.length).length → φ (gt (prL F H F.length) i).a = φ (gt (prL F H F.length) i).b := fun i hi => by
    rw [prL_len] at hi
    rw [prL_gt hi]
    have h1 : φ (gt H i) = gt H i := if_neg (by have := hH i hi; omega)
    have h2 : φ (gt F i) = gt H i := by
      show (if gt F i < (nb : Int) then _ else _) = _
      rw [if_pos (hF i hi)]
      cases hf : (List.range F.length).find? (fun t : Nat => decide (gt F t = gt F i)) with
      | none =>
        have := List.find?_eq_none.1 hf i (by simpa using hi)
        simp at this
      | some t =>
        have ht := List.find?_some hf
        have hm := List.mem_of_find?_eq_some hf
        simp at ht hm
        rw [hn t i hm hi ht]
    rw [h1, h2]
  have f1 := gen_fun hp key _ (Nat.le_refl _) x hx.2
  have f2 := gen_fun hp key _ (Nat.le_refl _) y hy.2
  have e' : gt (genI n (prL F H F.length) (prL F H F.length).length) x = gt (genI n (prL F H F.length) (prL F H F.length).length) y := e
  rw [e', f2] at f1
  have g1 : φ (x : Int) = x := if_neg (by omega)
  have g2 : φ (y : Int) = y := if_neg (by omega)
  rw [g1, g2] at f1
  omega
theorem SOk.fN (hs : SOk s) {i : Nat} (hi : i < s.a.n.length) : gt (poF s).n i = gt s.f.n i ∧ gt (poH s).n i = (s.b.n.length : Int) + gt s.g.n i := by
  obtain ⟨k, hk, hk2⟩ := gtI (hs.f.nd i hi).1
  obtain ⟨j, hj, hj2⟩ := gtI (hs.g.nd i hi).1
  simp only [poF, poH, thenM, idM, inR]
  rw [thr_gt (by rw [hs.f.ln]; exact hi), thr_gt (by rw [hs.g.ln]; exact hi), hk2, hj2, nums_gt hk, nums_gtF hj]
  exact ⟨rfl, rfl⟩
theorem SOk.fE (hs : SOk s) {i : Nat} (hi : i < s.a.e.length) : gt (poF s).e i = gt s.f.e i ∧ gt (poH s).e i = (s.b.e.length : Int) + gt s.g.e i := by
  obtain ⟨k, hk, hk2⟩ := gtI (hs.f.ed i hi).1
  obtain ⟨j, hj, hj2⟩ := gtI (hs.g.ed i hi).1
  simp only [poF, poH, thenM, idM, inR]
  rw [thr_gt (by rw [hs.f.le]; exact hi), thr_gt (by rw [hs.g.le]; exact hi), hk2, hj2, nums_gt hk, nums_gtF hj]
  exact ⟨rfl, rfl⟩
theorem SOk.kN (hs : SOk s) {i : Nat} (hi : i < s.c.n.length) : gt (poK s).n i = gt (poQ s).n ((s.b.n.length + i : Nat) : Int) := by
  simp only [poK, thenM, inR]
  rw [thr_gt (by rw [nums_len]; exact hi), nums_gtF hi, show (s.b.n.length : Int) + i = ((s.b.n.length + i : Nat) : Int) by omega]
theorem SOk.kE (hs : SOk s) {i : Nat} (hi : i < s.c.e.length) : gt (poK s).e i = gt (poQ s).e ((s.b.e.length + i : Nat) : Int) := by
  simp only [poK, thenM, inR]
  rw [thr_gt (by rw [nums_len]; exact hi), nums_gtF hi, show (s.b.e.length : Int) + i = ((s.b.e.length + i : Nat) : Int) by omega]
theorem SOk.injN (hs : SOk s) (hn : s.f.n.Nodup) : (poK s).n.Nodup := by
  have hc := glu_cong hs.uF hs.uH
  have hl := un_len s.b s.c
  have lF := hs.uF.ln
  have lf := hs.f.ln
  refine nodup_ix fun i j hi hj e => ?_
  rw [hs.k.ln] at hi hj
  rw [hs.kN hi, hs.kN hj] at e
  have e2 := (hc.iffN (i := s.b.n.length + i) (k := s.b.n.length + j) (by omega) (by omega)).1 e
  have := gen_inj (nb := s.b.n.length) (glu_prN hs.uF hs.uH) (fun t ht => by rw [(hs.fN (by omega)).1]; exact (hs.f.nd t (by omega)).1.2) (fun t ht => by rw [(hs.fN (by omega)).2]; have := (hs.g.nd t (by omega)).1.1; omega)
    (fun t u ht hu e => by rw [(hs.fN (by omega)).1, (hs.fN (by omega)).1] at e; exact gt_inj hn (by omega) (by omega) e) (x := s.b.n.length + i) (y := s.b.n.length + j) (by omega) (by omega) e2
  omega
theorem SOk.injE (hs : SOk s) (hn : s.f.e.Nodup) : (poK s).e.Nodup := by
  have hc := glu_cong hs.uF hs.uH
  have hl := un_len s.b s.c
  have lF := hs.uF.le
  have lf := hs.f.le
  refine nodup_ix fun i j hi hj e => ?_
  rw [hs.k.le] at hi hj
  rw [hs.kE hi, hs.kE hj] at e
  have e2 := (hc.iffE (i := s.b.e.length + i) (k := s.b.e.length + j) (by omega) (by omega)).1 e
  have := gen_inj (nb := s.b.e.length) (glu_prE hs.uF hs.uH) (fun t ht => by rw [(hs.fE (by omega)).1]; exact (hs.f.ed t (by omega)).1.2) (fun t ht => by rw [(hs.fE (by omega)).2]; have := (hs.g.ed t (by omega)).1.1; omega)
    (fun t u ht hu e => by rw [(hs.fE (by omega)).1, (hs.fE (by omega)).1] at e; exact gt_inj hn (by omega) (by omega) e) (x := s.b.e.length + i) (y := s.b.e.length + j) (by omega) (by omega) e2
  omega
theorem SOk.inj (hs : SOk s) (h : injM s.a s.b s.f = true) : injM s.c (poG s) (poK s) = true := by
  obtain ⟨h1, h2⟩ := (injM_ok hs.f).1 h
  exact (injM_ok hs.k).2 ⟨hs.injN h1, hs.injE h2⟩
end
/-- A permutation. -/
structure PermI (q : List Int) (n : Nat) : Prop where
  l : q.length = n
  b : ∀ i : Nat, i < n → 0 ≤ gt q i ∧ gt q i < n
  j : ∀ i k : Nat, i < n → k < n → gt q i = gt q k → i = k
theorem PermI.of {l : List Int} {n : Nat} (h : l.Perm (nums 0 n)) : PermI l n := by
  have hl : l.length = n := by rw [h.length_eq, nums_len]
  have hn : l.Nodup := h.symm.nodup_iff.1 (nums_nodup n)
  exact ⟨hl, fun i hi => nums_mem.1 (h.mem_iff.1 (gt_mem (by omega) (by omega))), fun i k hi hk e => gt_inj hn (by omega) (by omega) e⟩
theorem PermI.nodup {l : List Int} {n : Nat} (h : PermI l n) : l.Nodup := nodup_ix fun i j hi hj e => h.j i j (by rw [← h.l]; exact hi) (by rw [← h.l]; exact hj) e
end
end Go.Am
