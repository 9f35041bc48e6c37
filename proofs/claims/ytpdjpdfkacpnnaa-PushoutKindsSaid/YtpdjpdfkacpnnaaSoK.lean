/- Pushouts: what is injective, exchanged, in another order; plain facts. -/
import Derived.Test.YtpdjpdfkacpnnaaSoE
import Derived.Test.YtpdjpdfkacpnnaaSjM
namespace Go.Am
open Go
set_option linter.unusedVariables false
set_option linter.unusedSimpArgs false
def reO (g : G) (m : Mo) : G := ⟨setL g.n m.n g.n g.n.length, setL (reE m.n g.e) m.e g.e g.e.length⟩
section
theorem nodup_ix {l : List Int} (h : ∀ i j : Nat, i < l.length → j < l.length → gt l i = gt l j → i = j) : l.Nodup := by
  unfold List.Nodup
  rw [List.pairwise_iff_getElem]
  intro i j hi hj hij e
  have := h i j hi hj (by rw [gt_nat hi, gt_nat hj, e])
  omega
theorem covers_ix {l : List Int} {n : Nat} : covers l n = true ↔ ∀ k : Nat, k < n → ∃ i : Nat, i < l.length ∧ gt l i = k := by
  unfold covers
  rw [List.all_eq_true]
  simp only [List.mem_range, decide_eq_true_eq]
  exact ⟨fun h k hk => mem_gt (h k hk), fun h k hk => by obtain ⟨i, h1, h2⟩ := h k hk; rw [← h2]; exact gt_mem (by omega) (by omega)⟩
theorem injM_ok {a b : G} {m : Mo} (hm : MOk a b m) : injM a b m = true ↔ m.n.Nodup ∧ m.e.Nodup := by
  unfold injM distinct
  rw [mok.2 hm]
  simp
theorem surM_ok {a b : G} {m : Mo} (hm : MOk a b m) : surM a b m = true ↔ covers m.n b.n.length = true ∧ covers m.e b.e.length = true := by
  unfold surM
  rw [mok.2 hm]
  simp
section
variable {s : Sp}
theorem SOk.chk_grown (hs : SOk s) {x : G} {m : Mo} (hm : MOk (poG s) x m) : chkP s x (thenM (poP s) m) (thenM (poK s) m) = (injM (poG s) x m && surM (poG s) x m) := by
  have e : cocE s x (thenM (poP s) m) (thenM (poK s) m) = 0 := cocE_ok.2 ⟨hs, then_okP hs.p hm, then_okP hs.k hm, by rw [← then_assoc hs.f hs.p, ← then_assoc hs.g hs.k, hs.comm]⟩
  unfold chkP
  rw [e, hs.medU hm]
  rfl
theorem gen_inj {n nb : Nat} {F H : List Int} (hp : PrIn n (prL F H F.length)) (hF : ∀ i : Nat, i < F.length → gt F i < nb) (hH : ∀ i : Nat, i < F.length → (nb : Int) ≤ gt H i) (hn : ∀ i j : Nat, i < F.length → j < F.length → gt F i = gt F j → i = j)
    {x y : Nat} (hx : nb ≤ x ∧ x < n) (hy : nb ≤ y ∧ y < n) (e : gt (genL n (prL F H F.length)) x = gt (genL n (prL F H F.length)) y) : x = y := by
  let φ : Int → Int := fun v => if v < nb then (match (List.range F.length).find? (fun t : Nat => decide (gt F t = v)) with | some t => gt H t | none => -1 - v) else v
  have key : ∀ i : Nat, i < (prL F H F.length).length → φ (gt (prL F H F.length) i).a = φ (gt (prL F H F.length) i).b := fun i hi => by
    rw [prL_len] at hi
    rw [prL_gt hi]
    have h1 : φ (gt H i) = gt H i := if_neg (by have := hH i hi; omega)
    have h2 : φ (gt F i) = gt H i := by
      show (if gt F i < (nb : Int) then _ else _) = _
      rw [if_pos (hF i hi)]
      cases hf : (List.range F.length).find? (fun t : Nat => decide (gt F t = gt F i)) with
      | none =>
        have := List.find?_eq_none.1 hf i (by simpa using hi)
        simp at this
      | some t =>
        have ht := List.find?_some hf
        have hm := List.mem_of_find?_eq_some hf
        simp at ht hm
        rw [hn t i hm hi ht]
    rw [h1, h2]
  have f1 := gen_fun hp key _ (Nat.le_refl _) x hx.2
  have f2 := gen_fun hp key _ (Nat.le_refl _) y hy.2
  have e' : gt (genI n (prL F H F.length) (prL F H F.length).length) x = gt (genI n (prL F H F.length) (prL F H F.length).length) y := e
  rw [e', f2] at f1
  have g1 : φ (x : Int) = x := if_neg (by omega)
  have g2 : φ (y : Int) = y := if_neg (by omega)
  rw [g1, g2] at f1
  omega
theorem SOk.fN (hs : SOk s) {i : Nat} (hi : i < s.a.n.length) : gt (poF s).n i = gt s.f.n i ∧ gt (poH s).n i = (s.b.n.length : Int) + gt s.g.n i := by
  obtain ⟨k, hk, hk2⟩ := gtI (hs.f.nd i hi).1
  obtain ⟨j, hj, hj2⟩ := gtI (hs.g.nd i hi).1
  simp only [poF, poH, thenM, idM, inR]
  rw [thr_gt (by rw [hs.f.ln]; exact hi), thr_gt (by rw [hs.g.ln]; exact hi), hk2, hj2, nums_gt hk, nums_gtF hj]
  exact ⟨rfl, rfl⟩
theorem SOk.fE (hs : SOk s) {i : Nat} (hi : i < s.a.e.length) : gt (poF s).e i = gt s.f.e i ∧ gt (poH s).e i = (s.b.e.length : Int) + gt s.g.e i := by
  obtain ⟨k, hk, hk2⟩ := gtI (hs.f.ed i hi).1
  obtain ⟨j, hj, hj2⟩ := gtI (hs.g.ed i hi).1
  simp only [poF, poH, thenM, idM, inR]
  rw [thr_gt (by rw [hs.f.le]; exact hi), thr_gt (by rw [hs.g.le]; exact hi), hk2, hj2, nums_gt hk, nums_gtF hj]
  exact ⟨rfl, rfl⟩
theorem SOk.kN (hs : SOk s) {i : Nat} (hi : i < s.c.n.length) : gt (poK s).n i = gt (poQ s).n ((s.b.n.length + i : Nat) : Int) := by
  simp only [poK, thenM, inR]
  rw [thr_gt (by rw [nums_len]; exact hi), nums_gtF hi, show (s.b.n.length : Int) + i = ((s.b.n.length + i : Nat) : Int) by omega]
theorem SOk.kE (hs : SOk s) {i : Nat} (hi : i < s.c.e.length) : gt (poK s).e i = gt (poQ s).e ((s.b.e.length + i : Nat) : Int) := by
  simp only [poK, thenM, inR]
  rw [thr_gt (by rw [nums_len]; exact hi), nums_gtF hi, show (s.b.e.length : Int) + i = ((s.b.e.length + i : Nat) : Int) by omega]
theorem SOk.injN (hs : SOk s) (hn : s.f.n.Nodup) : (poK s).n.Nodup := by
  have hc := glu_cong hs.uF hs.uH
  have hl := un_len s.b s.c
  have lF := hs.uF.ln
  have lf := hs.f.ln
  refine nodup_ix fun i j hi hj e => ?_
  rw [hs.k.ln] at hi hj
  rw [hs.kN hi, hs.kN hj] at e
  have e2 := (hc.iffN (i := s.b.n.length + i) (k := s.b.n.length + j) (by omega) (by omega)).1 e
  have := gen_inj (nb := s.b.n.length) (glu_prN hs.uF hs.uH) (fun t ht => by rw [(hs.fN (by omega)).1]; exact (hs.f.nd t (by omega)).1.2) (fun t ht => by rw [(hs.fN (by omega)).2]; have := (hs.g.nd t (by omega)).1.1; omega)
    (fun t u ht hu e => by rw [(hs.fN (by omega)).1, (hs.fN (by omega)).1] at e; exact gt_inj hn (by omega) (by omega) e) (x := s.b.n.length + i) (y := s.b.n.length + j) (by omega) (by omega) e2
  omega
theorem SOk.injE (hs : SOk s) (hn : s.f.e.Nodup) : (poK s).e.Nodup := by
  have hc := glu_cong hs.uF hs.uH
  have hl := un_len s.b s.c
  have lF := hs.uF.le
  have lf := hs.f.le
  refine nodup_ix fun i j hi hj e => ?_
  rw [hs.k.le] at hi hj
  rw [hs.kE hi, hs.kE hj] at e
  have e2 := (hc.iffE (i := s.b.e.length + i) (k := s.b.e.length + j) (by omega) (by omega)).1 e
  have := gen_inj (nb := s.b.e.length) (glu_prE hs.uF hs.uH) (fun t ht => by rw [(hs.fE (by omega)).1]; exact (hs.f.ed t (by omega)).1.2) (fun t ht => by rw [(hs.fE (by omega)).2]; have := (hs.g.ed t (by omega)).1.1; omega)
    (fun t u ht hu e => by rw [(hs.fE (by omega)).1, (hs.fE (by omega)).1] at e; exact gt_inj hn (by omega) (by omega) e) (x := s.b.e.length + i) (y := s.b.e.length + j) (by omega) (by omega) e2
  omega
theorem SOk.inj (hs : SOk s) (h : injM s.a s.b s.f = true) : injM s.c (poG s) (poK s) = true := by
  obtain ⟨h1, h2⟩ := (injM_ok hs.f).1 h
  exact (injM_ok hs.k).2 ⟨hs.injN h1, hs.injE h2⟩
theorem SOk.sur (hs : SOk s) (h : surM s.a s.b s.f = true) : surM s.c (poG s) (poK s) = true := by
  obtain ⟨h1, h2⟩ := (surM_ok hs.f).1 h
  have f1 := hs.f.ln
  have f2 := hs.f.le
  have g1 := hs.g.ln
  have g2 := hs.g.le
  refine (surM_ok hs.k).2 ⟨covers_ix.2 fun j hj => ?_, covers_ix.2 fun j hj => ?_⟩
  · rcases hs.surN hj with ⟨i, hi, hi2⟩ | ⟨i, hi, hi2⟩
    · obtain ⟨t, ht, ht2⟩ := covers_ix.1 h1 i hi
      have e := thenM_n hs.comm (i := t) (by omega) (by omega)
      rw [ht2, hi2] at e
      obtain ⟨k, hk, hk2⟩ := gtI (hs.g.nd t (by omega)).1
      exact ⟨k, by rw [hs.k.ln]; exact hk, by rw [e, hk2]⟩
    · exact ⟨i, by rw [hs.k.ln]; exact hi, hi2⟩
  · rcases hs.surE hj with ⟨i, hi, hi2⟩ | ⟨i, hi, hi2⟩
    · obtain ⟨t, ht, ht2⟩ := covers_ix.1 h2 i hi
      have e := thenM_e hs.comm (i := t) (by omega) (by omega)
      rw [ht2, hi2] at e
      obtain ⟨k, hk, hk2⟩ := gtI (hs.g.ed t (by omega)).1
      exact ⟨k, by rw [hs.k.le]; exact hk, by rw [e, hk2]⟩
    · exact ⟨i, by rw [hs.k.le]; exact hi, hi2⟩
theorem then_idR {b d : G} {m : Mo} (hm : MOk b d m) : thenM m (idM d) = m := by
  have l1 := hm.ln
  have l2 := hm.le
  refine mo_ext (list_ext_gt (by simp only [thenM, thr_len]) fun i hi => ?_) (list_ext_gt (by simp only [thenM, thr_len]) fun i hi => ?_)
  · simp only [thenM, thr_len] at hi ⊢
    obtain ⟨k, hk, hk2⟩ := gtI (hm.nd i (by omega)).1
    rw [thr_gt hi, hk2]; exact nums_gt hk
  · simp only [thenM, thr_len] at hi ⊢
    obtain ⟨k, hk, hk2⟩ := gtI (hm.ed i (by omega)).1
    rw [thr_gt hi, hk2]; exact nums_gt hk
/-- A morphism that another one leads back is injective. -/
theorem inj_back {a b : G} {u v : Mo} (hu : MOk a b u) (e : thenM u v = idM a) : injM a b u = true := by
  have l1 := hu.ln
  have l2 := hu.le
  refine (injM_ok hu).2 ⟨nodup_ix fun i j hi hj h => ?_, nodup_ix fun i j hi hj h => ?_⟩
  · have q : ∀ i : Nat, i < a.n.length → gt v.n (gt u.n i) = i := fun i hi => by
      have := congrArg (fun z : Mo => gt z.n i) e
      simp only [thenM, idM] at this
      rwa [thr_gt (by omega), nums_gt hi] at this
    have q1 := q i (by omega)
    have q2 := q j (by omega)
    rw [h, q2] at q1
    omega
  · have q : ∀ i : Nat, i < a.e.length → gt v.e (gt u.e i) = i := fun i hi => by
      have := congrArg (fun z : Mo => gt z.e i) e
      simp only [thenM, idM] at this
      rwa [thr_gt (by omega), nums_gt hi] at this
    have q1 := q i (by omega)
    have q2 := q j (by omega)
    rw [h, q2] at q1
    omega
/-- A cocone from which a morphism leads back, and which is covered, is a pushout. -/
theorem SOk.chk_back (hs : SOk s) {x : G} {h k v : Mo} (hh : MOk s.b x h) (hk : MOk s.c x k) (e : thenM s.f h = thenM s.g k) (hv : MOk x (poG s) v) (e1 : thenM h v = poP s) (e2 : thenM k v = poK s)
    (c1 : ∀ j : Nat, j < x.n.length → (∃ i : Nat, i < s.b.n.length ∧ gt h.n i = j) ∨ ∃ i : Nat, i < s.c.n.length ∧ gt k.n i = j) (c2 : ∀ j : Nat, j < x.e.length → (∃ i : Nat, i < s.b.e.length ∧ gt h.e i = j) ∨ ∃ i : Nat, i < s.c.e.length ∧ gt k.e i = j) :
    chkP s x h k = true := by
  obtain ⟨u, hu, u1, u2⟩ := hs.med hh hk e
  have p1 := hs.p.ln
  have p2 := hs.p.le
  have p3 := hs.k.ln
  have p4 := hs.k.le
  have l1 := hh.ln
  have l2 := hh.le
  have l3 := hk.ln
  have l4 := hk.le
  have := hs.chk_grown hu
  rw [u1, u2] at this
  rw [this]
  have huv : thenM u v = idM (poG s) := by
    refine hs.one (then_okP hu hv) (idM_ok hs.p.vb) ?_ ?_
    · rw [← then_assoc hs.p hu, u1, e1, then_idR hs.p]
    · rw [← then_assoc hs.k hu, u2, e2, then_idR hs.k]
  rw [inj_back hu huv]
  refine (surM_ok hu).2 ⟨covers_ix.2 fun j hj => ?_, covers_ix.2 fun j hj => ?_⟩
  · rcases c1 j hj with ⟨i, hi, hi2⟩ | ⟨i, hi, hi2⟩
    · have e : gt h.n i = gt u.n (gt (poP s).n i) := by rw [← u1]; simp only [thenM]; rw [thr_gt (by omega)]
      obtain ⟨k, hk, hk2⟩ := gtI (hs.p.nd i hi).1
      exact ⟨k, by rw [hu.ln]; exact hk, by rw [← hk2, ← e, hi2]⟩
    · have e : gt k.n i = gt u.n (gt (poK s).n i) := by rw [← u2]; simp only [thenM]; rw [thr_gt (by omega)]
      obtain ⟨k, hk, hk2⟩ := gtI (hs.k.nd i hi).1
      exact ⟨k, by rw [hu.ln]; exact hk, by rw [← hk2, ← e, hi2]⟩
  · rcases c2 j hj with ⟨i, hi, hi2⟩ | ⟨i, hi, hi2⟩
    · have e : gt h.e i = gt u.e (gt (poP s).e i) := by rw [← u1]; simp only [thenM]; rw [thr_gt (by omega)]
      obtain ⟨k, hk, hk2⟩ := gtI (hs.p.ed i hi).1
      exact ⟨k, by rw [hu.le]; exact hk, by rw [← hk2, ← e, hi2]⟩
    · have e : gt k.e i = gt u.e (gt (poK s).e i) := by rw [← u2]; simp only [thenM]; rw [thr_gt (by omega)]
      obtain ⟨k, hk, hk2⟩ := gtI (hs.k.ed i hi).1
      exact ⟨k, by rw [hu.le]; exact hk, by rw [← hk2, ← e, hi2]⟩
def Sp.sw (s : Sp) : Sp := ⟨s.a, s.c, s.b, s.g, s.f⟩
theorem SOk.sw (hs : SOk s) : SOk s.sw := ⟨hs.g, hs.f, fun h => hs.s (by simp only [Big, Sp.sw] at *; omega)⟩
theorem SOk.chk_sw (hs : SOk s) : chkP s (poG s.sw) (poK s.sw) (poP s.sw) = true := by
  have h2 := hs.sw
  have e : thenM s.f (poK s.sw) = thenM s.g (poP s.sw) := h2.comm.symm
  obtain ⟨v, hv, v1, v2⟩ := h2.med (x := poG s) (h := poK s) (k := poP s) hs.k hs.p hs.comm.symm
  exact hs.chk_back h2.k h2.p e hv v2 v1 (fun j hj => (h2.surN hj).symm) (fun j hj => (h2.surE hj).symm)
end
theorem setL_at {α : Type} [Inhabited α] {l : List α} {q : List Int} {z : List α} : ∀ {n : Nat}, (∀ i : Nat, i < n → 0 ≤ gt q i ∧ gt q i < z.length) → (∀ i j : Nat, i < n → j < n → gt q i = gt q j → i = j) → ∀ i : Nat, i < n → gt (setL l q z n) (gt q i) = gt l i
  | 0, _, _, i, hi => by omega
  | n + 1, hb, hn, i, hi => by
    obtain ⟨b1, b2⟩ := hb i hi
    obtain ⟨b3, b4⟩ := hb n (by omega)
    obtain ⟨k, hk⟩ := natI b1
    rw [setL, hk, gt_setS (by rw [setL_len]; omega)]
    by_cases c : (gt q n).toNat = k
    · rw [if_pos c]
      rw [hn n i (by omega) hi (by omega)]
    · rw [if_neg c, ← hk]
      refine setL_at (fun i hi => hb i (by omega)) (fun i j hi hj => hn i j (by omega) (by omega)) i ?_
      by_cases x : i = n
      · subst x; omega
      · omega
/-- A permutation. -/
structure PermI (q : List Int) (n : Nat) : Prop where
  l : q.length = n
  b : ∀ i : Nat, i < n → 0 ≤ gt q i ∧ gt q i < n
  j : ∀ i k : Nat, i < n → k < n → gt q i = gt q k → i = k
theorem PermI.of {l : List Int} {n : Nat} (h : l.Perm (nums 0 n)) : PermI l n := by
  have hl : l.length = n := by rw [h.length_eq, nums_len]
  have hn : l.Nodup := h.symm.nodup_iff.1 (nums_nodup n)
  exact ⟨hl, fun i hi => nums_mem.1 (h.mem_iff.1 (gt_mem (by omega) (by omega))), fun i k hi hk e => gt_inj hn (by omega) (by omega) e⟩
theorem PermI.nodup {l : List Int} {n : Nat} (h : PermI l n) : l.Nodup := nodup_ix fun i j hi hj e => h.j i j (by rw [← h.l]; exact hi) (by rw [← h.l]; exact hj) e
theorem PermI.cov {l : List Int} {n : Nat} (h : PermI l n) {k : Nat} (hk : k < n) : ∃ i : Nat, i < n ∧ gt l i = k := by
  obtain ⟨j, hj, hj2⟩ := perm_has h.nodup (fun x hx => by obtain ⟨i, hi, hi2⟩ := mem_gt hx; rw [h.l] at hi ⊢; rw [← hi2]; exact h.b i hi) k (by rw [h.l]; exact hk)
  exact ⟨j, by rw [← h.l]; exact hj, hj2⟩
theorem reO_ok {g : G} {m : Mo} (hv : validG g = 0) (h1 : PermI m.n g.n.length) (h2 : PermI m.e g.e.length) : MOk g (reO g m) m ∧ injM g (reO g m) m = true ∧ surM g (reO g m) m = true := by
  have vs := valid_spec hv
  have aN : ∀ i : Nat, i < g.n.length → gt (reO g m).n (gt m.n i) = gt g.n i := fun i hi => setL_at h1.b h1.j i hi
  have aE : ∀ i : Nat, i < g.e.length → gt (reO g m).e (gt m.e i) = ⟨(gt g.e i).t, gt m.n (gt g.e i).f, gt m.n (gt g.e i).o⟩ := fun i hi => by
    rw [← reE_gt hi]
    exact setL_at h2.b h2.j i hi
  have lN : (reO g m).n.length = g.n.length := setL_len _ _ _ _
  have lE : (reO g m).e.length = g.e.length := setL_len _ _ _ _
  have hm : MOk g (reO g m) m := by
    refine ⟨hv, valid_mk (by omega) (by omega) (fun x hx => ?_) (fun x hx => ?_), h1.l, h2.l, fun i hi => ?_, fun i hi => ?_⟩
    · obtain ⟨k, hk, hk2⟩ := mem_gt hx
      rw [lN] at hk
      obtain ⟨i, hi, hi2⟩ := h1.cov hk
      rw [← hk2, ← hi2, aN i hi]
      exact vs.2.2.1 _ (gt_mem (by omega) (by omega))
    · obtain ⟨k, hk, hk2⟩ := mem_gt hx
      rw [lE] at hk
      obtain ⟨i, hi, hi2⟩ := h2.cov hk
      obtain ⟨t1, t2, t3⟩ := edge_fits hv (i := i) (by omega)
      obtain ⟨a, ha, ha2⟩ := gtI t2
      obtain ⟨b, hb, hb2⟩ := gtI t3
      rw [← hk2, ← hi2, aE i hi, ha2, hb2, lN]
      exact fits_mk t1 (h1.b a ha) (h1.b b hb)
    · rw [lN]; exact ⟨h1.b i hi, aN i hi⟩
    · rw [lE, aE i hi]; exact ⟨h2.b i hi, rfl, rfl, rfl⟩
  refine ⟨hm, (injM_ok hm).2 ⟨h1.nodup, h2.nodup⟩, (surM_ok hm).2 ⟨covers_ix.2 fun k hk => ?_, covers_ix.2 fun k hk => ?_⟩⟩
  · rw [lN] at hk
    obtain ⟨i, hi, hi2⟩ := h1.cov hk
    exact ⟨i, by rw [h1.l]; exact hi, hi2⟩
  · rw [lE] at hk
    obtain ⟨i, hi, hi2⟩ := h2.cov hk
    exact ⟨i, by rw [h2.l]; exact hi, hi2⟩
theorem po_len {s : Sp} (hs : SOk s) : (poG s).n.length ≤ s.b.n.length + s.c.n.length ∧ (poG s).e.length ≤ s.b.e.length + s.c.e.length := by
  have hl := un_len s.b s.c
  have hc := glu_cong hs.uF hs.uH
  have q1 := (quo_QS hc.ph _ (Nat.le_refl _)).c
  have q2 := (quo_QS hc.rh _ (Nat.le_refl _)).c
  have e1 := hc.pl
  have e2 := hc.rl
  simp only [poG, gluG, quoG, qN_len]
  omega
end
end Go.Am
