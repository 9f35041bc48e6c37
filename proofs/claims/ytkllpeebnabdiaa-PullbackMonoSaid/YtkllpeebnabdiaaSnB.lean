/- Mediating morphisms; the exchanged cospan. -/
import Derived.Test.YtkllpeebnabdiaaSnA
namespace Go.Am
open Go
set_option linter.unusedVariables false
set_option linter.unusedSimpArgs false
section
theorem meet_gt {l : List Pr} {h k : List Int} {i : Nat} (hi : i < h.length) : gt (meetL l h k) i = idx (fun p => decide (p = ⟨gt h i, gt k i⟩)) l 0 := by
  unfold meetL meetI
  rw [gt_nat (by simpa using hi)]
  simp
theorem meet_len (l : List Pr) (h k : List Int) : (meetL l h k).length = h.length := by rw [meetL, meetI_len]
theorem med_mk {s : Cs} {x : G} {h k : Mo} (e : pbErr s = 0) (hh : MOk x s.b h) (hk : MOk x s.c k) (cn : ∀ i : Nat, i < x.n.length → gt s.f.n (gt h.n i) = gt s.g.n (gt k.n i)) (ce : ∀ i : Nat, i < x.e.length → gt s.f.e (gt h.e i) = gt s.g.e (gt k.e i)) :
    ∃ m, medM s x h k = (m, 0) ∧ MOk x (pbG0 s) m ∧ (∀ i : Nat, i < x.n.length → gt (pbN s) (gt m.n i) = ⟨gt h.n i, gt k.n i⟩) ∧ ∀ i : Nat, i < x.e.length → gt (pbE s) (gt m.e i) = ⟨gt h.e i, gt k.e i⟩ := by
  have pb := pb_of e
  have hln := hh.ln
  have hle := hh.le
  have nN : ∀ i : Nat, i < x.n.length → (0 ≤ gt (meetL (pbN s) h.n k.n) i ∧ gt (meetL (pbN s) h.n k.n) i < (pbN s).length) ∧ gt (pbN s) (gt (meetL (pbN s) h.n k.n) i) = ⟨gt h.n i, gt k.n i⟩ := fun i hi => by
    rw [meet_gt (by omega)]
    exact idx_spec ((pbN_in pb.f pb.g (hh.nd i hi).1 (hk.nd i hi).1).2 (cn i hi))
  have nE : ∀ i : Nat, i < x.e.length → (0 ≤ gt (meetL (pbE s) h.e k.e) i ∧ gt (meetL (pbE s) h.e k.e) i < (pbE s).length) ∧ gt (pbE s) (gt (meetL (pbE s) h.e k.e) i) = ⟨gt h.e i, gt k.e i⟩ := fun i hi => by
    rw [meet_gt (by omega)]
    exact idx_spec ((pbE_in pb.f pb.g (hh.ed i hi).1 (hk.ed i hi).1).2 (ce i hi))
  have o1 : meetOk (pbN s) h.n k.n = true := by
    unfold meetOk
    rw [List.all_eq_true]
    intro y hy
    obtain ⟨i, hi, rfl⟩ := mem_gt hy
    rw [meet_len] at hi
    simpa using (nN i (by omega)).1.1
  have o2 : meetOk (pbE s) h.e k.e = true := by
    unfold meetOk
    rw [List.all_eq_true]
    intro y hy
    obtain ⟨i, hi, rfl⟩ := mem_gt hy
    rw [meet_len] at hi
    simpa using (nE i (by omega)).1.1
  have er : medErr s x h k = 0 := by
    unfold medErr
    rw [if_neg (by simp [e]), if_neg (by rw [mok.2 hh]; simp)]
    exact mok.2 hk
  refine ⟨⟨meetL (pbN s) h.n k.n, meetL (pbE s) h.e k.e⟩, ?_, ⟨hh.va, pb.p.va, by simp only [meet_len]; omega, by simp only [meet_len]; omega, fun i hi => ?_, fun i hi => ?_⟩, fun i hi => (nN i hi).2, fun i hi => (nE i hi).2⟩
  · unfold medM
    rw [if_neg (by simp [er]), if_pos ⟨o1, o2⟩]
  · obtain ⟨h1, h2⟩ := nN i hi
    refine ⟨by simpa [pbG0] using h1, ?_⟩
    obtain ⟨j, hj, hj2⟩ := gtI h1
    simp only
    rw [hj2] at h2 ⊢
    have : gt (pbG0 s).n j = gt s.b.n (gt (pbN s) j).a := gt_map hj
    rw [this, h2]
    exact (hh.nd i hi).2
  · obtain ⟨h1, h2⟩ := nE i hi
    refine ⟨by simpa [pbG0] using h1, ?_⟩
    obtain ⟨j, hj, hj2⟩ := gtI h1
    simp only
    rw [hj2] at h2 ⊢
    have hg : gt (pbG0 s).e j = pbEdge s.b.e s.c.e (pbN s) (gt (pbE s) j) := gt_map hj
    obtain ⟨_, b1, b2, b3⟩ := hh.ed i hi
    obtain ⟨_, c1, c2, c3⟩ := hk.ed i hi
    obtain ⟨_, f1, f2⟩ := edge_fits hh.va (i := i) (by omega)
    obtain ⟨p, hp, hp2⟩ := gtI f1
    obtain ⟨q, hq, hq2⟩ := gtI f2
    rw [hg, h2]
    refine ⟨b1, ?_, ?_⟩
    · rw [hp2] at b2 c2 ⊢
      rw [meet_gt (by omega), b2, c2]
      rfl
    · rw [hq2] at b3 c3 ⊢
      rw [meet_gt (by omega), b3, c3]
      rfl
theorem nodup_mk {l : List Int} (h : ∀ i j : Nat, i < l.length → j < l.length → gt l i = gt l j → i = j) : l.Nodup := by
  unfold List.Nodup
  rw [List.pairwise_iff_getElem]
  intro i j hi hj hij e
  have := h i j hi hj (by rw [gt_nat hi, gt_nat hj, e])
  omega
def Cs.sw (s : Cs) : Cs := ⟨s.c, s.b, s.d, s.g, s.f⟩
theorem pairs_sw {l l' : List Pr} {m : List Int} (hn : l.Nodup) (hn' : l'.Nodup) (hl : m.length = l'.length) (hm : ∀ i : Nat, i < l'.length → (0 ≤ gt m i ∧ gt m i < l.length) ∧ gt l (gt m i) = ⟨(gt l' i).b, (gt l' i).a⟩)
    (hb : ∀ p ∈ l, (⟨p.b, p.a⟩ : Pr) ∈ l') : m.Nodup ∧ covers m l.length = true := by
  constructor
  · refine nodup_mk fun i j hi hj e => ?_
    have h1 := (hm i (by omega)).2
    have h2 := (hm j (by omega)).2
    rw [e, h2] at h1
    simp only [Pr.mk.injEq] at h1
    exact gt_inj hn' (by omega) (by omega) ((eqPr _ _).2 ⟨h1.2.symm, h1.1.symm⟩)
  · unfold covers
    rw [List.all_eq_true]
    intro k hk
    simp at hk
    have h0 := hb _ (gt_mem (l := l) (j := k) (by omega) (by omega))
    obtain ⟨i, hi, h1⟩ := mem_gt h0
    obtain ⟨h3, h2⟩ := hm i hi
    rw [h1] at h2
    obtain ⟨j, hj, hj2⟩ := gtI h3
    rw [hj2] at h2
    have : j = k := gt_inj hn hj hk (by rw [h2])
    subst this
    simp only [decide_eq_true_eq]
    rw [← hj2]
    exact gt_mem (by omega) (by omega)
theorem check_sw {s : Cs} (h : pbErr s = 0) (h' : pbErr s.sw = 0) : checkM s (pbG s.sw) (pbQ s.sw) (pbP s.sw) = true := by
  have e1 : pbG s.sw = pbG0 s.sw := by simp [pbG, h']
  have e2 : pbP s.sw = ⟨asA (pbN s.sw), asA (pbE s.sw)⟩ := by simp [pbP, h']
  have e3 : pbQ s.sw = ⟨asB (pbN s.sw), asB (pbE s.sw)⟩ := by simp [pbQ, h']
  have e4 : pbG s = pbG0 s := by simp [pbG, h]
  have pb := pb_of h
  have pb' := pb_of h'
  have hnl : (pbG0 s.sw).n.length = (pbN s.sw).length := by simp [pbG0]
  have hel : (pbG0 s.sw).e.length = (pbE s.sw).length := by simp [pbG0]
  have hA : ∀ (l : List Pr) (i : Nat), i < l.length → gt (asA l) i = (gt l i).a := fun l i hi => gt_map hi
  have hB : ∀ (l : List Pr) (i : Nat), i < l.length → gt (asB l) i = (gt l i).b := fun l i hi => gt_map hi
  obtain ⟨m, h1, h2, h3, h4⟩ := med_mk (x := pbG0 s.sw) (h := ⟨asB (pbN s.sw), asB (pbE s.sw)⟩) (k := ⟨asA (pbN s.sw), asA (pbE s.sw)⟩) h pb'.q pb'.p
    (fun i hi => by
      rw [hnl] at hi
      simp only
      rw [hA _ i hi, hB _ i hi]
      exact (pbN_bd pb'.f pb'.g (gt_mem (by omega) (by omega))).2.2.symm)
    (fun i hi => by
      rw [hel] at hi
      simp only
      rw [hA _ i hi, hB _ i hi]
      exact (pbE_bd pb'.f pb'.g (gt_mem (by omega) (by omega))).2.2.symm)
  unfold checkM
  rw [e1, e2, e3, e4, h1]
  have hv := mok.2 h2
  have s1 := pairs_sw (l := pbN s) (l' := pbN s.sw) (m := m.n) (pairsL_nodup _ _) (pairsL_nodup _ _) (by rw [h2.ln, hnl]) (fun i hi => by
    have := h3 i (by omega)
    rw [hB _ i hi, hA _ i hi] at this
    have hb := (h2.nd i (by omega)).1
    exact ⟨by simpa [pbG0] using hb, this⟩) (fun p hp => by
    obtain ⟨b1, b2, b3⟩ := pbN_bd pb.f pb.g hp
    exact (pbN_in pb'.f pb'.g b2 b1).2 b3.symm)
  have s2 := pairs_sw (l := pbE s) (l' := pbE s.sw) (m := m.e) (pairsL_nodup _ _) (pairsL_nodup _ _) (by rw [h2.le, hel]) (fun i hi => by
    have := h4 i (by omega)
    rw [hB _ i hi, hA _ i hi] at this
    have hb := (h2.ed i (by omega)).1
    exact ⟨by simpa [pbG0] using hb, this⟩) (fun p hp => by
    obtain ⟨b1, b2, b3⟩ := pbE_bd pb.f pb.g hp
    exact (pbE_in pb'.f pb'.g b2 b1).2 b3.symm)
  have g1 : (pbG0 s).n.length = (pbN s).length := by simp [pbG0]
  have g2 : (pbG0 s).e.length = (pbE s).length := by simp [pbG0]
  simp only [injM, surM, hv, g1, g2, s1.2, s2.2]
  simp [distinct, s1.1, s2.1]
end
end Go.Am
