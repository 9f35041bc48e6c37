/- Pushouts: Mediate and Check; the example of the chapter. -/
import Derived.Test.YtoeomfoohdheoaaSoF
namespace Go.Am
open Go
set_option linter.unusedVariables false
set_option linter.unusedSimpArgs false
attribute [local irreducible] W
section
variable (P : Program) (F : String → Nat)
end
section
variable {P : Program} {F : String → Nat} {α : Type}
theorem coc_bad {s : Sp} {x : G} {h k : Mo} (e : cocE s x h k ≠ 0) : medP s x h k = (m0, cocE s x h k) := by unfold medP; rw [if_neg e]
theorem coc_ok {s : Sp} {x : G} {h k : Mo} (e : cocE s x h k = 0) : medP s x h k = (medU s h k, 0) := by unfold medP; rw [if_pos e]
theorem on_ok {b d : G} {p h : Mo} {x : G} (hp : MOk b d p) (hh : MOk b x h) : OnOk d.n.length p.n h.n ∧ OnOk d.e.length p.e h.e := by
  have vb := valid_spec hp.va
  have l1 := hp.ln
  have l2 := hp.le
  have l3 := hh.ln
  have l4 := hh.le
  exact ⟨⟨by omega, by omega, fun i hi => (hp.nd i (by omega)).1⟩, ⟨by omega, by omega, fun i hi => (hp.ed i (by omega)).1⟩⟩
set_option maxHeartbeats 2000000 in
theorem w_pushout_Mediate (hp : K_pushout_span P F) (hv : K_morphism_Valid P F) (hg : K_pushout_glue P F) (ht : K_pushout_then P F) (hsm : K_morphism_Same P F) (hfi : K_pushout_filled P F) (s : Sp) (x : G) (h k : Mo) :
    W P (c_pushout_Mediate F) (Done [.c 8 true 2, .t 9] [] (.tup [mA (medP s x h k).1, .int .i64 (medP s x h k).2]) []) (init [spD s, gD x, mD h, mD k]) := by
  refine W_of ?_
  have r1 := hp s
  have r2 := hv s.b x h
  have r3 := hv s.c x k
  have hE : cocE s x h k = if spE s ≠ 0 then spE s else if validM s.b x h ≠ 0 then validM s.b x h else if validM s.c x k ≠ 0 then validM s.c x k else if Big s.b s.c then 3 else if thenM s.f h = thenM s.g k then 0 else 11 := rfl
  by_cases c1 : spE s = 0
  · rw [if_neg (by simp [c1])] at hE
    by_cases c2 : validM s.b x h = 0
    · rw [if_neg (by simp [c2])] at hE
      by_cases c3 : validM s.c x k = 0
      · rw [if_neg (by simp [c3])] at hE
        have r4 := hg s c1
        rw [c1] at r1
        rw [c2] at r2
        rw [c3] at r3
        obtain ⟨hf, hgg⟩ := spE_ok.1 c1
        have hh := mok.1 c2
        have hk := mok.1 c3
        by_cases hb : Big s.b s.c
        · rw [if_pos hb] at hE
          rw [coc_bad (by rw [hE]; decide), hE]
          rw [poR_big c1 hb] at r4
          simp only [poD, g0, m0, gD, gA, mD, mA, spD] at *
          simp (config := { maxSteps := 1000000 }) (disch := first | omega | (simp only [go_sem]; omega)) only [go_sem, ↓reduceIte]
          refine call_by r1 ?_
          simp (config := { maxSteps := 1000000 }) (disch := first | omega | (simp only [go_sem]; omega)) only [go_sem, ↓reduceIte]
          refine call_by r2 ?_
          simp (config := { maxSteps := 1000000 }) (disch := first | omega | (simp only [go_sem]; omega)) only [go_sem, ↓reduceIte]
          refine call_by r3 ?_
          simp (config := { maxSteps := 1000000 }) (disch := first | omega | (simp only [go_sem]; omega)) only [go_sem, ↓reduceIte]
          refine call_by r4 ?_
          simp (config := { maxSteps := 1000000 }) (disch := first | omega | (simp only [go_sem]; omega)) only [go_sem, ↓reduceIte]
          refine bran_ndec (fun _ => ?_) (fun h => absurd h (by decide))
          simp (config := { maxSteps := 1000000 }) (disch := first | omega | (simp only [go_sem]; omega)) only [go_sem, ↓reduceIte]
          simp [ints, mA, m0]
        · rw [if_neg hb] at hE
          have hs : SOk s := ⟨hf, hgg, hb⟩
          rw [poR_ok hs] at r4
          have va := valid_spec hf.va
          have vb := valid_spec hf.vb
          have vc := valid_spec hgg.vb
          have vd := valid_spec hs.p.vb
          have ln := hf.ln
          have le := hf.le
          have mn := hgg.ln
          have me := hgg.le
          have h1 := hh.ln
          have h2 := hh.le
          have k1 := hk.ln
          have k2 := hk.le
          have bf := validM_bd (mok.2 hf)
          have bg := validM_bd (mok.2 hgg)
          have t1 := ht s.f h (by omega) (by omega) (by rw [h1]; exact bf.1) (by rw [h2]; exact bf.2)
          have t2 := ht s.g k (by omega) (by omega) (by rw [k1]; exact bg.1) (by rw [k2]; exact bg.2)
          have sm := hsm (thenM s.f h) (thenM s.g k) (by simp only [thenM, thr_len]; unfold maxL; omega) (by simp only [thenM, thr_len]; unfold maxL; omega)
          obtain ⟨o1, o2⟩ := on_ok hs.p hh
          obtain ⟨o3, o4⟩ := on_ok hs.k hk
          have f1 := hfi _ _ _ _ _ (by omega) o1 o3
          have f2 := hfi _ _ _ _ _ (by omega) o2 o4
          have hmU : medU s h k = ⟨ontoL (poG s).n.length (poP s).n h.n (poK s).n k.n, ontoL (poG s).e.length (poP s).e h.e (poK s).e k.e⟩ := rfl
          have q1 := hs.p.ln
          have q2 := hs.p.le
          have q3 := hs.k.ln
          have q4 := hs.k.le
          generalize ontoL (poG s).n.length (poP s).n h.n (poK s).n k.n = u1 at *
          generalize ontoL (poG s).e.length (poP s).e h.e (poK s).e k.e = u2 at *
          by_cases c4 : thenM s.f h = thenM s.g k
          · rw [if_pos c4] at hE
            rw [coc_ok hE, hmU]
            rw [decide_eq_true c4] at sm
            clear o1 o2 o3 o4 bf bg hs hf hgg hh hk hb c1 c2 c3 hE hmU c4 hp hv hg ht hsm hfi
            generalize thenM s.f h = fh at *
            generalize thenM s.g k = gk at *
            generalize poG s = d at *
            generalize poP s = pp at *
            generalize poK s = kk at *
            obtain ⟨dn, de⟩ := d
            obtain ⟨pn, pe⟩ := pp
            obtain ⟨kn, ke⟩ := kk
            obtain ⟨f1', f2'⟩ := fh
            obtain ⟨g1, g2⟩ := gk
            simp only [poD, gD, gA, mD, mA, spD] at *
            simp (config := { maxSteps := 1000000 }) (disch := first | omega | (simp only [go_sem]; omega)) only [go_sem, ↓reduceIte]
            refine call_by r1 ?_
            simp (config := { maxSteps := 1000000 }) (disch := first | omega | (simp only [go_sem]; omega)) only [go_sem, ↓reduceIte]
            refine call_by r2 ?_
            simp (config := { maxSteps := 1000000 }) (disch := first | omega | (simp only [go_sem]; omega)) only [go_sem, ↓reduceIte]
            refine call_by r3 ?_
            simp (config := { maxSteps := 1000000 }) (disch := first | omega | (simp only [go_sem]; omega)) only [go_sem, ↓reduceIte]
            refine call_by r4 ?_
            simp (config := { maxSteps := 1000000 }) (disch := first | omega | (simp only [go_sem]; omega)) only [go_sem, ↓reduceIte]
            refine call_by t1 ?_
            simp (config := { maxSteps := 1000000 }) (disch := first | omega | (simp only [go_sem]; omega)) only [go_sem, ↓reduceIte]
            refine call_by t2 ?_
            simp (config := { maxSteps := 1000000 }) (disch := first | omega | (simp only [go_sem]; omega)) only [go_sem, ↓reduceIte]
            refine call_by sm ?_
            simp (config := { maxSteps := 1000000 }) (disch := first | omega | (simp only [go_sem]; omega)) only [go_sem, ↓reduceIte]
            refine call_by f1 ?_
            simp (config := { maxSteps := 1000000 }) (disch := first | omega | (simp only [go_sem]; omega)) only [go_sem, ↓reduceIte]
            refine call_by f2 ?_
            simp (config := { maxSteps := 1000000 }) (disch := first | omega | (simp only [go_sem]; omega)) only [go_sem, ↓reduceIte]
            try rfl
          · rw [if_neg c4] at hE
            rw [coc_bad (by rw [hE]; decide), hE]
            rw [decide_eq_false c4] at sm
            clear o1 o2 o3 o4 bf bg hs hf hgg hh hk hb c1 c2 c3 hE hmU c4 hp hv hg ht hsm hfi
            generalize thenM s.f h = fh at *
            generalize thenM s.g k = gk at *
            generalize poG s = d at *
            generalize poP s = pp at *
            generalize poK s = kk at *
            obtain ⟨dn, de⟩ := d
            obtain ⟨pn, pe⟩ := pp
            obtain ⟨kn, ke⟩ := kk
            obtain ⟨f1', f2'⟩ := fh
            obtain ⟨g1, g2⟩ := gk
            simp only [poD, gD, gA, mD, mA, spD] at *
            simp (config := { maxSteps := 1000000 }) (disch := first | omega | (simp only [go_sem]; omega)) only [go_sem, ↓reduceIte]
            refine call_by r1 ?_
            simp (config := { maxSteps := 1000000 }) (disch := first | omega | (simp only [go_sem]; omega)) only [go_sem, ↓reduceIte]
            refine call_by r2 ?_
            simp (config := { maxSteps := 1000000 }) (disch := first | omega | (simp only [go_sem]; omega)) only [go_sem, ↓reduceIte]
            refine call_by r3 ?_
            simp (config := { maxSteps := 1000000 }) (disch := first | omega | (simp only [go_sem]; omega)) only [go_sem, ↓reduceIte]
            refine call_by r4 ?_
            simp (config := { maxSteps := 1000000 }) (disch := first | omega | (simp only [go_sem]; omega)) only [go_sem, ↓reduceIte]
            refine call_by t1 ?_
            simp (config := { maxSteps := 1000000 }) (disch := first | omega | (simp only [go_sem]; omega)) only [go_sem, ↓reduceIte]
            refine call_by t2 ?_
            simp (config := { maxSteps := 1000000 }) (disch := first | omega | (simp only [go_sem]; omega)) only [go_sem, ↓reduceIte]
            refine call_by sm ?_
            simp (config := { maxSteps := 1000000 }) (disch := first | omega | (simp only [go_sem]; omega)) only [go_sem, ↓reduceIte]
            simp [m0, ints, mA]
      · rw [if_pos c3] at hE
        rw [coc_bad (by rw [hE]; exact c3), hE]
        rw [c1] at r1
        rw [c2] at r2
        generalize validM s.c x k = v at *
        clear hE
        simp only [gD, mD, spD] at *
        simp (config := { maxSteps := 1000000 }) (disch := first | omega | (simp only [go_sem]; omega)) only [go_sem, ↓reduceIte]
        refine call_by r1 ?_
        simp (config := { maxSteps := 1000000 }) (disch := first | omega | (simp only [go_sem]; omega)) only [go_sem, ↓reduceIte]
        refine call_by r2 ?_
        simp (config := { maxSteps := 1000000 }) (disch := first | omega | (simp only [go_sem]; omega)) only [go_sem, ↓reduceIte]
        refine call_by r3 ?_
        simp (config := { maxSteps := 1000000 }) (disch := first | omega | (simp only [go_sem]; omega)) only [go_sem, ↓reduceIte, c3]
        simp [m0, mA, ints]
    · rw [if_pos c2] at hE
      rw [coc_bad (by rw [hE]; exact c2), hE]
      rw [c1] at r1
      generalize validM s.b x h = v at *
      clear hE
      simp only [gD, mD, spD] at *
      simp (config := { maxSteps := 1000000 }) (disch := first | omega | (simp only [go_sem]; omega)) only [go_sem, ↓reduceIte]
      refine call_by r1 ?_
      simp (config := { maxSteps := 1000000 }) (disch := first | omega | (simp only [go_sem]; omega)) only [go_sem, ↓reduceIte]
      refine call_by r2 ?_
      simp (config := { maxSteps := 1000000 }) (disch := first | omega | (simp only [go_sem]; omega)) only [go_sem, ↓reduceIte, c2]
      simp [m0, mA, ints]
  · rw [if_pos c1] at hE
    rw [coc_bad (by rw [hE]; exact c1), hE]
    generalize spE s = v at *
    clear hE
    simp only [gD, mD, spD] at *
    simp (config := { maxSteps := 1000000 }) (disch := first | omega | (simp only [go_sem]; omega)) only [go_sem, ↓reduceIte]
    refine call_by r1 ?_
    simp (config := { maxSteps := 1000000 }) (disch := first | omega | (simp only [go_sem]; omega)) only [go_sem, ↓reduceIte, c1]
    simp [m0, mA, ints]
theorem w_pushout_Check (hm : K_pushout_Mediate P F) (hg : K_pushout_glue P F) (hi : K_morphism_Injective P F) (hj : K_morphism_Surjective P F) (s : Sp) (x : G) (h k : Mo) : W P (c_pushout_Check F) (Done [.t 8] [] (.bool (chkP s x h k)) []) (init [spD s, gD x, mD h, mD k]) := by
  refine W_of ?_
  have r1 := hm s x h k
  have hC : chkP s x h k = (decide (cocE s x h k = 0) && (injM (poG s) x (medU s h k) && surM (poG s) x (medU s h k))) := rfl
  rw [hC]
  by_cases c : cocE s x h k = 0
  · obtain ⟨hs, _⟩ := cocE_ok.1 c
    have r2 := hg s (spE_ok.2 ⟨hs.f, hs.g⟩)
    rw [coc_ok c] at r1
    rw [poR_ok hs] at r2
    rw [decide_eq_true c]
    have r3 := hi (poG s) x (medU s h k)
    have r4 := hj (poG s) x (medU s h k)
    clear hs c hC
    generalize injM (poG s) x (medU s h k) = b1 at *
    generalize surM (poG s) x (medU s h k) = b2 at *
    generalize medU s h k = u at *
    generalize poG s = d at *
    generalize poP s = pp at *
    generalize poK s = kk at *
    obtain ⟨dn, de⟩ := d
    obtain ⟨pn, pe⟩ := pp
    obtain ⟨kn, ke⟩ := kk
    obtain ⟨un, ue⟩ := u
    simp only [poD, gD, gA, mD, mA, spD] at *
    simp (config := { maxSteps := 1000000 }) (disch := first | omega | (simp only [go_sem]; omega)) only [go_sem, ↓reduceIte]
    refine call_by r1 ?_
    simp (config := { maxSteps := 1000000 }) (disch := first | omega | (simp only [go_sem]; omega)) only [go_sem, ↓reduceIte]
    refine call_by r2 ?_
    simp (config := { maxSteps := 1000000 }) (disch := first | omega | (simp only [go_sem]; omega)) only [go_sem, ↓reduceIte]
    refine call_by r3 ?_
    cases b1
    · simp (config := { maxSteps := 1000000 }) (disch := first | omega | (simp only [go_sem]; omega)) only [go_sem, ↓reduceIte]
    · simp (config := { maxSteps := 1000000 }) (disch := first | omega | (simp only [go_sem]; omega)) only [go_sem, ↓reduceIte]
      refine call_by r4 ?_
      simp (config := { maxSteps := 1000000 }) (disch := first | omega | (simp only [go_sem]; omega)) only [go_sem, ↓reduceIte]
  · rw [coc_bad c] at r1
    rw [decide_eq_false c]
    generalize cocE s x h k = v at *
    simp only [gD, mD, spD, mA, m0] at *
    simp (config := { maxSteps := 1000000 }) (disch := first | omega | (simp only [go_sem]; omega)) only [go_sem, ↓reduceIte]
    refine call_by r1 ?_
    simp (config := { maxSteps := 1000000 }) (disch := first | omega | (simp only [go_sem]; omega)) only [go_sem, ↓reduceIte, c]
end
end Go.Am
