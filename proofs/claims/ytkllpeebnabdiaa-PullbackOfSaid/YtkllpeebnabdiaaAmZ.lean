/- What a function's code comes to is the function's contract. -/
import Derived.Test.YtkllpeebnabdiaaAmY
namespace Go.Am
open Go

section
variable {P : Program} {B : Base} {κ : Nat → Option KI} {hp0 hp hp' hp'' : Hp} {F : Nat → Prop} {w : World} {d e : D} {v : Value}

theorem initGo_adopts : ∀ (ds : List D) (t n : Nat), (initGo t n ds).2 = (adopts adopt1 n ds).2 ∧ ∀ s d, lk (initGo t n ds).1 s = some d → ∃ i, s = t + i ∧ (adopts adopt1 n ds).1[i]? = some d
  | [], t, n => by simp [initGo, adopts, lk]
  | d :: ds, t, n => by
    obtain ⟨h1, h2⟩ := initGo_adopts ds (t + 1) (adopt1 n d).2.2
    simp only [initGo, adopts]
    refine ⟨by rw [h1], fun s d' hl => ?_⟩
    simp only [lk] at hl
    split at hl
    · rename_i hst
      simp only [Option.some.injEq] at hl
      exact ⟨0, by omega, by simp [hl]⟩
    · obtain ⟨i, g1, g2⟩ := h2 s d' hl
      exact ⟨i + 1, by omega, by simpa using g2⟩

/-- A function's results as the machine reads them. -/
def rsOf (P : Program) : List ResultVar → Option (List RV)
  | [] => some []
  | .tmp t :: l => (rsOf P l).map (.t t :: ·)
  | .cell a t :: l => match isAg P t, szOf P t, rsOf P l with
    | some ag, some m, some l => some (.c a ag m :: l)
    | _, _, _ => none

def resF (tm : Array Value) : ResultVar → Sem Value
  | .tmp t => pure (tm.getD t undef)
  | .cell a t => do loadVar t (← asAddr (tm.getD a undef))
theorem results_eq (fn : Func) (tm : Array Value) : results fn tm = (do
    let vs ← fn.results.mapM (resF tm)
    pure (if h : vs.size = 1 then vs[0] else .tuple vs)) := rfl

theorem results_sound {N : Nat} {tm : Array Value} {s : St} (hB : B.N = N) (h : RH B κ s.hp F w) (hS : RS B κ s.hp w s.sl tm) : ∀ (l : List ResultVar) (rs : List RV) (ds : List D), rsOf P l = some rs → allO (rvGet s) rs = some ds →
    ∃ vs, ((l.mapM (resF tm)).run P w = .ok vs w) ∧ vs.length = l.length ∧ MRs w (Im B κ s.hp w) κ ds vs
  | [], rs, ds, hr, hd => by
    simp only [rsOf, Option.some.injEq] at hr
    subst hr
    simp only [allO, Option.some.injEq] at hd
    subst hd
    exact ⟨[], by simp, rfl, by simp [MRs]⟩
  | .tmp t :: l, rs, ds, hr, hd => by
    simp only [rsOf, Option.map_eq_some_iff] at hr
    obtain ⟨rs', hr, rfl⟩ := hr
    simp only [allO] at hd
    split at hd
    case h_2 => cases hd
    rename_i d ds' h1 h2
    simp only [Option.some.injEq] at hd
    subst hd
    obtain ⟨vs, g1, g2, g3⟩ := results_sound hB h hS l rs' ds' hr h2
    obtain ⟨v, hv, hm⟩ := hS.sl t d h1
    refine ⟨v :: vs, ?_, by simp [g2], by simp only [MRs]; exact ⟨v, vs, rfl, hm, g3⟩⟩
    have : (resF tm (.tmp t)).run P w = .ok v w := by simp [resF, hv]
    rw [List.mapM_cons]
    simp only [Sem.run_bind, this, Result.andThen_ok, g1, Sem.run_pure]
  | .cell a t :: l, rs, ds, hr, hd => by
    simp only [rsOf] at hr
    split at hr
    case h_2 => cases hr
    rename_i ag m rs' hag hm hr'
    simp only [Option.some.injEq] at hr
    subst hr
    simp only [allO] at hd
    split at hd
    case h_2 => cases hd
    rename_i d ds' h1 h2
    simp only [Option.some.injEq] at hd
    subst hd
    obtain ⟨vs, g1, g2, g3⟩ := results_sound hB h hS l rs' ds' hr' h2
    simp only [rvGet] at h1
    split at h1
    case h_2 => cases h1
    rename_i id hla
    split at h1
    case h_2 => cases h1
    rename_i cs hlb
    obtain ⟨pv, hpv, hpm⟩ := hS.sl a _ hla
    obtain ⟨b, cur, ty, k1, k2, k3, k4, k5⟩ := h.box hlb
    simp only [MR, k1, Option.some.injEq, KI.box.injEq] at hpm
    obtain ⟨b', rfl, rfl⟩ := hpm
    obtain ⟨q1, q2⟩ := subCells_inv h1
    simp only [Nat.zero_add, List.drop_zero] at q1 q2
    have k5' := (k5.take m).1
    obtain ⟨r1, r2⟩ := load_MR k5' (fun u hu => k4 u (List.mem_of_mem_take hu)) q2
    have hlen : (cur.toList.take m).length = m := by rw [k5'.length]; simp; omega
    have hload := run_loadVar_mem (P := P) (w := w) (b := b) (off := 0) hag hm (us := cur.toList.take m) (Mem.of_cells k3 (fun j u hj => by
      rw [List.getElem?_take] at hj
      split at hj
      · simpa using hj
      · cases hj)) hlen (fun e => by rw [← hlen]; exact r1 e)
    refine ⟨_ :: vs, ?_, by simp [g2], by simp only [MRs]; exact ⟨_, vs, rfl, r2, g3⟩⟩
    have : (resF tm (.cell a t)).run P w = .ok (if ag then .agg (cur.toList.take m).toArray else (cur.toList.take m).headD undef) w := by
      simp only [resF, Array.getD_eq_getD_getElem?, hpv, Option.getD_some, asAddr, Sem.run_bind, Sem.run_pure, Result.andThen_ok, hload]
    rw [List.mapM_cons]
    simp only [Sem.run_bind, this, Result.andThen_ok, g1, Sem.run_pure]

theorem DRs_append {I : Nat → Prop} : ∀ {cs ds : List D} {us : List Value} {os : List Nat}, DRs w I (cs ++ ds) us os → ∃ u v o o', us = u ++ v ∧ os = o ++ o' ∧ DRs w I cs u o ∧ DRs w I ds v o'
  | [], ds, us, os, h => ⟨[], us, [], os, rfl, rfl, by simp [DRs], h⟩
  | c :: cs, ds, us, os, h => by
    simp only [List.cons_append, DRs] at h
    obtain ⟨v, vs', o, o', rfl, rfl, h1, h2⟩ := h
    obtain ⟨u, z, p, q, rfl, rfl, g1, g2⟩ := DRs_append h2
    exact ⟨v :: u, z, o ++ p, q, rfl, by simp, by simp only [DRs]; exact ⟨v, u, o, p, rfl, rfl, h1, g1⟩, g2⟩

theorem run_results {fn : Func} {tm : Array Value} {vs : List Value} (h : (fn.results.toList.mapM (resF tm)).run P w = .ok vs w) :
    (results fn tm).run P w = .ok (match vs with | [v] => v | _ => .tuple vs.toArray) w := by
  have e : fn.results.mapM (resF tm) = List.toArray <$> (fn.results.toList.mapM (resF tm)) := by
    rw [Array.mapM_eq_mapM_toList]
  rw [results_eq, e]
  simp only [map_eq_pure_bind, Sem.run_bind, h, Result.andThen_ok, Sem.run_pure]
  congr 1
  match vs with
  | [] => rfl
  | [v] => rfl
  | _ :: _ :: _ => simp

theorem filterMap_vals {s : St} {tm : Array Value} (hS : RS B κ s.hp w s.sl tm) : ∀ (l : List Nat), (∀ i ∈ l, (lk s.sl i).isSome = true) → MRs w (Im B κ s.hp w) κ (l.filterMap fun i => lk s.sl i) (l.map fun i => tm.getD i undef)
  | [], _ => by simp [MRs]
  | i :: l, h => by
    have hi := h i (by simp)
    cases hl : lk s.sl i with
    | none => rw [hl] at hi; cases hi
    | some d =>
      obtain ⟨v, hv, hm⟩ := hS.sl i d hl
      simp only [List.filterMap_cons, hl, List.map_cons, MRs]
      exact ⟨v, _, by simp [hv], hm, filterMap_vals hS l fun j hj => h j (List.mem_cons_of_mem _ hj)⟩
theorem filterMap_full {s : St} : ∀ {l : List Nat}, l.length ≤ (l.filterMap fun i => lk s.sl i).length → ∀ i ∈ l, (lk s.sl i).isSome = true
  | [], _, i, hi => by cases hi
  | j :: l, h, i, hi => by
    rw [List.filterMap_cons] at h
    cases hl : lk s.sl j with
    | none =>
      rw [hl] at h
      have := List.length_filterMap_le (fun i => lk s.sl i) l
      simp at h; omega
    | some d =>
      rw [hl] at h
      simp only [List.length_cons] at h
      rcases List.mem_cons.1 hi with rfl | hi
      · rw [hl]; rfl
      · exact filterMap_full (by omega) i hi
theorem expels_length {f : Hp → D → Option (D × Hp)} : ∀ {ds : List D} {hp hp' : Hp} {es : List D}, expels f hp ds = some (es, hp') → es.length = ds.length
  | [], _, _, _, h => by simp only [expels, Option.some.injEq, Prod.mk.injEq] at h; rw [← h.1]
  | d :: ds, hp, hp', es, h => by
    simp only [expels] at h
    split at h
    case h_2 => cases h
    split at h
    case h_2 => cases h
    rename_i h2
    simp only [Option.some.injEq, Prod.mk.injEq] at h
    rw [← h.1, List.length_cons, List.length_cons, expels_length h2]

theorem callFunc_enter {f : Nat} {fn : Func} (hf : P.funcs[f]? = some fn) (hnm : (fn.name == "runtime.NumGoroutine") = false) {body : Code} (hb : fn.body = some body) (vs : Array Value) (w : World) :
    (callFunc f vs).run P w = .ok (.enter f vs) w := by
  unfold callFunc
  have : ¬ fn.name = "runtime.NumGoroutine" := by simpa using hnm
  simp [hf, this, hb]

theorem FC.of {f : Nat} {fn : Func} {body : Code} {lc : LC} {rs : List RV} {outs : List Nat} {args : List D} {r : D} {os' : List (Nat × D)} {H : Hints}
    (hf : P.funcs[f]? = some fn) (hnm : (fn.name == "runtime.NumGoroutine") = false) (hb : fn.body = some body) (hmx : P.follows .mixedOrders = true) (hfx : H.fx = outs) (hc : cC P H fn.ntmps body = some lc)
    (hrs : rsOf P fn.results.toList = some rs) (hN : args.length ≤ fn.ntmps) (hout : ∀ i ∈ outs, i < args.length) (hok : args.all okA1 = true)
    (hW : W P lc (DoneA rs outs r os') (init args)) : FC P f args r os' := by
  refine ⟨callFunc_enter hf hnm hb, fun w I vs os hI hnd hos hdr => ?_⟩
  let B : Base := ⟨w, I, os, fn.ntmps, outs, vs⟩
  obtain ⟨κ, ht, hm, hfr⟩ := adopts_sound adopt1 okA1 (fun n κ d v os ho h hf => adopt1_sound ho h hf) args 0 (fun _ => none) vs os hok hdr (fun _ _ => rfl)
  obtain ⟨hi1, hi2⟩ := initGo_adopts args 0 0
  have hvl : vs.length = args.length := hdr.length
  have hhp : (init args).hp = (adopts adopt1 0 args).2.1 := by simp only [init, hi1]
  have hnx : (init args).nx = (adopts adopt1 0 args).2.2 := by simp only [init, hi1]
  have hob : ∀ id b, OB κ (adopts adopt1 0 args).2.1 id b → b ∈ os ∧ ∃ e, (id, e) ∈ (adopts adopt1 0 args).2.1 ∧ (κ id).bind KI.blk = some b := by
    rintro id b ⟨e, k, h1, h2, h3, h4⟩
    have hb : (κ id).bind KI.blk = some b := by rw [h3]; exact h4
    exact ⟨by rw [← ht.blks]; exact List.mem_filterMap.2 ⟨(id, e), lk_mem h1, hb⟩, e, lk_mem h1, hb⟩
  have hIm : ∀ b, I b → Im B κ (adopts adopt1 0 args).2.1 w b := fun b hb => ⟨.inl hb, (hI b hb).1, fun ⟨id, ho⟩ => (hI b hb).2 (hob id b ho).1⟩
  have hkeep : Keep w w I (Im B κ (adopts adopt1 0 args).2.1 w) := ⟨hIm, fun _ _ => rfl⟩
  have hR : RH B κ (init args).hp (fun id => (init args).nx ≤ id) w := by
    rw [hhp, hnx]
    refine ⟨Stp.refl _ _, hfr, fun id e he => (ht.ent _ (lk_mem he)).mono hkeep (fun _ _ h => h) (fun _ _ _ _ _ => rfl), fun b ⟨id, ho⟩ => ?_, fun id id' b h1 h2 => ?_⟩
    · have := (hob id b ho).1
      exact ⟨.inl this, hos b this⟩
    · obtain ⟨_, e1, m1, b1⟩ := hob id b h1
      obtain ⟨_, e2, m2, b2⟩ := hob id' b h2
      have := filterMap_inj (g := fun p : Nat × Ent => (κ p.1).bind KI.blk) (l := (adopts adopt1 0 args).2.1) (by have := ht.blks; unfold blks at this; rw [this]; exact hnd) m1 m2 b1 b2
      exact congrArg Prod.fst this
  have hS : RS B κ (init args).hp w (init args).sl (vs.toArray ++ Array.replicate (fn.ntmps - vs.toArray.size) undef) := by
    have hget : ∀ (i : Nat) (v : Value), vs[i]? = some v → (vs.toArray ++ Array.replicate (fn.ntmps - vs.toArray.size) undef)[i]? = some v := by
      intro i v hv
      have : i < vs.length := (List.getElem?_eq_some_iff.1 hv).1
      rw [Array.getElem?_append_left (by simpa using this)]
      simpa using hv
    refine ⟨by simp [B]; omega, fun t d htd => ?_, fun t htf => ?_⟩
    · obtain ⟨i, rfl, hi⟩ := hi2 t d htd
      obtain ⟨v, hv, hmv⟩ := hm.get hi
      refine ⟨v, hget _ v (by simpa using hv), ?_⟩
      rw [hhp]
      exact hmv.mono hkeep (fun _ _ h => h)
    · have h1 := hout t htf
      have h2 : t < vs.length := by omega
      show _ = vs[t]?
      rw [List.getElem?_eq_getElem h2]
      exact hget t _ (List.getElem?_eq_getElem h2)
  refine calls_of_wp hf hb (code_sound (B := B) hmx (by rw [hfx]) body lc hc _ _ (init args) _ w ⟨rfl, κ, hR, hS⟩ hW ?_)
  intro e s a w' hdone hat
  obtain ⟨hdf, κ', hR', hS'⟩ := hat
  obtain ⟨ids, hdone⟩ := hdone
  obtain ⟨hR', hN'⟩ := hR'.freezes ids
  replace hS' := hS'.next hN'
  clear hN'
  replace hR' : RH B κ' (St.hp ⟨s.sl, freezeIds ids s.hp, s.nx⟩) (fun id => (St.nx ⟨s.sl, freezeIds ids s.hp, s.nx⟩) ≤ id) w' := hR'
  replace hS' : RS B κ' (St.hp ⟨s.sl, freezeIds ids s.hp, s.nx⟩) w' (St.sl ⟨s.sl, freezeIds ids s.hp, s.nx⟩) a.tmps := hS'
  generalize (⟨s.sl, freezeIds ids s.hp, s.nx⟩ : St) = s at *
  have fin : fin s rs outs = some (r, os') → bodyPost P fn (fun e w' => ∃ v' os'', e = .returned v' ∧ Stp (· ∈ os) w w' ∧ os''.Nodup ∧ (∀ b ∈ os'', (b ∈ os ∨ w.heap.size ≤ b) ∧ b < w'.heap.size) ∧
      DRs w' (fun b => (I b ∨ b ∈ os ∨ w.heap.size ≤ b) ∧ b ∉ os'' ∧ b < w'.heap.size) (r :: os'.map (·.2)) (v' :: os'.map (fun o => vs.getD o.1 undef)) os'') .ret a w' := by
    intro hfin
    unfold Am.fin at hfin
    split at hfin
    case h_2 => cases hfin
    rename_i ds hds
    split at hfin
    case h_2 => cases hfin
    rename_i l hpl hex
    split at hfin
    case isFalse => cases hfin
    rename_i hlen
    simp only [Option.some.injEq, Prod.mk.injEq] at hfin
    obtain ⟨hr, ho⟩ := hfin
    obtain ⟨rvs, hrun, hrl, hrm⟩ := results_sound rfl hR' hS' _ _ _ hrs hds
    have hres := run_results hrun
    have hel := expels_length hex
    rw [List.length_append] at hel
    have hsome := filterMap_full (s := s) (l := outs) (by omega)
    have hom := filterMap_vals hS' outs hsome
    have hall := MRs_append hrm hom
    obtain ⟨os'', hdr', hg⟩ := expels_sound hR' expel1 (fun hp hp' d e v hs hd he => expel1_sound hR' hs hd he) _ _ _ _ _ Sub.refl hall hex
    have hsplit : l = l.take ds.length ++ l.drop ds.length := (List.take_append_drop _ _).symm
    have hdl : ds.length = rvs.length := hrm.length.symm
    rw [hsplit] at hdr'
    obtain ⟨u, z, o1, o2, huz, rfl, hd1, hd2⟩ := DRs_append hdr'
    have hul : u.length = rvs.length := by
      rw [hd1.length, List.length_take]; omega
    obtain ⟨rfl, rfl⟩ := List.append_inj huz hul.symm
    have hown : ∀ b ∈ o1 ++ o2, (b ∈ os ∨ w.heap.size ≤ b) ∧ b < w'.heap.size := fun b hb => let ⟨id, h, _⟩ := hg.own b hb; hR'.own b ⟨id, h⟩
    have hk : Keep w' w' (Im B κ' s.hp w') (fun b => (I b ∨ b ∈ os ∨ w.heap.size ≤ b) ∧ b ∉ o1 ++ o2 ∧ b < w'.heap.size) :=
      ⟨fun b ⟨h1, h2, h3⟩ => ⟨h1, fun hb => let ⟨id, h, _⟩ := hg.own b hb; h3 ⟨id, h⟩, h2⟩, fun _ _ => rfl⟩
    refine ⟨hdf, _, hres, _, o1 ++ o2, rfl, hR'.stp, hg.nd, hown, ?_⟩
    simp only [DRs]
    have hd1' := DRs.mono hk _ _ _ (fun _ _ => rfl) hd1
    have hd2' := DRs.mono hk _ _ _ (fun _ _ => rfl) hd2
    refine ⟨_, _, o1, o2, rfl, rfl, ?_, ?_⟩
    · rw [← hr]
      have htl : (l.take ds.length).length = rvs.length := hd1.length.symm
      generalize hL : l.take ds.length = L at hd1' htl ⊢
      match L, rvs, htl, hd1' with
      | [], [], _, h => simp only [DR]; exact ⟨_, rfl, h⟩
      | [d], [v], _, h =>
        simp only [DRs] at h
        obtain ⟨v0, vs0, p, q, h1, h2, h3, h4, h5⟩ := h
        simp only [List.cons.injEq] at h1
        obtain ⟨rfl, rfl⟩ := h1
        subst h5
        rw [List.append_nil] at h2
        subst h2
        exact h3
      | d1 :: d2 :: L, v1 :: v2 :: rvs, _, h => simp only [DR]; exact ⟨_, rfl, h⟩
    · rw [← ho]
      have hdl2 : (l.drop ds.length).length = outs.length := by rw [List.length_drop]; omega
      have e1 : (outs.zip (l.drop ds.length)).map (·.2) = l.drop ds.length := by
        rw [List.map_snd_zip]; omega
      have e2 : (outs.zip (l.drop ds.length)).map (fun o => vs.getD o.1 undef) = outs.map (fun i => a.tmps.getD i undef) := by
        have : (outs.zip (l.drop ds.length)).map (fun o => vs.getD o.1 undef) = ((outs.zip (l.drop ds.length)).map (·.1)).map fun i => vs.getD i undef := by rw [List.map_map]; rfl
        rw [this, List.map_fst_zip (by omega)]
        refine List.map_congr_left fun i hi => ?_
        have := hS'.fx i hi
        simp only [B] at this
        simp only [Array.getD_eq_getD_getElem?, List.getD_eq_getElem?_getD, this]
      rw [e1, e2]
      exact hd2'
  cases e with
  | normal => exact fin hdone
  | exit id => exact hdone.elim
  | ret => exact fin hdone
end
end Go.Am
