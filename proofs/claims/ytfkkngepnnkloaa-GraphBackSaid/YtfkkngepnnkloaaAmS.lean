/- What an instruction reads and changes; runs of a region of open order. -/
import Derived.Test.YtfkkngepnnkloaaAmR
namespace Go.Am
open Go

section
variable {hp hp2 hp' : List (Nat × Ent)} {sl sl2 : List (Nat × D)} {d : D} {n : Nat}

theorem buildGo_sl : ∀ {ps : List (Nat × Nat × X)} {cs : List D}, (∀ p ∈ ps, ev sl2 p.2.2 = ev sl p.2.2) → buildGo sl2 ps cs = buildGo sl ps cs
  | [], _, _ => rfl
  | (a, b, x) :: ps, cs, h => by
    simp only [buildGo, h (a, b, x) (by simp)]
    split
    · split
      · exact buildGo_sl fun p hp => h p (List.mem_cons_of_mem _ hp)
      · rfl
    · rfl
theorem buildSlGo_sl {sz : Nat} : ∀ {ps : List (Nat × X)} {es : List D}, (∀ p ∈ ps, ev sl2 p.2 = ev sl p.2) → buildSlGo sl2 hp sz ps es = buildSlGo sl hp sz ps es
  | [], _, _ => rfl
  | (a, x) :: ps, es, h => by
    simp only [buildSlGo, h (a, x) (by simp)]
    split
    · split
      · split
        · rw [buildSlGo_sl fun p hp => h p (List.mem_cons_of_mem _ hp)]
        · rfl
      · rfl
    · rfl
theorem optI_sl {d0 : Int} {x : Option X} (h : ∀ y ∈ x.toList, ev sl2 y = ev sl y) : optI sl2 d0 x = optI sl d0 x := by
  cases x with
  | none => rfl
  | some y => simp only [optI, h y (by simp)]
theorem eff_sl {op : LOp} (h : ∀ x ∈ op.xs, ev sl2 x = ev sl x) : eff n sl2 hp op = eff n sl hp op := by
  cases op <;> simp only [LOp.xs, List.mem_cons, List.not_mem_nil, or_false, forall_eq_or_imp, forall_eq, List.mem_append, List.mem_map, forall_exists_index, and_imp, forall_apply_eq_imp_iff₂] at h
  case build z ps => simp only [eff, buildGo_sl (fun p hp => h p hp)]
  case buildSl s b z m ps => simp only [eff, buildSlGo_sl (fun p hp => h p hp)]
  case slc s x lo hi => simp only [eff, h.1, optI_sl (fun y hy => h.2 y (.inl hy)), optI_sl (fun y hy => h.2 y (.inr hy))]
  case mkf f l => simp only [eff, allO_congr h]
  case mn l => simp only [eff, allO_congr h]
  case mx l => simp only [eff, allO_congr h]
  case call => simp only [eff]
  case callv => simp only [eff]
  all_goals first | rfl | simp only [eff, h]

theorem adopt0_rng : n ≤ (adopt0 n d).2.2 ∧ ∀ p ∈ (adopt0 n d).2.1, n ≤ p.1 ∧ p.1 < (adopt0 n d).2.2 := by
  cases d <;> simp [adopt0]
theorem adopts_rng {f : Nat → D → D × List (Nat × Ent) × Nat} (hf : ∀ n d, n ≤ (f n d).2.2 ∧ ∀ p ∈ (f n d).2.1, n ≤ p.1 ∧ p.1 < (f n d).2.2) :
    ∀ {ds : List D} {n : Nat}, n ≤ (adopts f n ds).2.2 ∧ ∀ p ∈ (adopts f n ds).2.1, n ≤ p.1 ∧ p.1 < (adopts f n ds).2.2
  | [], n => by simp [adopts]
  | d :: ds, n => by
    obtain ⟨h1, h2⟩ := hf n d
    obtain ⟨h3, h4⟩ := adopts_rng hf (ds := ds) (n := (f n d).2.2)
    simp only [adopts]
    refine ⟨Nat.le_trans h1 h3, fun p hp => ?_⟩
    rcases List.mem_append.1 hp with hp | hp
    · exact ⟨(h2 p hp).1, Nat.lt_of_lt_of_le (h2 p hp).2 h3⟩
    · exact ⟨Nat.le_trans h1 (h4 p hp).1, (h4 p hp).2⟩
theorem adopt1_rng : n ≤ (adopt1 n d).2.2 ∧ ∀ p ∈ (adopt1 n d).2.1, n ≤ p.1 ∧ p.1 < (adopt1 n d).2.2 := by
  cases d <;> simp only [adopt1]
  case agg cs => exact adopts_rng (fun n d => adopt0_rng)
  case box cs =>
    obtain ⟨h1, h2⟩ := adopts_rng (f := adopt0) (fun n d => adopt0_rng) (ds := cs) (n := n + 1)
    refine ⟨by omega, fun p hp => ?_⟩
    rcases List.mem_cons.1 hp with rfl | hp
    · simp only; omega
    · have := h2 p hp; omega
  all_goals exact adopt0_rng
theorem adopt_rng : n ≤ (adopt n d).2.2 ∧ ∀ p ∈ (adopt n d).2.1, n ≤ p.1 ∧ p.1 < (adopt n d).2.2 := by
  cases d <;> simp only [adopt]
  case tup cs => exact adopts_rng (fun n d => adopt1_rng)
  all_goals exact adopt1_rng

theorem callP_frame {P : Program} {f : Nat} {ds : List D} {md : List Md} (hk : callP P n hp f ds md (· = (d, hp'))) :
    ∃ T, hp' = T hp ∧ Loc (fun id => id ∈ ds.flatMap D.ids ∨ (n ≤ id ∧ id < n + 64)) T ∧
    (∀ id ∈ ds.flatMap (D.rch hp), lk hp id ≠ none) ∧ ∀ hp2, (∀ id ∈ ds.flatMap (D.rch hp), lk hp2 id = lk hp id) → callP P n hp2 f ds md (· = (d, T hp2)) := by
  unfold callP kon at hk
  split at hk
  case h_2 => exact hk.elim
  rename_i q hg
  unfold gives at hg
  split at hg
  case h_2 => cases hg
  cases hl : allO (lend hp) ds with
  | none => simp [hl] at hg
  | some args =>
  simp only [hl, Option.map_some, Option.some.injEq] at hg
  subst hg
  obtain ⟨fz, r, outs, hfc, ha⟩ := hk
  simp only at ha
  split at ha
  case h_2 => exact ha.elim
  rename_i dh hac
  subst ha
  unfold afterCall at hac
  split at hac
  case isFalse => cases hac
  rename_i hcond
  have houts : outs = [] := by simpa [muIdx] using hcond.1
  subst houts
  have hpre : ∀ id ∈ ds.flatMap (D.rch hp), lk hp id ≠ none := by
    intro id hid
    obtain ⟨c, hc, hi⟩ := List.mem_flatMap.1 hid
    obtain ⟨e, he⟩ := allO_mem hl c hc
    exact lend_pres he id hi
  have hl2 : ∀ hp2, (∀ id ∈ ds.flatMap (D.rch hp), lk hp2 id = lk hp id) → allO (lend hp2) ds = some args := by
    intro hp2 hh
    rw [allO_congr fun c hc => lend_agr fun id hid => hh id (List.mem_flatMap.2 ⟨c, hc, hid⟩)]
    exact hl
  split at hac
  · rename_i hflat
    simp only [takeBack] at hac
    split at hac
    case isFalse => cases hac
    rename_i hle
    simp only [Option.some.injEq, Prod.mk.injEq] at hac
    obtain ⟨rfl, rfl⟩ := hac
    refine ⟨fun hp => (adopt n r).2.1 ++ hp, rfl, Loc.app fun p hp => .inr ?_, hpre, fun hp2 hh => ?_⟩
    · have := adopt_rng.2 p hp; omega
    · simp only [callP, gives, hl2 hp2 hh, Option.map_some, kon]
      refine ⟨fz, r, [], hfc, ?_⟩
      simp only [afterCall, takeBack]
      rw [if_pos hcond, if_pos hflat, if_pos hle]
  · rename_i hflat
    split at hac
    case isFalse => cases hac
    rename_i hno
    simp only [takeBack] at hac
    split at hac
    case isFalse => cases hac
    rename_i hle
    simp only [Option.some.injEq, Prod.mk.injEq] at hac
    obtain ⟨rfl, rfl⟩ := hac
    refine ⟨fun hp => (adopt n r).2.1 ++ freezeIds (ds.flatMap D.ids) hp, rfl, Loc.comp (Loc.app fun p hp => .inr ?_) (Loc.freeze fun id hid => .inl hid), hpre, fun hp2 hh => ?_⟩
    · have := adopt_rng.2 p hp; omega
    · simp only [callP, gives, hl2 hp2 hh, Option.map_some, kon]
      refine ⟨fz, r, [], hfc, ?_⟩
      simp only [afterCall, takeBack]
      rw [if_pos hcond, if_neg hflat, if_pos hno, if_pos hle]
end

/-- Where an instruction acts. -/
def Fp (n : Nat) (ck : Bool) (mu : List Nat) (id : Nat) : Prop := id ∈ mu ∨ (ck = true ∧ n ≤ id ∧ id < n + 64)

theorem evs_flat {sl : List (Nat × D)} {g : D → List Nat} : ∀ {l : List X} {ds : List D}, allO (ev sl) l = some ds → (l.flatMap fun x => g (evL sl x)) = ds.flatMap g
  | [], ds, h => by simp only [allO, Option.some.injEq] at h; subst h; rfl
  | x :: l, ds, h => by
    simp only [allO] at h
    split at h
    case h_2 => cases h
    rename_i d es hd hes
    simp only [Option.some.injEq] at h
    subst h
    simp only [List.flatMap_cons, evL_of hd, evs_flat hes]
theorem kon_eq {α : Type} {o : Option α} {f : α → Prop} (h : kon o f) : ∃ a, o = some a ∧ f a := by
  cases o
  · exact h.elim
  · exact ⟨_, rfl, h⟩
theorem callP_ex {P : Program} {n : Nat} {hp : List (Nat × Ent)} {f : Nat} {ds : List D} {md : List Md} {K : D × List (Nat × Ent) → Prop} (hk : callP P n hp f ds md K) : ∃ p, K p ∧ callP P n hp f ds md (· = p) := by
  obtain ⟨q, hq, fz, r, outs, hfc, ha⟩ := kon_eq hk
  obtain ⟨p, hp, hK⟩ := kon_eq ha
  refine ⟨p, hK, ?_⟩
  simp only [callP, hq, kon]
  exact ⟨fz, r, outs, hfc, by simp only [hp]⟩

section
variable {P : Program} {n : Nat} {s s1 : St} {op : LOp} {dst : Option Nat} {g : Option (Nat × Bool)}

theorem actP_frame {K : St → Prop} (hdet : op.det = true) (hk : actP P n ⟨dst, op, g⟩ s K) : ∃ d T, K ⟨putd dst d s.sl, T s.hp, s.nx⟩ ∧ Loc (Fp n op.ck (muI s.sl op)) T ∧ (∀ id ∈ rdI s.sl s.hp op, lk s.hp id ≠ none) ∧
    ∀ sl2 hp2 nx2, (∀ x ∈ op.xs, ev sl2 x = ev s.sl x) → (∀ id ∈ rdI s.sl s.hp op, lk hp2 id = lk s.hp id) → actP P n ⟨dst, op, g⟩ ⟨sl2, hp2, nx2⟩ (· = ⟨putd dst d sl2, T hp2, nx2⟩) := by
  obtain ⟨sl, hp, nx⟩ := s
  have eff_case : (∀ f l m, op ≠ .call f l m) → (∀ x l, op ≠ .callv x l) → (∀ g x, op ≠ .isnil g x) → ∃ d T, K ⟨putd dst d sl, T hp, nx⟩ ∧ Loc (Fp n op.ck (muI sl op)) T ∧ (∀ id ∈ rdI sl hp op, lk hp id ≠ none) ∧
    ∀ sl2 hp2 nx2, (∀ x ∈ op.xs, ev sl2 x = ev sl x) → (∀ id ∈ rdI sl hp op, lk hp2 id = lk hp id) → actP P n ⟨dst, op, g⟩ ⟨sl2, hp2, nx2⟩ (· = ⟨putd dst d sl2, T hp2, nx2⟩) := by
    intro h1 h2 h3
    have e : ∀ (sl : List (Nat × D)) hp nx (K : St → Prop), actP P n ⟨dst, op, g⟩ ⟨sl, hp, nx⟩ K = kon (eff n sl hp op) fun p => K ⟨putd dst p.1 sl, p.2, nx⟩ := by
      intro sl hp nx K
      unfold actP
      cases op <;> first | rfl | exact absurd rfl (h1 _ _ _) | exact absurd rfl (h2 _ _) | exact absurd rfl (h3 _ _)
    rw [e] at hk
    obtain ⟨⟨d, hp'⟩, he, hK⟩ := kon_eq hk
    obtain ⟨T, rfl, hT, hp, hf⟩ := eff_frame he
    refine ⟨d, T, hK, hT, hp, fun sl2 hp2 nx2 hx hh => ?_⟩
    rw [e, eff_sl hx, hf hp2 hh]
    rfl
  cases op with
  | call f l md =>
    simp only [actP] at hk
    obtain ⟨ds, hds, hc⟩ := kon_eq hk
    obtain ⟨⟨d, hp'⟩, hK, hc⟩ := callP_ex hc
    obtain ⟨T, rfl, hT, hpre, hf⟩ := callP_frame hc
    have e1 : muI sl (.call f l md) = ds.flatMap D.ids := evs_flat hds
    have e2 : rdI sl hp (.call f l md) = ds.flatMap (D.rch hp) := evs_flat hds
    refine ⟨d, T, hK, ?_, ?_, fun sl2 hp2 nx2 hx hh => ?_⟩
    · unfold Fp; rw [e1]; simpa [LOp.ck] using hT
    · rw [e2]; exact hpre
    · simp only [actP]
      rw [allO_congr (l := l) (f := ev sl2) (g := ev sl) (fun x h => hx x h), hds]
      rw [e2] at hh
      exact callP_mono (fun p hp => by rw [hp]) (hf hp2 hh)
  | callv x l =>
    simp only [actP] at hk
    obtain ⟨c, hc0, hk⟩ := kon_eq hk
    obtain ⟨ds, hds, hc⟩ := kon_eq hk
    obtain ⟨⟨d, hp'⟩, hK, hc⟩ := callP_ex hc
    obtain ⟨T, rfl, hT, hpre, hf⟩ := callP_frame hc
    have hcap : capsOf (evL sl x) = c.2 := by
      cases hx : ev sl x with
      | none => rw [hx] at hc0; cases hc0
      | some e =>
        rw [hx, Option.bind_some] at hc0
        rw [evL_of hx]
        cases e <;> simp only [asClo, Option.some.injEq, reduceCtorEq] at hc0
        subst hc0
        rfl
    have e1 : muI sl (.callv x l) = (ds ++ c.2).flatMap D.ids := by rw [List.flatMap_append, ← evs_flat hds, ← hcap]; rfl
    have e2 : rdI sl hp (.callv x l) = (ds ++ c.2).flatMap (D.rch hp) := by rw [List.flatMap_append, ← evs_flat hds, ← hcap]; rfl
    refine ⟨d, T, hK, ?_, ?_, fun sl2 hp2 nx2 hx hh => ?_⟩
    · unfold Fp; rw [e1]; simpa [LOp.ck] using hT
    · rw [e2]; exact hpre
    · simp only [actP]
      rw [hx x (by simp [LOp.xs]), hc0, allO_congr (f := ev sl2) (g := ev sl) (fun y h => hx y (by simp [LOp.xs, h])), hds]
      rw [e2] at hh
      exact callP_mono (fun p hp => by rw [hp]) (hf hp2 hh)
  | isnil g x => simp [LOp.det] at hdet
  | _ => exact eff_case (fun _ _ _ => by simp) (fun _ _ => by simp) (fun _ _ => by simp)

theorem ev_reads {li : LI} {sl sl2 : List (Nat × D)} (h : ∀ t ∈ li.reads, lk sl2 t = lk sl t) : ∀ x ∈ li.op.xs, ev sl2 x = ev sl x := by
  intro x hx
  cases x with
  | t t => exact h t (List.mem_append_left _ (List.mem_flatMap.2 ⟨_, hx, by simp [X.slots]⟩))
  | k d => rfl

theorem mu_rd {sl : List (Nat × D)} {hp : List (Nat × Ent)} {op : LOp} : ∀ id ∈ muI sl op, id ∈ rdI sl hp op := by
  have one : ∀ d : D, ∀ id ∈ d.ids, id ∈ d.rch hp := by
    intro d id
    cases d <;> simp [D.ids, D.rch, D.rch1, D.ids0]
  intro id h
  cases op <;> simp only [muI, List.not_mem_nil, List.mem_append, List.mem_flatMap] at h
  case store m a x => simpa only [rdI] using h
  case app s b x y => simp only [rdI, List.mem_append]; exact .inl h
  case buildSl s b z m ps => simpa only [rdI, List.mem_flatMap] using h
  case call f l md =>
    obtain ⟨x, hx, hi⟩ := h
    simp only [rdI, List.mem_flatMap]
    exact ⟨x, hx, one _ _ hi⟩
  case callv x l =>
    simp only [rdI, List.mem_append, List.mem_flatMap]
    rcases h with ⟨x, hx, hi⟩ | ⟨x, hx, hi⟩
    · exact .inl ⟨x, hx, one _ _ hi⟩
    · exact .inr ⟨x, hx, one _ _ hi⟩

/-- What an instruction did, what it read and what it changed. -/
structure Fra (P : Program) (n : Nat) (li : LI) (s : St) (d : D) (T : List (Nat × Ent) → List (Nat × Ent)) (rd mu : List Nat) : Prop where
  loc : Loc (Fp n li.op.ck mu) T
  pre : ∀ id ∈ rd, lk s.hp id ≠ none ∧ id ∈ rdI s.sl s.hp li.op
  mu : ∀ id ∈ mu, id ∈ rd ∧ id ∈ muI s.sl li.op
  go (sl2 : List (Nat × D)) (hp2 : List (Nat × Ent)) (nx2 : Nat) : (∀ t ∈ li.reads, lk sl2 t = lk s.sl t) → (∀ id ∈ rd, lk hp2 id = lk s.hp id) → stepP P n li ⟨sl2, hp2, nx2⟩ (· = ⟨putd li.dst d sl2, T hp2, nx2⟩)

theorem stepP_frame {li : LI} {K : St → Prop} (hdet : li.op.det = true) (hk : stepP P n li s K) : ∃ d T rd mu, K ⟨putd li.dst d s.sl, T s.hp, s.nx⟩ ∧ Fra P n li s d T rd mu := by
  obtain ⟨dst, op, g⟩ := li
  have act : actP P n ⟨dst, op, g⟩ s K → (∀ (sl2 : List (Nat × D)) (hp2 : List (Nat × Ent)) (nx2 : Nat) (K' : St → Prop), (∀ t ∈ LI.reads ⟨dst, op, g⟩, lk sl2 t = lk s.sl t) → actP P n ⟨dst, op, g⟩ ⟨sl2, hp2, nx2⟩ K' → stepP P n ⟨dst, op, g⟩ ⟨sl2, hp2, nx2⟩ K') →
      ∃ d T rd mu, K ⟨putd dst d s.sl, T s.hp, s.nx⟩ ∧ Fra P n ⟨dst, op, g⟩ s d T rd mu := fun hk hg => by
    obtain ⟨d, T, h1, h2, h3, h4⟩ := actP_frame hdet hk
    exact ⟨d, T, _, _, h1, h2, fun id hid => ⟨h3 id hid, hid⟩, fun id hid => ⟨mu_rd id hid, hid⟩, fun sl2 hp2 nx2 hs hh => hg _ _ _ _ hs (h4 sl2 hp2 nx2 (ev_reads hs) hh)⟩
  have skip : K ⟨putd dst .undef s.sl, s.hp, s.nx⟩ → (∀ (sl2 : List (Nat × D)) (hp2 : List (Nat × Ent)) (nx2 : Nat) (K' : St → Prop), (∀ t ∈ LI.reads ⟨dst, op, g⟩, lk sl2 t = lk s.sl t) → K' ⟨putd dst .undef sl2, hp2, nx2⟩ → stepP P n ⟨dst, op, g⟩ ⟨sl2, hp2, nx2⟩ K') →
      ∃ d T rd mu, K ⟨putd dst d s.sl, T s.hp, s.nx⟩ ∧ Fra P n ⟨dst, op, g⟩ s d T rd mu := fun hk hg =>
    ⟨.undef, fun l => l, [], [], hk, Loc.id, by simp, by simp, fun sl2 hp2 nx2 hs _ => hg _ _ _ _ hs rfl⟩
  cases g with
  | none => exact act hk fun sl2 hp2 nx2 K' _ h => h
  | some tw =>
    obtain ⟨t, w⟩ := tw
    have ht : t ∈ LI.reads ⟨dst, op, some (t, w)⟩ := by simp [LI.reads]
    have bc : ∀ {o : Option D} {p q r : Prop}, brang o p q r → (∃ c : Bool, o = some (.bool c) ∧ (c = true → p) ∧ (c = false → q)) ∨ (o = some .undef ∧ r) := by
      intro o p q r hb
      unfold brang at hb
      split at hb
      · exact .inl ⟨_, rfl, hb.1, hb.2⟩
      · exact .inr ⟨rfl, hb⟩
      · exact hb.elim
    cases w with
    | true =>
      simp only [stepP] at hk
      rcases bc hk with ⟨c, hc, h1, h2⟩ | ⟨hc, h0⟩
      · cases c
        · refine skip (h2 rfl) fun sl2 hp2 nx2 K' hs h => ?_
          simp only [stepP, hs t ht, hc, brang]
          simp [h]
        · refine act (h1 rfl) fun sl2 hp2 nx2 K' hs h => ?_
          simp only [stepP, hs t ht, hc, brang]
          simp [h]
      · refine skip h0 fun sl2 hp2 nx2 K' hs h => ?_
        simp only [stepP, hs t ht, hc, brang]
        exact h
    | false =>
      simp only [stepP] at hk
      rcases bc hk with ⟨c, hc, h1, h2⟩ | ⟨hc, h0⟩
      · cases c
        · refine act (h2 rfl) fun sl2 hp2 nx2 K' hs h => ?_
          simp only [stepP, hs t ht, hc, brang]
          simp [h]
        · refine skip (h1 rfl) fun sl2 hp2 nx2 K' hs h => ?_
          simp only [stepP, hs t ht, hc, brang]
          simp [h]
      · refine skip h0 fun sl2 hp2 nx2 K' hs h => ?_
        simp only [stepP, hs t ht, hc, brang]
        exact h
end
end Go.Am
