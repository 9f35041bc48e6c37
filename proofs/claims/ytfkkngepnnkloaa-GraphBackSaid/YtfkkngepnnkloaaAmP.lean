/- A call of a function that has a contract. -/
import Derived.Test.YtfkkngepnnkloaaAmO
namespace Go.Am
open Go

section
variable {P : Program} {B : Base} {κ κ' : Nat → Option KI} {hp hp' : List (Nat × Ent)} {F : Nat → Prop} {w w' : World} {n n' : Nat} {d : D}

theorem lk_mem {α : Type} : ∀ {l : List (Nat × α)} {id : Nat} {a : α}, lk l id = some a → (id, a) ∈ l
  | [], _, _, h => by simp [lk] at h
  | (k, b) :: l, id, a, h => by
    simp only [lk] at h
    split at h
    · rename_i e; subst e; simp only [Option.some.injEq] at h; subst h; simp
    · exact List.mem_cons_of_mem _ (lk_mem h)
theorem lk_none_freeze (l : List Nat) : ∀ (hp : List (Nat × Ent)) (id : Nat), lk hp id = none → lk (freezeIds l hp) id = none := by
  induction l with
  | nil => intro hp id h; simpa [freezeIds] using h
  | cons i l ih =>
    intro hp id h
    simp only [freezeIds]
    cases hi : lk hp i with
    | none => exact ih hp id h
    | some e =>
      refine ih _ id ?_
      rw [lk_up]
      have : id ≠ i := fun e => by rw [e, hi] at h; cases h
      rw [if_neg this]; exact h
theorem lk_freeze_inv {l : List Nat} {id : Nat} {e : Ent} (h : lk (freezeIds l hp) id = some e) : ∃ e0, lk hp id = some e0 ∧ e = if id ∈ l then e0.frozen else e0 := by
  cases h0 : lk hp id with
  | none => rw [lk_none_freeze l hp id h0] at h; cases h
  | some e0 => rw [lk_freeze l hp id e0 h0] at h; simp only [Option.some.injEq] at h; exact ⟨e0, rfl, h.symm⟩
theorem filterMap_inj {α β : Type} {g : α → Option β} : ∀ {l : List α}, (l.filterMap g).Nodup → ∀ {a a' : α} {b : β}, a ∈ l → a' ∈ l → g a = some b → g a' = some b → a = a'
  | [], _, _, _, _, h, _, _, _ => by simp at h
  | x :: l, hn, a, a', b, h, h', g1, g2 => by
    simp only [List.filterMap_cons] at hn
    cases hx : g x with
    | none =>
      simp only [hx] at hn
      rcases List.mem_cons.1 h with rfl | h
      · rw [hx] at g1; cases g1
      · rcases List.mem_cons.1 h' with rfl | h'
        · rw [hx] at g2; cases g2
        · exact filterMap_inj hn h h' g1 g2
    | some y =>
      simp only [hx, List.nodup_cons] at hn
      rcases List.mem_cons.1 h with e | m <;> rcases List.mem_cons.1 h' with e' | m'
      · rw [e, e']
      · exfalso; rw [e, hx] at g1; cases g1; exact hn.1 (List.mem_filterMap.2 ⟨a', m', g2⟩)
      · exfalso; rw [e', hx] at g2; cases g2; exact hn.1 (List.mem_filterMap.2 ⟨a, m, g1⟩)
      · exact filterMap_inj hn.2 m m' g1 g2

theorem took_next (h : RH B κ hp F w) (hF : ∀ k, k < 64 → F (n + k)) (hs : Stp (fun _ => False) w w') {I0 : Nat → Prop} {E : List (Nat × Ent)} {os : List Nat} (ht : Took w' I0 κ κ' n n' E os) (hn : n' ≤ n + 64) (hnd : os.Nodup)
    (hos : ∀ b ∈ os, w.heap.size ≤ b ∧ b < w'.heap.size) {L : List Nat} (hI : ∀ b, I0 b → Im B κ' (E ++ freezeIds L hp) w' b) :
    RH B κ' (E ++ freezeIds L hp) (Fr F n) w' ∧ Nxt B κ κ' hp (E ++ freezeIds L hp) w w' := by
  obtain ⟨k1, k2⟩ := h.freezes L
  have hfree : ∀ id, n ≤ id → id < n' → κ id = none := fun id h1 h2 => by
    have := hF (id - n) (by omega)
    rw [show n + (id - n) = id from by omega] at this
    exact h.fr id this
  have kle := ht.kle hfree
  have look : ∀ id e, lk (E ++ freezeIds L hp) id = some e → (id, e) ∈ E ∨ lk (freezeIds L hp) id = some e := fun id e he => by
    rw [lk_append] at he
    cases hE : lk E id with
    | none => rw [hE] at he; exact .inr (by simpa using he)
    | some e' => rw [hE] at he; simp at he; subst he; exact .inl (lk_mem hE)
  have hob : ∀ id b, OB κ' (E ++ freezeIds L hp) id b → (∃ e, (id, e) ∈ E ∧ (κ' id).bind KI.blk = some b ∧ b ∈ os) ∨ OB κ (freezeIds L hp) id b := by
    rintro id b ⟨e, k, h1, h2, h3, h4⟩
    rcases look id e h1 with h1 | h1
    · have hb : (κ' id).bind KI.blk = some b := by rw [h3]; exact h4
      exact .inl ⟨e, h1, hb, by rw [← ht.blks]; exact List.mem_filterMap.2 ⟨(id, e), h1, hb⟩⟩
    · obtain ⟨k', hk'⟩ := k1.place h1
      have := kle _ _ hk'
      rw [h3] at this
      cases this
      exact .inr ⟨e, k, h1, h2, hk', h4⟩
  have res := k1.next (κ' := κ') (hp' := E ++ freezeIds L hp) (F' := Fr F n) (w' := w') kle (hs.mono fun _ _ h => h.elim) (fun b ⟨id, ho⟩ => by
      rcases hob id b ho with ⟨_, _, _, hb⟩ | ho
      · exact .inr (hos b hb).1
      · exact .inl ⟨id, ho⟩) (fun id hi => by
      rw [ht.out id (by have := hi.2; omega)]; exact h.fr id hi.1) (fun b ⟨id, ho⟩ => by
      rcases hob id b ho with ⟨_, _, _, hb⟩ | ho
      · exact (hos b hb).2
      · exact Nat.lt_of_lt_of_le (k1.own b ⟨id, ho⟩).2 hs.size) (fun keep id e he => by
      rcases look id e he with h1 | h1
      · exact .inr ((ht.ent _ h1).mono ⟨hI, fun _ _ => rfl⟩ (fun _ _ h => h) (fun _ _ _ _ _ => rfl))
      · exact .inl ⟨h1, fun ho q b hq hb => hs.block b (k1.own b ⟨id, _, _, h1, ho, hq, hb⟩).2 (fun h => h)⟩) (fun id id' b h1 h2 => by
      rcases hob id b h1 with ⟨e1, m1, b1, o1⟩ | g1 <;> rcases hob id' b h2 with ⟨e2, m2, b2, o2⟩ | g2
      · have := filterMap_inj (g := fun p : Nat × Ent => (κ' p.1).bind KI.blk) (l := E) (by have := ht.blks; unfold blks at this; rw [this]; exact hnd) m1 m2 b1 b2
        exact congrArg Prod.fst this
      · have := (k1.own b ⟨id', g2⟩).2; have := (hos b o1).1; omega
      · have := (k1.own b ⟨id, g1⟩).2; have := (hos b o2).1; omega
      · exact k1.inj _ _ _ g1 g2)
  exact ⟨res.1, k2.trans res.2⟩

/-- Without shared parts it does not matter what is only read. -/
theorem flat0_DR {I J : Nat → Prop} {v : Value} {os : List Nat} (hf : d.flat0 = true) (h : DR w I d v os) : DR w J d v os := by
  cases d <;> simp only [D.flat0, Bool.false_eq_true] at hf <;> simpa [DR] using h
theorem flat0s_PC {I J : Nat → Prop} : ∀ {cs : List D} {us : List Value}, cs.all D.flat0 = true → PC w I cs us → PC w J cs us
  | [], us, _, h => by simpa [PC] using h
  | c :: cs, us, hf, h => by
    simp only [List.all_cons, Bool.and_eq_true] at hf
    simp only [PC] at h ⊢
    obtain ⟨u, us', rfl, h1, h2, h3⟩ := h
    exact ⟨u, us', rfl, h1, flat0_DR hf.1 h2, flat0s_PC hf.2 h3⟩
theorem flatE_P1 {I J : Nat → Prop} {us : List Value} (hf : d.flatE = true) (h : P1 w I d us) : P1 w J d us := by
  cases d <;> simp only [D.flatE, D.flat0, Bool.false_eq_true] at hf <;> simp only [P1] at h ⊢
  · exact h
  · exact h
  · exact flat0s_PC hf h
theorem flatEs_PE {I J : Nat → Prop} {sz : Nat} : ∀ {xs : List D} {us : List Value}, xs.all D.flatE = true → PE w I sz xs us → PE w J sz xs us
  | [], us, _, h => by simpa [PE] using h
  | x :: xs, us, hf, h => by
    simp only [List.all_cons, Bool.and_eq_true] at hf
    simp only [PE] at h ⊢
    obtain ⟨u, us', rfl, h1, h2, h3⟩ := h
    exact ⟨u, us', rfl, h1, flatE_P1 hf.1 h2, flatEs_PE hf.2 h3⟩
theorem flat1_DR {I J : Nat → Prop} {v : Value} {os : List Nat} (hf : d.flat1 = true) (h : DR w I d v os) : DR w J d v os := by
  cases d <;> simp only [D.flat1] at hf
  case arr sz xs =>
    simp only [DR] at h ⊢
    refine ⟨h.1, h.2.imp (fun h => h) ?_⟩
    rintro ⟨b, cap, cur, e, us, h1, h2, h3, h4, h5, h6, h7, h8⟩
    exact ⟨b, cap, cur, e, us, h1, h2, h3, h4, h5, h6, h7, flatEs_PE hf h8⟩
  all_goals exact flat0_DR hf h
theorem flats_DRs {I J : Nat → Prop} {f : D → Bool} (hone : ∀ (d : D) (v : Value) (os : List Nat), f d = true → DR w I d v os → DR w J d v os) : ∀ {ds : List D} {vs : List Value} {os : List Nat}, ds.all f = true → DRs w I ds vs os → DRs w J ds vs os
  | [], _, _, _, h => by simpa [DRs] using h
  | d :: ds, vs, os, hf, h => by
    simp only [List.all_cons, Bool.and_eq_true] at hf
    simp only [DRs] at h ⊢
    obtain ⟨v, vs', o, o', rfl, rfl, h1, h2⟩ := h
    exact ⟨v, vs', o, o', rfl, rfl, hone d v o hf.1 h1, flats_DRs hone hf.2 h2⟩
theorem flat2_DR {I J : Nat → Prop} {v : Value} {os : List Nat} (hf : d.flat2 = true) (h : DR w I d v os) : DR w J d v os := by
  cases d <;> simp only [D.flat2] at hf
  case agg cs =>
    simp only [DR] at h ⊢
    obtain ⟨vs, h1, h2, h3⟩ := h
    exact ⟨vs, h1, h2, flats_DRs (fun d v os hf h => flat1_DR hf h) hf h3⟩
  case box cs =>
    simp only [DR] at h ⊢
    obtain ⟨b, cur, e, os', h1, h2, h3, h4, h5⟩ := h
    exact ⟨b, cur, e, os', h1, h2, h3, h4, flats_DRs (fun d v os hf h => flat1_DR hf h) hf h5⟩
  all_goals exact flat1_DR (by simpa only [D.flat1] using hf) h
theorem flat_DR {I J : Nat → Prop} {v : Value} {os : List Nat} (hf : d.flat = true) (h : DR w I d v os) : DR w J d v os := by
  cases d <;> simp only [D.flat] at hf
  case tup cs =>
    simp only [DR] at h ⊢
    obtain ⟨vs, h1, h3⟩ := h
    exact ⟨vs, h1, flats_DRs (fun d v os hf h => flat2_DR hf h) hf h3⟩
  all_goals exact flat2_DR (by simpa only [D.flat2] using hf) h

/-- As if nothing from `n` on were known yet. -/
theorem adopt_sound' {I : Nat → Prop} {v : Value} {os : List Nat} (ho : okA d = true) (h : DR w I d v os) :
    ∃ κ', Took w I κ κ' n (adopt n d).2.2 (adopt n d).2.1 os ∧ MR w I κ' (adopt n d).1 v := by
  let κ0 : Nat → Option KI := fun id => if id < n then κ id else none
  obtain ⟨κ1, t1, m1, f1⟩ := adopt_sound (κ := κ0) (n := n) ho h (fun id hi => by simp only [κ0]; rw [if_neg (by omega)])
  let κ2 : Nat → Option KI := fun id => if n ≤ id ∧ id < (adopt n d).2.2 then κ1 id else κ id
  have kle : Kle κ1 κ2 := fun id k hk => by
    simp only [κ2]
    by_cases hid : n ≤ id ∧ id < (adopt n d).2.2
    · rw [if_pos hid]; exact hk
    · rw [if_neg hid]
      rw [t1.out id (by omega)] at hk
      simp only [κ0] at hk
      split at hk
      · exact hk
      · cases hk
  refine ⟨κ2, ⟨t1.le, fun id hid => ?_, t1.ids, t1.nodup, t1.owned, ?_, fun p hp => ?_⟩, m1.mono ⟨fun _ h => h, fun _ _ => rfl⟩ kle _ _⟩
  · simp only [κ2]; rw [if_neg (by omega)]
  · have := t1.blks
    unfold blks at *
    rw [← this]
    exact filterMap_same fun p hp => by simp only [κ2]; rw [if_pos (t1.ids p hp)]
  · exact (t1.ent p hp).mono ⟨fun _ h => h, fun _ _ => rfl⟩ kle (fun _ _ _ _ _ => rfl)

/-- A call by its contract. -/
theorem call_sound (h : RH B κ hp F w) (hF : ∀ k, k < 64 → F (n + k)) {f : Nat} {ds : List D} {vs : List Value} {md : List Md} (hv : MRs w (Im B κ hp w) κ ds vs) {K : D × List (Nat × Ent) → Prop} (hc : callP P n hp f ds md K) :
    (∀ (vs : Array Value) (w : World), (callFunc f vs).run P w = .ok (.enter f vs) w) ∧
    Calls P f vs.toArray w fun e w' => ∃ v d hp' κ', e = .returned v ∧ K (d, hp') ∧ RH B κ' hp' (Fr F n) w' ∧ Nxt B κ κ' hp hp' w w' ∧ MR w' (Im B κ' hp' w') κ' d v := by
  unfold callP kon at hc
  split at hc
  case h_2 => exact hc.elim
  rename_i q hg
  unfold gives at hg
  split at hg
  case h_2 => cases hg
  cases hl : allO (lend hp) ds with
  | none => simp [hl] at hg
  | some args =>
  simp only [hl, Option.map_some, Option.some.injEq] at hg
  subst hg
  obtain ⟨fz, r, outs, hfc, ha⟩ := hc
  refine ⟨hfc.1, ?_⟩
  simp only at ha
  split at ha
  case h_2 => exact ha.elim
  rename_i dh hac
  obtain ⟨d, hp'⟩ := dh
  unfold afterCall at hac
  split at hac
  case isFalse => cases hac
  rename_i hcond
  obtain ⟨hmu, hok⟩ := hcond
  have houts : outs = [] := by simpa [muIdx] using hmu
  subst houts
  have hfree : ∀ id, n ≤ id → id < n + 64 → κ id = none := fun id h1 h2 => by
    have := hF (id - n) (by omega)
    rw [show n + (id - n) = id from by omega] at this
    exact h.fr id this
  split at hac
  · rename_i hflat
    rw [Bool.and_eq_true] at hflat
    replace hflat := hflat.2
    simp only [Bool.and_eq_true] at hflat
    simp only [takeBack] at hac
    split at hac
    case isFalse => cases hac
    rename_i hle
    simp only [Option.some.injEq, Prod.mk.injEq] at hac
    obtain ⟨rfl, rfl⟩ := hac
    have hargs := lends_sound h hv hl
    refine (hfc.2 w (Iall B w) vs [] (fun b hb => ⟨hb.2, by simp⟩) (by simp) (by simp) hargs).mono ?_
    rintro e w' ⟨v, os', rfl, hst, hnd, hos, hdr⟩
    simp only [List.map_nil, DRs] at hdr
    obtain ⟨v0, vs0, o, o', hveq, rfl, hdr, hvs0, ho0⟩ := hdr
    subst hvs0 ho0
    simp only [List.cons.injEq, and_true] at hveq
    subst hveq
    simp only [List.append_nil] at hnd hos hdr
    have hdr0 : DR w' (fun _ => False) r v o := flat_DR hflat.1 hdr
    obtain ⟨κ', ht, hm⟩ := adopt_sound' hok hdr0
    obtain ⟨g1, g2⟩ := took_next (L := []) h hF (hst.mono fun _ _ h => by simp at h) ht hle hnd (fun b hb => by have := hos b hb; simpa using this) (fun b hb => hb.elim)
    simp only [freezeIds] at g1 g2
    exact ⟨v, _, _, κ', rfl, ha, g1, g2, hm.mono ⟨fun _ h => h.elim, fun _ _ => rfl⟩ (fun _ _ h => h) _ _⟩
  · split at hac
    case isFalse => cases hac
    rename_i hno
    simp only [takeBack] at hac
    split at hac
    case isFalse => cases hac
    rename_i hle
    simp only [Option.some.injEq, Prod.mk.injEq] at hac
    obtain ⟨rfl, rfl⟩ := hac
    let Ic : Nat → Prop := fun b => Im B κ hp w b ∨ ∃ id ∈ ds.flatMap D.ids, ∃ sz xs, lk hp id = some (.arr sz xs) ∧ OB κ hp id b
    have hkeep : Keep w w (Im B κ hp w) Ic := ⟨fun _ h => .inl h, fun _ _ => rfl⟩
    have hrd : ∀ id ∈ ds.flatMap D.ids, Rd w Ic κ hp id := by
      intro id hid sz xs hl
      rcases hl with hl | hl
      · have hent := h.ent id _ hl
        simp only [ER] at hent
        refine ⟨hent.1, hent.2.imp (fun h => h) ?_⟩
        rintro ⟨b, tot, cur, ty, us, k1, k2, k3, k4, k5⟩
        exact ⟨b, tot, us, k1, .inr ⟨id, hid, sz, xs, hl, _, _, hl, rfl, k1, rfl⟩, k4, PE.mono hkeep _ _ _ k5⟩
      · have hent := h.ent id _ hl
        simp only [ER] at hent
        refine ⟨hent.1, hent.2.imp (fun h => h) ?_⟩
        rintro ⟨b, tot, us, k1, k2, k4, k5⟩
        exact ⟨b, tot, us, k1, .inl k2, k4, PE.mono hkeep _ _ _ k5⟩
    have hargs := lendsNo_sound hkeep hrd hv hno hl
    have hIc : ∀ b, Ic b → (B.I b ∨ b ∈ B.os ∨ B.w.heap.size ≤ b) ∧ b < w.heap.size := by
      rintro b (hb | ⟨id, _, _, _, _, ho⟩)
      · exact ⟨hb.1, hb.2.1⟩
      · exact ⟨(h.own b ⟨id, ho⟩).1.elim (fun g => .inr (.inl g)) (fun g => .inr (.inr g)), (h.own b ⟨id, ho⟩).2⟩
    refine (hfc.2 w Ic vs [] (fun b hb => ⟨(hIc b hb).2, by simp⟩) (by simp) (by simp) hargs).mono ?_
    rintro e w' ⟨v, os', rfl, hst, hnd, hos, hdr⟩
    simp only [List.map_nil, DRs] at hdr
    obtain ⟨v0, vs0, o, o', hveq, rfl, hdr, hvs0, ho0⟩ := hdr
    subst hvs0 ho0
    simp only [List.cons.injEq, and_true] at hveq
    subst hveq
    simp only [List.append_nil] at hnd hos hdr
    obtain ⟨κ', ht, hm⟩ := adopt_sound' hok hdr
    have kle := ht.kle (fun id h1 h2 => hfree id h1 (by omega))
    have hI : ∀ b, ((Ic b ∨ b ∈ ([] : List Nat) ∨ w.heap.size ≤ b) ∧ b ∉ o ∧ b < w'.heap.size) → Im B κ' ((adopt n r).2.1 ++ freezeIds (ds.flatMap D.ids) hp) w' b := by
      rintro b ⟨hb, hno, hlt⟩
      refine ⟨?_, hlt, ?_⟩
      · rcases hb with hb | hb | hb
        · exact (hIc b hb).1
        · simp at hb
        · exact .inr (.inr (Nat.le_trans h.stp.size hb))
      · rintro ⟨id, e, k, h1, h2, h3, h4⟩
        rw [lk_append] at h1
        cases hE : lk (adopt n r).2.1 id with
        | some e' =>
          apply hno
          rw [← ht.blks]
          exact List.mem_filterMap.2 ⟨(id, e'), lk_mem hE, by rw [h3]; exact h4⟩
        | none =>
          rw [hE] at h1
          simp only [Option.none_or] at h1
          obtain ⟨e0, h0, he⟩ := lk_freeze_inv h1
          obtain ⟨k', hk'⟩ := h.place h0
          have := kle _ _ hk'
          rw [h3] at this
          cases this
          have how : e0.owned = true := by
            rw [he] at h2
            split at h2
            · cases e0 <;> simp [Ent.frozen, Ent.owned] at h2 ⊢
            · exact h2
          have hob : OB κ hp id b := ⟨e0, k, h0, how, hk', h4⟩
          have hblt := (h.own b ⟨id, hob⟩).2
          rcases hb with (hb | ⟨id0, hid0, sz, xs, hl0, ho0⟩) | hb | hb
          · exact hb.2.2 ⟨id, hob⟩
          · have := h.inj _ _ _ hob ho0
            subst this
            rw [hl0] at h0
            cases h0
            rw [if_pos hid0] at he
            subst he
            simp [Ent.frozen, Ent.owned] at h2
          · simp at hb
          · omega
    obtain ⟨g1, g2⟩ := took_next (L := ds.flatMap D.ids) h hF (hst.mono fun _ _ h => by simp at h) ht hle hnd (fun b hb => by have := hos b hb; simpa using this) hI
    exact ⟨v, _, _, κ', rfl, ha, g1, g2, hm.mono ⟨hI, fun _ _ => rfl⟩ (fun _ _ h => h) _ _⟩
end
end Go.Am
