/- Entries that are handed over for good; arguments of a call. -/
import Derived.Test.YtkllpeebnabdiaaAmO
namespace Go.Am
set_option linter.unusedVariables false
set_option linter.unusedSimpArgs false
set_option linter.unnecessarySimpa false
open Go
abbrev Hp := List (Nat × Ent)

section
variable {P : Program} {B : Base} {κ : Nat → Option KI} {hp0 hp hp' hp'' : Hp} {F : Nat → Prop} {w : World} {d e : D} {v : Value}

def Sub (hp hp0 : Hp) : Prop := ∀ id e, lk hp id = some e → lk hp0 id = some e
theorem Sub.ob (h : Sub hp hp0) {id b : Nat} (ho : OB κ hp id b) : OB κ hp0 id b := let ⟨e, k, h1, h2⟩ := ho; ⟨e, k, h _ _ h1, h2⟩
theorem Sub.trans {hp1 : Hp} (h : Sub hp hp1) (k : Sub hp1 hp0) : Sub hp hp0 := fun id e he => k id e (h id e he)

/-- Blocks that went with entries. -/
structure Gone (κ : Nat → Option KI) (hp hp' : Hp) (os : List Nat) : Prop where
  sub : Sub hp' hp
  nd : os.Nodup
  own : ∀ b ∈ os, ∃ id, OB κ hp id b ∧ lk hp' id = none
theorem Gone.none : Gone κ hp hp [] := ⟨fun _ _ h => h, List.nodup_nil, by simp⟩
theorem Gone.trans (h : RH B κ hp0 F w) (hs : Sub hp hp0) {os os' : List Nat} (g : Gone κ hp hp' os) (k : Gone κ hp' hp'' os') : Gone κ hp hp'' (os ++ os') := by
  refine ⟨k.sub.trans g.sub, ?_, fun b hb => ?_⟩
  · rw [List.nodup_append]
    refine ⟨g.nd, k.nd, fun a ha b hb hab => ?_⟩
    subst hab
    obtain ⟨i, h1, h2⟩ := g.own a ha
    obtain ⟨j, h3, h4⟩ := k.own a hb
    have := h.inj _ _ _ (hs.ob h1) ((g.sub.trans hs).ob h3)
    subst this
    obtain ⟨e, q, h5, _⟩ := h3
    rw [h2] at h5; cases h5
  · rcases List.mem_append.1 hb with hb | hb
    · obtain ⟨i, h1, h2⟩ := g.own b hb
      refine ⟨i, h1, ?_⟩
      cases hl : lk hp'' i with
      | none => rfl
      | some e => rw [k.sub i e hl] at h2; cases h2
    · obtain ⟨i, h1, h2⟩ := k.own b hb
      exact ⟨i, g.sub.ob h1, h2⟩
theorem Gone.rm {id b : Nat} (ho : OB κ hp id b) : Gone κ hp (rm hp id) [b] :=
  ⟨fun i e he => by rw [lk_rm] at he; split at he; cases he; exact he, by simp, fun b' hb => by simp at hb; subst hb; exact ⟨id, ho, by rw [lk_rm, if_pos rfl]⟩⟩
theorem Gone.rmNone {id : Nat} : Gone κ hp (Am.rm hp id) [] :=
  ⟨fun i e he => by rw [lk_rm] at he; split at he; cases he; exact he, by simp, by simp⟩

theorem PE.take' {I : Nat → Prop} {sz : Nat} {xs : List D} {us : List Value} {b off : Nat} (lo len : Nat) (h : PE w I sz xs us) (hm : Mem w b off us) : ∃ us', Mem w b (off + (xs.take lo).length * sz) us' ∧ PE w I sz ((xs.drop lo).take len) us' := by
  obtain ⟨u, v, rfl, h1, h2⟩ := h.take lo
  obtain ⟨u2, v2, rfl, h3, h4⟩ := h2.take len
  have hm2 := (Mem.append.1 hm).2
  rw [h1.length] at hm2
  exact ⟨u2, (Mem.append.1 hm2).1, h3⟩

/-- A slice of an entry that is only read. -/
theorem lst_of_imm (h : RH B κ hp0 F w) {id lo len sz : Nat} {xs : List D} (he : lk hp0 id = some (.imm sz xs)) (hd : MR w (Im B κ hp0 w) κ (.sl id lo len) v) (hle : lo + len ≤ xs.length) :
    DR w (Im B κ hp0 w) (.lst sz ((xs.drop lo).take len)) v [] := by
  have hent := h.ent id _ he
  simp only [ER] at hent
  simp only [MR] at hd
  have hlen : ((xs.drop lo).take len).length = len := by simp; omega
  simp only [DR]
  refine ⟨trivial, by rw [hlen]; omega, ?_⟩
  rcases hd with ⟨sz', h1, rfl, rfl, rfl⟩ | ⟨b, sz', tot, off, cap, h1, rfl, h2, h3, h4, h5⟩
  · exact .inl ⟨rfl, by simp⟩
  · rcases hent.2 with ⟨g1, rfl⟩ | ⟨b', tot', us, g1, g2, g3, g4⟩
    · rw [h1] at g1; cases g1
    · rw [h1] at g1
      cases g1
      by_cases hz : 0 < len
      · have ho := h5 (.inl hz)
        obtain ⟨us', k1, k2⟩ := g4.take' lo len g3
        refine .inr ⟨b, off, cap, us', by rw [hlen], by rw [hlen]; exact h2, h3, g2, ?_, k2⟩
        have : (xs.take lo).length = lo := by simp; omega
        rw [this] at k1
        rw [ho]
        simpa using k1
      · have : len = 0 := by omega
        subst this
        exact .inr ⟨b, off, cap, [], by simp, by simp, h3, g2, Mem.nil, by simp [PE]⟩

theorem expel0_sound (h : RH B κ hp0 F w) (hs : Sub hp hp0) (hd : MR w (Im B κ hp0 w) κ d v) (he : expel0 hp d = some (e, hp')) : ∃ os, DR w (Im B κ hp0 w) e v os ∧ Gone κ hp hp' os := by
  cases d <;> simp only [expel0, reduceCtorEq] at he
  case sl id lo len =>
    split at he
    · rename_i sz xs hl
      split at he
      case isFalse => cases he
      rename_i hlo
      subst hlo
      have hent := h.ent id _ (hs _ _ hl)
      simp only [ER] at hent
      have key : ∀ ys : List D, ys.length = len → (∃ zs, xs = ys ++ zs) → ∃ os, DR w (Im B κ hp0 w) (.arr sz ys) v os ∧ Gone κ hp (rm hp id) os := by
        rintro ys hys ⟨zs, rfl⟩
        simp only [MR] at hd
        simp only [DR]
        have hmax := hent.1
        rw [List.length_append] at hmax
        rcases hent.2 with ⟨g1, g2⟩ | ⟨b, tot, cur, ty, us, g1, g2, g3, g4, g5⟩
        · have hy : ys = [] := (List.append_eq_nil_iff.1 g2).1
          subst hy
          simp only [List.length_nil] at hys
          rcases hd with ⟨sz', h1, rfl, _, _⟩ | ⟨b, sz', tot, off, cap, h1, _⟩
          · exact ⟨[], ⟨by omega, .inl ⟨rfl, rfl, rfl⟩⟩, Gone.rmNone⟩
          · rw [h1] at g1; cases g1
        · rcases hd with ⟨sz', h1, _⟩ | ⟨b', sz', tot', off, cap, h1, rfl, h2, h3, h4, h5⟩
          · rw [h1] at g1; cases g1
          · rw [h1] at g1
            cases g1
            have ho := h5 (.inr trivial)
            simp only [Nat.zero_mul] at ho
            subst ho
            obtain ⟨u, z, rfl, k1, k2⟩ := PE.append.1 g5
            exact ⟨[b], ⟨by omega, .inr ⟨b, cap, cur, ty, u, by rw [hys], rfl, g2, by omega, h3, by omega, (Mem.append.1 g4).1, k1⟩⟩, Gone.rm ⟨_, _, hl, rfl, h1, rfl⟩⟩
      split at he
      · rename_i hlen
        simp only [Option.some.injEq, Prod.mk.injEq] at he
        obtain ⟨rfl, rfl⟩ := he
        exact key xs hlen.symm ⟨[], by simp⟩
      · split at he
        · rename_i hle
          simp only [Option.some.injEq, Prod.mk.injEq] at he
          obtain ⟨rfl, rfl⟩ := he
          exact key (xs.take len) (by simp; omega) ⟨xs.drop len, by simp⟩
        · cases he
    · rename_i sz xs hl
      split at he
      · rename_i hc
        simp only [Option.some.injEq, Prod.mk.injEq] at he
        obtain ⟨rfl, rfl⟩ := he
        obtain ⟨rfl, rfl⟩ := hc
        have := lst_of_imm h (hs _ _ hl) hd (by simp)
        simp only [List.drop_zero, List.take_length] at this
        exact ⟨[], this, Gone.none⟩
      · split at he
        · rename_i hc
          simp only [Option.some.injEq, Prod.mk.injEq] at he
          obtain ⟨rfl, rfl⟩ := he
          exact ⟨[], lst_of_imm h (hs _ _ hl) hd hc, Gone.none⟩
        · cases he
    · cases he
  case nl sz =>
    simp only [Option.some.injEq, Prod.mk.injEq] at he
    obtain ⟨rfl, rfl⟩ := he
    simp only [MR] at hd
    refine ⟨[], ?_, Gone.none⟩
    simp only [DR]
    exact ⟨by simp, .inl ⟨hd, trivial, trivial⟩⟩
  case int =>
    simp only [Option.some.injEq, Prod.mk.injEq] at he
    obtain ⟨rfl, rfl⟩ := he
    exact ⟨[], by simpa only [MR, DR, and_true] using hd, Gone.none⟩
  case bool =>
    simp only [Option.some.injEq, Prod.mk.injEq] at he
    obtain ⟨rfl, rfl⟩ := he
    exact ⟨[], by simpa only [MR, DR, and_true] using hd, Gone.none⟩
  case lst =>
    simp only [Option.some.injEq, Prod.mk.injEq] at he
    obtain ⟨rfl, rfl⟩ := he
    exact ⟨[], by simpa only [MR] using hd, Gone.none⟩

theorem expels_sound (h : RH B κ hp0 F w) (f : Hp → D → Option (D × Hp))
    (hf : ∀ (hp hp' : Hp) (d e : D) (v : Value), Sub hp hp0 → MR w (Im B κ hp0 w) κ d v → f hp d = some (e, hp') → ∃ os, DR w (Im B κ hp0 w) e v os ∧ Gone κ hp hp' os) :
    ∀ (ds : List D) (hp hp' : Hp) (es : List D) (vs : List Value), Sub hp hp0 → MRs w (Im B κ hp0 w) κ ds vs → expels f hp ds = some (es, hp') → ∃ os, DRs w (Im B κ hp0 w) es vs os ∧ Gone κ hp hp' os
  | [], hp, hp', es, vs, hs, hd, he => by
    simp only [expels, Option.some.injEq, Prod.mk.injEq] at he
    obtain ⟨rfl, rfl⟩ := he
    simp only [MRs] at hd
    exact ⟨[], by simp [DRs, hd], Gone.none⟩
  | d :: ds, hp, hp', es, vs, hs, hd, he => by
    simp only [expels] at he
    split at he
    case h_2 => cases he
    rename_i e hp1 h1
    split at he
    case h_2 => cases he
    rename_i l hp2 h2
    simp only [Option.some.injEq, Prod.mk.injEq] at he
    obtain ⟨rfl, rfl⟩ := he
    simp only [MRs] at hd
    obtain ⟨v, vs', rfl, m1, m2⟩ := hd
    obtain ⟨o1, a1, g1⟩ := hf hp hp1 d e v hs m1 h1
    obtain ⟨o2, a2, g2⟩ := expels_sound h f hf ds hp1 hp2 l vs' (g1.sub.trans hs) m2 h2
    exact ⟨o1 ++ o2, by simp only [DRs]; exact ⟨v, vs', o1, o2, rfl, rfl, a1, a2⟩, g1.trans h hs g2⟩

theorem expel1_sound (h : RH B κ hp0 F w) (hs : Sub hp hp0) (hd : MR w (Im B κ hp0 w) κ d v) (he : expel1 hp d = some (e, hp')) : ∃ os, DR w (Im B κ hp0 w) e v os ∧ Gone κ hp hp' os := by
  cases d
  case agg cs =>
    simp only [expel1, Option.map_eq_some_iff] at he
    obtain ⟨⟨l, hp1⟩, h1, h2⟩ := he
    simp only [Prod.mk.injEq] at h2
    obtain ⟨rfl, rfl⟩ := h2
    simp only [MR] at hd
    obtain ⟨vs, rfl, k1, k2⟩ := hd
    obtain ⟨os, a, g⟩ := expels_sound h expel0 (fun hp hp' d e v hs hd he => expel0_sound h hs hd he) cs hp hp1 l _ hs k2 h1
    exact ⟨os, by simp only [DR]; exact ⟨vs, rfl, k1, a⟩, g⟩
  case pt id off =>
    simp only [expel1] at he
    split at he
    case h_2 => cases he
    rename_i cs hl
    split at he
    case isFalse => cases he
    rename_i hoff
    subst hoff
    simp only [Option.map_eq_some_iff] at he
    obtain ⟨⟨l, hp1⟩, h1, h2⟩ := he
    simp only [Prod.mk.injEq] at h2
    obtain ⟨rfl, rfl⟩ := h2
    obtain ⟨b, cur, ty, k1, k2, k3, k4, k5⟩ := h.box (hs _ _ hl)
    simp only [MR, k1, Option.some.injEq, KI.box.injEq] at hd
    obtain ⟨b', rfl, rfl⟩ := hd
    have g0 : Gone κ hp (rm hp id) [b] := Gone.rm ⟨_, _, hl, rfl, k1, rfl⟩
    obtain ⟨os, a, g⟩ := expels_sound h expel0 (fun hp hp' d e v hs hd he => expel0_sound h hs hd he) cs (rm hp id) hp1 l _ (g0.sub.trans hs) k5 h1
    exact ⟨b :: os, by simp only [DR]; exact ⟨b, cur, ty, os, rfl, rfl, k3, k4, a⟩, g0.trans h hs g⟩
  all_goals exact expel0_sound h hs hd he

theorem Sub.refl : Sub hp hp := fun _ _ h => h

/-- An argument that is only read, beside entries that go. -/
structure RI (B : Base) (κ : Nat → Option KI) (hp0 hp : Hp) (w : World) (I : Nat → Prop) : Prop where
  sub : Sub hp hp0
  keep : Keep w w (Im B κ hp0 w) I
  own : ∀ id b, OB κ hp id b → I b
theorem RI.rd {I : Nat → Prop} (h : RH B κ hp0 F w) (r : RI B κ hp0 hp w I) (id : Nat) : Rd w I κ hp id := by
  intro sz xs hl
  rcases hl with hl | hl
  · have hent := h.ent id _ (r.sub _ _ hl)
    simp only [ER] at hent
    refine ⟨hent.1, hent.2.imp (fun h => h) ?_⟩
    rintro ⟨b, tot, cur, ty, us, k1, k2, k3, k4, k5⟩
    exact ⟨b, tot, us, k1, r.own id b ⟨_, _, hl, rfl, k1, rfl⟩, k4, PE.mono r.keep _ _ _ k5⟩
  · have hent := h.ent id _ (r.sub _ _ hl)
    simp only [ER] at hent
    refine ⟨hent.1, hent.2.imp (fun h => h) ?_⟩
    rintro ⟨b, tot, us, k1, k2, k4, k5⟩
    exact ⟨b, tot, us, k1, r.keep.mem b k2, k4, PE.mono r.keep _ _ _ k5⟩
theorem lendI1_sound {I : Nat → Prop} (h : RH B κ hp0 F w) (r : RI B κ hp0 hp w I) (hv : MR w (Im B κ hp0 w) κ d v) (hl : lend1 hp d = some e) : DR w I e v [] := by
  have l0 : lend0 hp d = some e → DR w I e v [] := fun hl => lend0_sound r.keep (fun id _ => r.rd h id) hv hl
  cases d <;> simp only [lend1] at hl
  case agg cs =>
    cases hc : allO (lend0 hp) cs with
    | none => simp [hc] at hl
    | some l =>
      simp only [hc, Option.map_some, Option.some.injEq] at hl
      subst hl
      simp only [MR] at hv
      obtain ⟨vs, rfl, h1, h2⟩ := hv
      have := lend0s_sound r.keep (fun c _ id _ => r.rd h id) h2 h1 hc
      simp only [DR]
      exact ⟨vs, rfl, h1, this.to_DRs⟩
  case ref cs =>
    simp only [Option.some.injEq] at hl
    subst hl
    simp only [MR] at hv
    exact hv.mono r.keep _ _ _ (by simp)
  case pt id off =>
    split at hl
    · rename_i cs hb
      cases hc : allO (lend0 hp) cs with
      | none => simp [hc] at hl
      | some l =>
        simp only [hc, Option.map_some, Option.some.injEq] at hl
        subst hl
        have hb0 := r.sub _ _ hb
        obtain ⟨b, cur, ty, hk, hob, hg, h1, hms⟩ := h.box hb0
        simp only [MR, hk, Option.some.injEq, KI.box.injEq] at hv
        obtain ⟨b', rfl, rfl⟩ := hv
        have hpc := lend0s_sound r.keep (fun c _ id _ => r.rd h id) hms h1 hc
        simp only [DR]
        refine ⟨trivial, b, off, cur.toList.drop off, rfl, r.own id b ⟨_, _, hb, rfl, hk, rfl⟩, Mem.of_cells hg (fun j u hj => ?_), hpc.drop off⟩
        rw [List.getElem?_drop] at hj
        simpa using hj
    · cases hl
  all_goals exact l0 hl
theorem lendI1s_sound {I : Nat → Prop} (h : RH B κ hp0 F w) (r : RI B κ hp0 hp w I) : ∀ {cs es : List D} {vs : List Value}, MRs w (Im B κ hp0 w) κ cs vs → allO (lend1 hp) cs = some es → DRs w I es vs []
  | [], es, vs, hm, hl => by
    simp only [allO, Option.some.injEq] at hl
    subst hl
    simp only [MRs] at hm
    simp [DRs, hm]
  | c :: cs, es, vs, hm, hl => by
    simp only [allO] at hl
    split at hl
    · rename_i e es' he hes
      simp only [Option.some.injEq] at hl
      subst hl
      simp only [MRs] at hm
      obtain ⟨v, vs', rfl, hv, hm⟩ := hm
      simp only [DRs]
      exact ⟨v, vs', [], [], rfl, rfl, lendI1_sound h r hv he, lendI1s_sound h r hm hes⟩
    · cases hl
theorem lendI_sound {I : Nat → Prop} (h : RH B κ hp0 F w) (r : RI B κ hp0 hp w I) (hv : MR w (Im B κ hp0 w) κ d v) (hl : lend hp d = some e) : DR w I e v [] := by
  have l1 : lend1 hp d = some e → DR w I e v [] := fun hl => lendI1_sound h r hv hl
  cases d <;> simp only [lend] at hl
  case clo f cs =>
    cases hc : allO (lend1 hp) cs with
    | none => simp [hc] at hl
    | some l =>
      simp only [hc, Option.map_some, Option.some.injEq] at hl
      subst hl
      simp only [MR] at hv
      obtain ⟨vs, rfl, h2⟩ := hv
      simp only [DR]
      exact ⟨vs, rfl, lendI1s_sound h r h2 hc⟩
  all_goals exact l1 hl

/-- All arguments. -/
theorem lends_all {I : Nat → Prop} {I0 : Nat → Prop} : ∀ {ds es : List D} {vs : List Value}, (∀ d v e, d ∈ ds → MR w I0 κ d v → lend hp d = some e → DR w I e v []) → MRs w I0 κ ds vs → allO (lend hp) ds = some es → DRs w I es vs []
  | [], es, vs, _, hm, hl => by
    simp only [allO, Option.some.injEq] at hl
    subst hl
    simp only [MRs] at hm
    simp [DRs, hm]
  | d :: ds, es, vs, hr, hm, hl => by
    simp only [allO] at hl
    split at hl
    · rename_i e es' he hes
      simp only [Option.some.injEq] at hl
      subst hl
      simp only [MRs] at hm
      obtain ⟨v, vs', rfl, hv, hm⟩ := hm
      simp only [DRs]
      exact ⟨v, vs', [], [], rfl, rfl, hr d v e (by simp) hv he, lends_all (fun d v e hd => hr d v e (List.mem_cons_of_mem _ hd)) hm hes⟩
    · cases hl
theorem giveO_own {m : Md} (hm : m ≠ .rd) (h : RH B κ hp0 F w) (hs : Sub hp hp0) (hd : MR w (Im B κ hp0 w) κ d v) (he : giveO hp m d = some (e, hp')) : ∃ os, DR w (Im B κ hp0 w) e v os ∧ Gone κ hp hp' os := by
  cases m
  case rd => exact absurd rfl hm
  case mp => exact expel1_sound h hs hd he
  all_goals exact expel0_sound h hs hd he
theorem giveR_own {m : Md} (hm : m ≠ .rd) {md : List Md} {es : List D} : giveR hp (m :: md) (e :: es) = (giveR hp md es).map (e :: ·) := by
  cases m
  case rd => exact absurd rfl hm
  all_goals simp only [giveR]; cases giveR hp md es <;> rfl
theorem rdOf_own {m : Md} (hm : m ≠ .rd) {md : List Md} {es : List D} : rdOf (m :: md) (e :: es) = rdOf md es := by
  cases m
  case rd => exact absurd rfl hm
  all_goals rfl
theorem giveOs_sound (h : RH B κ hp0 F w) : ∀ (md : List Md) (ds : List D) (hp hp1 : Hp) (es : List D) (vs : List Value), Sub hp hp0 → MRs w (Im B κ hp0 w) κ ds vs → giveOs hp md ds = some (es, hp1) →
    ∃ os, Gone κ hp hp1 os ∧ ∀ (hp2 : Hp) (I : Nat → Prop) (args : List D), Keep w w (Im B κ hp0 w) I → (∀ d v e, d ∈ rdOf md ds → MR w (Im B κ hp0 w) κ d v → lend hp2 d = some e → DR w I e v []) → giveR hp2 md es = some args → DRs w I args vs os
  | [], ds, hp, hp1, es, vs, hs, hd, he => by
    have : es = ds ∧ hp1 = hp := by cases ds <;> simp only [giveOs, Option.some.injEq, Prod.mk.injEq] at he <;> exact ⟨he.1.symm, he.2.symm⟩
    obtain ⟨rfl, rfl⟩ := this
    refine ⟨[], Gone.none, fun hp2 I args hk hl hr => ?_⟩
    have e1 : giveR hp2 [] es = allO (lend hp2) es := by cases es <;> rfl
    have e2 : rdOf [] es = es := by cases es <;> rfl
    rw [e1] at hr
    rw [e2] at hl
    exact lends_all hl hd hr
  | m :: md, [], hp, hp1, es, vs, hs, hd, he => by
    simp only [giveOs, Option.some.injEq, Prod.mk.injEq] at he
    obtain ⟨rfl, rfl⟩ := he
    refine ⟨[], Gone.none, fun hp2 I args hk hl hr => ?_⟩
    have e1 : giveR hp2 (m :: md) [] = some [] := by cases m <;> rfl
    rw [e1] at hr
    simp only [Option.some.injEq] at hr
    subst hr
    simp only [MRs] at hd
    simp [DRs, hd]
  | m :: md, d :: ds, hp, hp1, es, vs, hs, hd, he => by
    simp only [giveOs] at he
    split at he
    case h_2 => cases he
    rename_i e hp2 h1
    split at he
    case h_2 => cases he
    rename_i l hp3 h2
    simp only [Option.some.injEq, Prod.mk.injEq] at he
    obtain ⟨rfl, rfl⟩ := he
    simp only [MRs] at hd
    obtain ⟨v, vs', rfl, m1, m2⟩ := hd
    by_cases hm : m = .rd
    · subst hm
      simp only [giveO, Option.some.injEq, Prod.mk.injEq] at h1
      obtain ⟨rfl, rfl⟩ := h1
      obtain ⟨os, g, k⟩ := giveOs_sound h md ds hp hp3 l vs' hs m2 h2
      refine ⟨os, g, fun hp4 I args hk hl hr => ?_⟩
      simp only [giveR] at hr
      split at hr
      case h_2 => cases hr
      rename_i e' es' he' hes'
      simp only [Option.some.injEq] at hr
      subst hr
      simp only [DRs]
      exact ⟨v, vs', [], os, rfl, rfl, hl d v e' (by simp [rdOf]) m1 he', k hp4 I es' hk (fun d v e hd => hl d v e (by simp only [rdOf]; exact List.mem_cons_of_mem _ hd)) hes'⟩
    · obtain ⟨o1, a1, g1⟩ := giveO_own hm h hs m1 h1
      obtain ⟨o2, g2, k⟩ := giveOs_sound h md ds hp2 hp3 l vs' (g1.sub.trans hs) m2 h2
      refine ⟨o1 ++ o2, g1.trans h hs g2, fun hp4 I args hk hl hr => ?_⟩
      rw [giveR_own hm] at hr
      simp only [Option.map_eq_some_iff] at hr
      obtain ⟨es', hes', rfl⟩ := hr
      rw [rdOf_own hm] at hl
      simp only [DRs]
      have hI : ∀ b ∈ o1, w.heap[b]? = w.heap[b]? := fun _ _ => rfl
      exact ⟨v, vs', o1, o2, rfl, rfl, DR.mono hk _ _ _ hI a1, k hp4 I es' hk hl hes'⟩
theorem gives_sound (h : RH B κ hp F w) {md : List Md} {ds args : List D} {vs : List Value} {hp1 : Hp} (hd : MRs w (Im B κ hp w) κ ds vs) (hg : gives hp md ds = some (args, hp1)) :
    ∃ os, Gone κ hp hp1 os ∧ ∀ (I : Nat → Prop), Keep w w (Im B κ hp w) I → (∀ d v e, d ∈ rdOf md ds → MR w (Im B κ hp w) κ d v → lend hp1 d = some e → DR w I e v []) → DRs w I args vs os := by
  unfold gives at hg
  split at hg
  · simp only [Option.map_eq_some_iff, Prod.mk.injEq] at hg
    obtain ⟨l, hl, rfl, rfl⟩ := hg
    refine ⟨[], Gone.none, fun I hk hr => ?_⟩
    have e2 : rdOf [] ds = ds := by cases ds <;> rfl
    rw [e2] at hr
    exact lends_all hr hd hl
  · split at hg
    case h_2 => cases hg
    rename_i es hp2 h1
    simp only [Option.map_eq_some_iff, Prod.mk.injEq] at hg
    obtain ⟨l, hl, rfl, rfl⟩ := hg
    obtain ⟨os, g, k⟩ := giveOs_sound h md ds hp hp2 es vs Sub.refl hd h1
    exact ⟨os, g, fun I hk hr => k hp2 I l hk hr hl⟩
theorem gives_rdOf {md : List Md} {ds args : List D} {hp1 : Hp} (hg : gives hp md ds = some (args, hp1)) : ∀ d ∈ rdOf md ds, ∃ e, lend hp1 d = some e := by
  have key : ∀ (md : List Md) (ds es : List D) (hp hp1 hp2 : Hp) (args : List D), giveOs hp md ds = some (es, hp1) → giveR hp2 md es = some args → ∀ d ∈ rdOf md ds, ∃ e, lend hp2 d = some e := by
    intro md
    induction md with
    | nil =>
      intro ds es hp hp1 hp2 args he hr d hd
      have : es = ds := by cases ds <;> simp only [giveOs, Option.some.injEq, Prod.mk.injEq] at he <;> exact he.1.symm
      subst this
      have e1 : giveR hp2 [] es = allO (lend hp2) es := by cases es <;> rfl
      have e2 : rdOf [] es = es := by cases es <;> rfl
      rw [e1] at hr
      rw [e2] at hd
      clear he e1 e2
      induction es generalizing args with
      | nil => simp at hd
      | cons c cs ih =>
        simp only [allO] at hr
        split at hr
        · rename_i e es' he hes
          rcases List.mem_cons.1 hd with rfl | hd
          · exact ⟨e, he⟩
          · exact ih es' hes hd
        · cases hr
    | cons m md ih =>
      intro ds es hp hp1 hp2 args he hr d hd
      cases ds with
      | nil => cases m <;> simp [rdOf] at hd
      | cons c ds =>
        simp only [giveOs] at he
        split at he
        case h_2 => cases he
        rename_i e hp3 h1
        split at he
        case h_2 => cases he
        rename_i l hp4 h2
        simp only [Option.some.injEq, Prod.mk.injEq] at he
        obtain ⟨rfl, rfl⟩ := he
        by_cases hm : m = .rd
        · subst hm
          simp only [giveO, Option.some.injEq, Prod.mk.injEq] at h1
          obtain ⟨rfl, rfl⟩ := h1
          simp only [giveR] at hr
          split at hr
          case h_2 => cases hr
          rename_i e' es' he' hes'
          simp only [rdOf, List.mem_cons] at hd
          rcases hd with rfl | hd
          · exact ⟨e', he'⟩
          · exact ih ds l _ _ hp2 es' h2 hes' d hd
        · rw [giveR_own hm] at hr
          simp only [Option.map_eq_some_iff] at hr
          obtain ⟨es', hes', _⟩ := hr
          rw [rdOf_own hm] at hd
          exact ih ds l _ _ hp2 es' h2 hes' d hd
  unfold gives at hg
  split at hg
  · simp only [Option.map_eq_some_iff, Prod.mk.injEq] at hg
    obtain ⟨l, hl, rfl, rfl⟩ := hg
    have e1 : giveR hp [] ds = allO (lend hp) ds := by cases ds <;> rfl
    exact key [] ds ds hp hp hp l (by cases ds <;> rfl) (by rw [e1]; exact hl)
  · split at hg
    case h_2 => cases hg
    rename_i es hp2 h1
    simp only [Option.map_eq_some_iff, Prod.mk.injEq] at hg
    obtain ⟨l, hl, rfl, rfl⟩ := hg
    exact key md ds es hp _ hp2 l h1 hl
end
end Go.Am
