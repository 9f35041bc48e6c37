/- Calls. -/
import Derived.Test.YtkllpeebnabdiaaAmN
namespace Go.Am
set_option linter.unusedVariables false
set_option linter.unusedSimpArgs false
set_option linter.unnecessarySimpa false
open Go

section
variable {P : Program} {B : Base} {κ : Nat → Option KI} {hp hp' : List (Nat × Ent)} {F : Nat → Prop} {w : World} {n : Nat} {d : D}

/-- All that can be read. -/
def Iall (B : Base) (w : World) (b : Nat) : Prop := (B.I b ∨ b ∈ B.os ∨ B.w.heap.size ≤ b) ∧ b < w.heap.size
theorem Iall.keep : Keep w w (Im B κ hp w) (Iall B w) := ⟨fun _ h => ⟨h.1, h.2.1⟩, fun _ _ => rfl⟩
theorem RH.rdAll (h : RH B κ hp F w) (id : Nat) : Rd w (Iall B w) κ hp id := by
  intro sz xs hl
  rcases hl with hl | hl
  · have hent := h.ent id _ hl
    simp only [ER] at hent
    refine ⟨hent.1, hent.2.imp (fun h => h) ?_⟩
    rintro ⟨b, tot, cur, ty, us, k1, k2, k3, k4, k5⟩
    exact ⟨b, tot, us, k1, ⟨(h.own b ⟨id, _, _, hl, rfl, k1, rfl⟩).1.elim (fun g => .inr (.inl g)) (fun g => .inr (.inr g)), (h.own b ⟨id, _, _, hl, rfl, k1, rfl⟩).2⟩, k4, PE.mono Iall.keep _ _ _ k5⟩
  · have hent := h.ent id _ hl
    simp only [ER] at hent
    refine ⟨hent.1, hent.2.imp (fun h => h) ?_⟩
    rintro ⟨b, tot, us, k1, k2, k4, k5⟩
    exact ⟨b, tot, us, k1, ⟨k2.1, k2.2.1⟩, k4, PE.mono Iall.keep _ _ _ k5⟩

theorem lend1_sound (h : RH B κ hp F w) {e : D} {v : Value} (hv : MR w (Im B κ hp w) κ d v) (hl : lend1 hp d = some e) : DR w (Iall B w) e v [] := by
  have l0 : lend0 hp d = some e → DR w (Iall B w) e v [] := fun hl => lend0_sound Iall.keep (fun id _ => h.rdAll id) hv hl
  cases d <;> simp only [lend1] at hl
  case agg cs =>
    cases hc : allO (lend0 hp) cs with
    | none => simp [hc] at hl
    | some l =>
      simp only [hc, Option.map_some, Option.some.injEq] at hl
      subst hl
      simp only [MR] at hv
      obtain ⟨vs, rfl, h1, h2⟩ := hv
      have := lend0s_sound Iall.keep (fun c _ id _ => h.rdAll id) h2 h1 hc
      simp only [DR]
      exact ⟨vs, rfl, h1, this.to_DRs⟩
  case ref cs =>
    simp only [Option.some.injEq] at hl
    subst hl
    simp only [MR] at hv
    exact hv.mono Iall.keep _ _ _ (by simp)
  case pt id off =>
    split at hl
    · rename_i cs hb
      cases hc : allO (lend0 hp) cs with
      | none => simp [hc] at hl
      | some l =>
        simp only [hc, Option.map_some, Option.some.injEq] at hl
        subst hl
        obtain ⟨b, cur, ty, hk, hob, hg, h1, hms⟩ := h.box hb
        simp only [MR, hk, Option.some.injEq, KI.box.injEq] at hv
        obtain ⟨b', rfl, rfl⟩ := hv
        have hpc := lend0s_sound Iall.keep (fun c _ id _ => h.rdAll id) hms h1 hc
        simp only [DR]
        refine ⟨trivial, b, off, cur.toList.drop off, rfl, ⟨(h.own b ⟨id, hob⟩).1.elim (fun g => .inr (.inl g)) (fun g => .inr (.inr g)), (h.own b ⟨id, hob⟩).2⟩, Mem.of_cells hg (fun j u hj => ?_), hpc.drop off⟩
        rw [List.getElem?_drop] at hj
        simpa using hj
    · cases hl
  all_goals exact l0 hl

theorem lend1s_sound (h : RH B κ hp F w) : ∀ {cs es : List D} {vs : List Value}, MRs w (Im B κ hp w) κ cs vs → allO (lend1 hp) cs = some es → DRs w (Iall B w) es vs []
  | [], es, vs, hm, hl => by
    simp only [allO, Option.some.injEq] at hl
    subst hl
    simp only [MRs] at hm
    simp [DRs, hm]
  | c :: cs, es, vs, hm, hl => by
    simp only [allO] at hl
    split at hl
    · rename_i e es' he hes
      simp only [Option.some.injEq] at hl
      subst hl
      simp only [MRs] at hm
      obtain ⟨v, vs', rfl, hv, hm⟩ := hm
      simp only [DRs]
      exact ⟨v, vs', [], [], rfl, rfl, lend1_sound h hv he, lend1s_sound h hm hes⟩
    · cases hl

theorem lend_sound (h : RH B κ hp F w) {e : D} {v : Value} (hv : MR w (Im B κ hp w) κ d v) (hl : lend hp d = some e) : DR w (Iall B w) e v [] := by
  have l1 : lend1 hp d = some e → DR w (Iall B w) e v [] := fun hl => lend1_sound h hv hl
  cases d <;> simp only [lend] at hl
  case clo f cs =>
    cases hc : allO (lend1 hp) cs with
    | none => simp [hc] at hl
    | some l =>
      simp only [hc, Option.map_some, Option.some.injEq] at hl
      subst hl
      simp only [MR] at hv
      obtain ⟨vs, rfl, h2⟩ := hv
      simp only [DR]
      exact ⟨vs, rfl, lend1s_sound h h2 hc⟩
  all_goals exact l1 hl

theorem lends_sound (h : RH B κ hp F w) : ∀ {cs es : List D} {vs : List Value}, MRs w (Im B κ hp w) κ cs vs → allO (lend hp) cs = some es → DRs w (Iall B w) es vs []
  | [], es, vs, hm, hl => by
    simp only [allO, Option.some.injEq] at hl
    subst hl
    simp only [MRs] at hm
    simp [DRs, hm]
  | c :: cs, es, vs, hm, hl => by
    simp only [allO] at hl
    split at hl
    · rename_i e es' he hes
      simp only [Option.some.injEq] at hl
      subst hl
      simp only [MRs] at hm
      obtain ⟨v, vs', rfl, hv, hm⟩ := hm
      simp only [DRs]
      exact ⟨v, vs', [], [], rfl, rfl, lend_sound h hv he, lends_sound h hm hes⟩
    · cases hl

/-- Without pointers only the entries that are named are read. -/
theorem lendNo_sound {I I0 : Nat → Prop} (hk : Keep w w I0 I) {e : D} {v : Value} (hr : ∀ id ∈ d.ids, Rd w I κ hp id) (hv : MR w I0 κ d v) (hn : noPt d = true) (hl : lend hp d = some e) : DR w I e v [] := by
  have l0 : D.ids d = D.ids0 d → lend0 hp d = some e → DR w I e v [] := fun he hl => lend0_sound hk (fun id hi => hr id (by rw [he]; exact hi)) hv hl
  cases d <;> simp only [noPt, Bool.false_eq_true] at hn <;> simp only [lend, lend1] at hl
  case agg cs =>
    cases hc : allO (lend0 hp) cs with
    | none => simp [hc] at hl
    | some l =>
      simp only [hc, Option.map_some, Option.some.injEq] at hl
      subst hl
      simp only [MR] at hv
      obtain ⟨vs, rfl, h1, h2⟩ := hv
      have := lend0s_sound hk (fun c hc id hi => hr id (by simp only [D.ids, List.mem_flatMap]; exact ⟨c, hc, hi⟩)) h2 h1 hc
      simp only [DR]
      exact ⟨vs, rfl, h1, this.to_DRs⟩
  case ref cs =>
    simp only [Option.some.injEq] at hl
    subst hl
    simp only [MR] at hv
    exact hv.mono hk _ _ _ (by simp)
  all_goals exact l0 rfl hl
theorem lendsNo_sound {I I0 : Nat → Prop} (hk : Keep w w I0 I) : ∀ {cs es : List D} {vs : List Value}, (∀ id ∈ cs.flatMap D.ids, Rd w I κ hp id) → MRs w I0 κ cs vs → cs.all noPt = true → allO (lend hp) cs = some es → DRs w I es vs []
  | [], es, vs, _, hm, _, hl => by
    simp only [allO, Option.some.injEq] at hl
    subst hl
    simp only [MRs] at hm
    simp [DRs, hm]
  | c :: cs, es, vs, hr, hm, hn, hl => by
    simp only [allO] at hl
    split at hl
    · rename_i e es' he hes
      simp only [Option.some.injEq] at hl
      subst hl
      simp only [MRs] at hm
      obtain ⟨v, vs', rfl, hv, hm⟩ := hm
      simp only [List.all_cons, Bool.and_eq_true] at hn
      simp only [DRs]
      exact ⟨v, vs', [], [], rfl, rfl, lendNo_sound hk (fun id hi => hr id (by simp [hi])) hv hn.1 he, lendsNo_sound hk (fun id hi => hr id (by simp at hi ⊢; exact .inr hi)) hm hn.2 hes⟩
    · cases hl

/-! What a call hands back. -/

theorem filterMap_same {α β : Type} {f g : α → Option β} : ∀ {l : List α}, (∀ a ∈ l, f a = g a) → l.filterMap f = l.filterMap g
  | [], _ => rfl
  | a :: l, h => by simp only [List.filterMap_cons, h a (by simp), filterMap_same (fun x hx => h x (List.mem_cons_of_mem _ hx))]


/-- The blocks of entries. -/
def blks (κ : Nat → Option KI) (E : List (Nat × Ent)) : List Nat := E.filterMap fun p => (κ p.1).bind KI.blk

/-- Entries that are taken in: their numbers are from `n` to `n'`. -/
structure Took (w : World) (I : Nat → Prop) (κ κ' : Nat → Option KI) (n n' : Nat) (E : List (Nat × Ent)) (os : List Nat) : Prop where
  le : n ≤ n'
  out : ∀ id, (id < n ∨ n' ≤ id) → κ' id = κ id
  ids : ∀ p ∈ E, n ≤ p.1 ∧ p.1 < n'
  nodup : (E.map (·.1)).Nodup
  owned : ∀ p ∈ E, p.2.owned = true
  blks : blks κ' E = os
  ent : ∀ p ∈ E, ER w I κ' p.1 p.2

theorem Took.nil {I : Nat → Prop} {κ : Nat → Option KI} : Took w I κ κ n n [] [] := ⟨Nat.le_refl _, fun _ _ => rfl, by simp, by simp, by simp, rfl, by simp⟩
theorem Took.kle {I : Nat → Prop} {κ κ' : Nat → Option KI} {n' : Nat} {E : List (Nat × Ent)} {os : List Nat} (h : Took w I κ κ' n n' E os) (hf : ∀ id, n ≤ id → id < n' → κ id = none) : Kle κ κ' := fun id k hk => by
  by_cases h1 : id < n ∨ n' ≤ id
  · rw [h.out id h1]; exact hk
  · rw [hf id (by omega) (by omega)] at hk; cases hk
theorem Took.trans {I : Nat → Prop} {κ κ' κ'' : Nat → Option KI} {n' n'' : Nat} {E E' : List (Nat × Ent)} {os os' : List Nat} (h : Took w I κ κ' n n' E os) (k : Took w I κ' κ'' n' n'' E' os') (hf : ∀ id, n' ≤ id → id < n'' → κ' id = none) :
    Took w I κ κ'' n n'' (E ++ E') (os ++ os') := by
  have hk := k.kle hf
  refine ⟨Nat.le_trans h.le k.le, fun id hid => ?_, fun p hp => ?_, ?_, fun p hp => ?_, ?_, fun p hp => ?_⟩
  · have := h.le; have := k.le
    rw [k.out id (by omega), h.out id (by omega)]
  · have := h.le; have := k.le
    rcases List.mem_append.1 hp with hp | hp
    · have := h.ids p hp; omega
    · have := k.ids p hp; omega
  · rw [List.map_append, List.nodup_append]
    refine ⟨h.nodup, k.nodup, ?_⟩
    intro a ha b hb hab
    obtain ⟨p, hp, rfl⟩ := List.mem_map.1 ha
    obtain ⟨q, hq, rfl⟩ := List.mem_map.1 hb
    have := h.ids p hp; have := k.ids q hq; omega
  · rcases List.mem_append.1 hp with hp | hp
    · exact h.owned p hp
    · exact k.owned p hp
  · have hb := h.blks
    have kb := k.blks
    unfold Am.blks at hb kb ⊢
    rw [List.filterMap_append, kb]
    congr 1
    rw [← hb]
    exact filterMap_same fun p hp => by rw [k.out p.1 (.inl (h.ids p hp).2)]
  · rcases List.mem_append.1 hp with hp | hp
    · refine (h.ent p hp).mono ⟨fun _ h => h, fun _ _ => rfl⟩ hk (fun _ _ _ _ _ => rfl)
    · exact k.ent p hp

theorem DRs.scalars {I : Nat → Prop} : ∀ {cs : List D} {vs : List Value} {os : List Nat}, cs.all okCap = true → DRs w I cs vs os → os = []
  | [], _, _, _, h => by simp only [DRs] at h; exact h.2
  | c :: cs, vs, os, hf, h => by
    simp only [List.all_cons, Bool.and_eq_true] at hf
    simp only [DRs] at h
    obtain ⟨v, vs', o, o', rfl, rfl, h1, h2⟩ := h
    have : o = [] := by
      cases c <;> simp only [okCap, Bool.false_eq_true, false_and] at hf <;> simp only [DR] at h1 <;> first | exact h1.2 | exact h1.1
    rw [this, DRs.scalars hf.2 h2]; rfl

theorem adopt0_sound {I : Nat → Prop} {v : Value} {os : List Nat} (ho : okA0 d = true) (h : DR w I d v os) (hf : ∀ id, n ≤ id → κ id = none) :
    ∃ κ', Took w I κ κ' n (adopt0 n d).2.2 (adopt0 n d).2.1 os ∧ MR w I κ' (adopt0 n d).1 v ∧ (∀ id, (adopt0 n d).2.2 ≤ id → κ' id = none) := by
  have plain : os = [] → adopt0 n d = (d, [], n) → ∃ κ', Took w I κ κ' n (adopt0 n d).2.2 (adopt0 n d).2.1 os ∧ MR w I κ' (adopt0 n d).1 v ∧ (∀ id, (adopt0 n d).2.2 ≤ id → κ' id = none) := fun hos he => by
    subst hos
    rw [he]
    exact ⟨κ, Took.nil, MR.of_DR d v h, hf⟩
  cases d <;> simp only [okA0, Bool.false_eq_true] at ho
  case arr sz xs =>
    simp only [DR] at h
    obtain ⟨hmax, ⟨rfl, rfl, rfl⟩ | ⟨b, cap, cur, e, us, rfl, rfl, hg, h1, h2, h3, hM, hP⟩⟩ := h
    · refine ⟨updK κ n (.nil sz), ⟨by simp [adopt0], fun id hid => updK_ne (by simp [adopt0] at hid; omega), by simp [adopt0], by simp [adopt0], by simp [adopt0, Ent.owned], by simp [adopt0, blks, updK_same, KI.blk], ?_⟩, ?_, fun id hid => ?_⟩
      · simp only [adopt0, List.mem_singleton, forall_eq, ER]; exact ⟨hmax, .inl ⟨updK_same, trivial⟩⟩
      · simp only [adopt0, MR]; exact .inl ⟨sz, updK_same, by simp⟩
      · simp only [adopt0] at hid; rw [updK_ne (by omega)]; exact hf id (by omega)
    · refine ⟨updK κ n (.arr b sz (cap * sz)), ⟨by simp [adopt0], fun id hid => updK_ne (by simp [adopt0] at hid; omega), by simp [adopt0], by simp [adopt0], by simp [adopt0, Ent.owned], by simp [adopt0, blks, updK_same, KI.blk], ?_⟩, ?_, fun id hid => ?_⟩
      · simp only [adopt0, List.mem_singleton, forall_eq, ER]; exact ⟨hmax, .inr ⟨b, _, cur, e, us, updK_same, hg, h3, hM, hP⟩⟩
      · simp only [adopt0, MR]; exact .inr ⟨b, sz, _, 0, cap, updK_same, rfl, h1, h2, by simp, fun _ => by simp⟩
      · simp only [adopt0] at hid; rw [updK_ne (by omega)]; exact hf id (by omega)
  case clo f cs =>
    have h' := h
    simp only [DR] at h'
    obtain ⟨vs, _, h2⟩ := h'
    exact plain (DRs.scalars ho h2) rfl
  case lst => exact plain (DR.lst_os h) rfl
  case ref => exact plain (by simp only [DR] at h; exact h.1) rfl
  all_goals exact plain (by simp only [DR] at h; exact h.2) rfl

/-- Several, one behind the other. -/
theorem adopts_sound {I : Nat → Prop} (f : Nat → D → D × List (Nat × Ent) × Nat) (ok : D → Bool)
    (hone : ∀ (n : Nat) (κ : Nat → Option KI) (d : D) (v : Value) (os : List Nat), ok d = true → DR w I d v os → (∀ id, n ≤ id → κ id = none) →
      ∃ κ', Took w I κ κ' n (f n d).2.2 (f n d).2.1 os ∧ MR w I κ' (f n d).1 v ∧ (∀ id, (f n d).2.2 ≤ id → κ' id = none)) :
    ∀ (ds : List D) (n : Nat) (κ : Nat → Option KI) (vs : List Value) (os : List Nat), ds.all ok = true → DRs w I ds vs os → (∀ id, n ≤ id → κ id = none) →
      ∃ κ', Took w I κ κ' n (adopts f n ds).2.2 (adopts f n ds).2.1 os ∧ MRs w I κ' (adopts f n ds).1 vs ∧ (∀ id, (adopts f n ds).2.2 ≤ id → κ' id = none)
  | [], n, κ, vs, os, _, h, hf => by
    simp only [DRs] at h
    obtain ⟨rfl, rfl⟩ := h
    exact ⟨κ, Took.nil, by simp [adopts, MRs], hf⟩
  | d :: ds, n, κ, vs, os, ho, h, hf => by
    simp only [List.all_cons, Bool.and_eq_true] at ho
    simp only [DRs] at h
    obtain ⟨v, vs', o, o', rfl, rfl, h1, h2⟩ := h
    obtain ⟨κ1, t1, m1, f1⟩ := hone n κ d v o ho.1 h1 hf
    obtain ⟨κ2, t2, m2, f2⟩ := adopts_sound f ok hone ds _ κ1 vs' o' ho.2 h2 f1
    refine ⟨κ2, t1.trans t2 (fun id h _ => f1 id h), ?_, f2⟩
    simp only [adopts, MRs]
    exact ⟨v, vs', rfl, m1.mono ⟨fun _ h => h, fun _ _ => rfl⟩ (t2.kle (fun id h _ => f1 id h)) _ _, m2⟩

theorem adopt1_sound {I : Nat → Prop} {v : Value} {os : List Nat} (ho : okA1 d = true) (h : DR w I d v os) (hf : ∀ id, n ≤ id → κ id = none) :
    ∃ κ', Took w I κ κ' n (adopt1 n d).2.2 (adopt1 n d).2.1 os ∧ MR w I κ' (adopt1 n d).1 v ∧ (∀ id, (adopt1 n d).2.2 ≤ id → κ' id = none) := by
  cases d <;> simp only [okA1] at ho
  case agg cs =>
    simp only [DR] at h
    obtain ⟨vs, rfl, h1, h2⟩ := h
    obtain ⟨κ1, t1, m1, f1⟩ := adopts_sound adopt0 okA0 (fun n κ d v os ho h hf => adopt0_sound ho h hf) cs n κ _ os ho h2 hf
    exact ⟨κ1, t1, by simp only [adopt1, MR]; exact ⟨vs, rfl, h1, m1⟩, f1⟩
  case box cs =>
    simp only [DR] at h
    obtain ⟨b, cur, e, os', rfl, rfl, hg, h1, h2⟩ := h
    have hf1 : ∀ id, n + 1 ≤ id → updK κ n (.box b) id = none := fun id hid => by rw [updK_ne (by omega)]; exact hf id (by omega)
    obtain ⟨κ1, t1, m1, f1⟩ := adopts_sound adopt0 okA0 (fun n κ d v os ho h hf => adopt0_sound ho h hf) cs (n + 1) (updK κ n (.box b)) _ os' ho h2 hf1
    have hn : κ1 n = some (.box b) := by rw [t1.out n (.inl (by omega)), updK_same]
    have tle := t1.le
    refine ⟨κ1, ⟨?_, fun id hid => ?_, ?_, ?_, ?_, ?_, ?_⟩, ?_, f1⟩
    · simp only [adopt1]; omega
    · simp only [adopt1] at hid
      rw [t1.out id (by omega), updK_ne (by omega)]
    · simp only [adopt1, List.mem_cons, forall_eq_or_imp]
      exact ⟨⟨Nat.le_refl _, by omega⟩, fun p hp => by have := t1.ids p hp; omega⟩
    · simp only [adopt1, List.map_cons, List.nodup_cons]
      refine ⟨?_, t1.nodup⟩
      intro hm
      obtain ⟨p, hp, he⟩ := List.mem_map.1 hm
      have := t1.ids p hp; omega
    · simp only [adopt1, List.mem_cons, forall_eq_or_imp]
      exact ⟨rfl, t1.owned⟩
    · have := t1.blks
      unfold blks at *
      simp only [adopt1, List.filterMap_cons, hn, Option.bind_some, KI.blk, this]
    · simp only [adopt1, List.mem_cons, forall_eq_or_imp]
      refine ⟨?_, t1.ent⟩
      simp only [ER]
      exact ⟨b, cur, e, hn, hg, h1, m1⟩
    · simp only [adopt1, MR]; exact ⟨b, hn, rfl⟩
  all_goals exact adopt0_sound (by simpa only [okA0] using ho) h hf

theorem adopt_sound {I : Nat → Prop} {v : Value} {os : List Nat} (ho : okA d = true) (h : DR w I d v os) (hf : ∀ id, n ≤ id → κ id = none) :
    ∃ κ', Took w I κ κ' n (adopt n d).2.2 (adopt n d).2.1 os ∧ MR w I κ' (adopt n d).1 v ∧ (∀ id, (adopt n d).2.2 ≤ id → κ' id = none) := by
  cases d <;> simp only [okA] at ho
  case tup cs =>
    simp only [DR] at h
    obtain ⟨vs, rfl, h2⟩ := h
    obtain ⟨κ1, t1, m1, f1⟩ := adopts_sound adopt1 okA1 (fun n κ d v os ho h hf => adopt1_sound ho h hf) cs n κ _ os ho h2 hf
    exact ⟨κ1, t1, by simp only [adopt, MR]; exact ⟨vs, rfl, m1⟩, f1⟩
  all_goals exact adopt1_sound (by simpa only [okA1] using ho) h hf
end
end Go.Am
