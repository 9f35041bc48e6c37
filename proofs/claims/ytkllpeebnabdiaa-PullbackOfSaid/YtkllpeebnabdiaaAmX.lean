/- Canonical states: the same memory under other numbers. -/
import Derived.Test.YtkllpeebnabdiaaAmW
namespace Go.Am
open Go

section
variable {B : Base} {κ κ' κ'' : Nat → Option KI} {hp : Hp} {F : Nat → Prop} {w : World} {n n' : NS}

/-- What has been numbered anew lies where it lay. -/
structure NI (B : Base) (κ : Nat → Option KI) (hp : Hp) (w : World) (n : NS) (κ' : Nat → Option KI) : Prop where
  fr : ∀ j, n.k ≤ j → κ' j = none
  map : ∀ id j, lk n.m id = some j → κ' j = κ id ∧ j < n.k
  ent : ∀ j e, lk n.e j = some e → j < n.k ∧ ER w (Im B κ hp w) κ' j e
  own : ∀ j b, OB κ' n.e j b → ∃ id, lk n.m id = some j ∧ OB κ hp id b

/-- One step on: what was known stays; boxes that were not met are not met yet. -/
structure NN (hp : Hp) (n n' : NS) (κ' κ'' : Nat → Option KI) : Prop where
  kle : Kle κ' κ''
  box : ∀ id cs, lk hp id = some (.box cs) → lk n.m id = none → lk n'.m id = none

theorem NN.refl : NN hp n n κ κ := ⟨fun _ _ h => h, fun _ _ _ h => h⟩
theorem NN.trans {n'' : NS} (h : NN hp n n' κ κ') (k : NN hp n' n'' κ' κ'') : NN hp n n'' κ κ'' :=
  ⟨fun _ _ e => k.kle _ _ (h.kle _ _ e), fun id cs h1 h2 => k.box id cs h1 (h.box id cs h1 h2)⟩

theorem NI.ends (h : NI B κ hp w n κ') : lk n.e n.k = none := by
  cases he : lk n.e n.k with
  | none => rfl
  | some e => have := (h.ent _ _ he).1; omega

/-- A further entry. -/
theorem NI.snoc (h : NI B κ hp w n κ') {id : Nat} {e e0 : Ent} (hid : lk n.m id = none) (he0 : lk hp id = some e0) (how : e.owned = true → e0.owned = true) {q : KI} (hq : κ id = some q)
    (he : ER w (Im B κ hp w) (updK κ' n.k q) n.k e) : NI B κ hp w ⟨(id, n.k) :: n.m, n.e ++ [(n.k, e)], n.k + 1⟩ (updK κ' n.k q) ∧ Kle κ' (updK κ' n.k q) := by
  have kle : Kle κ' (updK κ' n.k q) := fun j k hj => by
    rw [updK_ne]
    · exact hj
    · intro e; subst e; rw [h.fr _ (Nat.le_refl _)] at hj; cases hj
  have hends := h.ends
  refine ⟨⟨fun j hj => ?_, fun id' j hj => ?_, fun j e' hj => ?_, fun j b hj => ?_⟩, kle⟩
  · simp only at hj
    rw [updK_ne (by omega)]
    exact h.fr j (by omega)
  · simp only [lk] at hj
    split at hj
    · rename_i hi
      simp only [Option.some.injEq] at hj
      subst hi hj
      exact ⟨by rw [updK_same, hq], by simp⟩
    · obtain ⟨h1, h2⟩ := h.map _ _ hj
      exact ⟨by rw [updK_ne (by omega), h1], by simp only; omega⟩
  · simp only [lk_append] at hj
    cases hl : lk n.e j with
    | some e1 =>
      rw [hl] at hj
      simp only [Option.some_or, Option.some.injEq] at hj
      subst hj
      obtain ⟨h1, h2⟩ := h.ent _ _ hl
      exact ⟨by simp only; omega, h2.mono ⟨fun _ h => h, fun _ _ => rfl⟩ kle (fun _ _ _ _ _ => rfl)⟩
    | none =>
      rw [hl] at hj
      simp only [Option.none_or, lk] at hj
      split at hj
      · rename_i hjk
        simp only [Option.some.injEq] at hj
        subst hjk hj
        exact ⟨by simp, he⟩
      · cases hj
  · obtain ⟨e1, k, h1, h2, h3, h4⟩ := hj
    simp only [lk_append] at h1
    cases hl : lk n.e j with
    | some e2 =>
      rw [hl] at h1
      simp only [Option.some_or, Option.some.injEq] at h1
      subst h1
      have hjk := (h.ent _ _ hl).1
      rw [updK_ne (by omega)] at h3
      obtain ⟨id', g1, g2⟩ := h.own j b ⟨_, _, hl, h2, h3, h4⟩
      refine ⟨id', ?_, g2⟩
      simp only [lk]
      rw [if_neg]
      · exact g1
      · intro e; subst e; rw [hid] at g1; cases g1
    | none =>
      rw [hl] at h1
      simp only [Option.none_or, lk] at h1
      split at h1
      · rename_i hjk
        simp only [Option.some.injEq] at h1
        subst hjk h1
        rw [updK_same, Option.some.injEq] at h3
        subst h3
        exact ⟨id, by simp [lk], e0, q, he0, how h2, hq, h4⟩
      · cases h1
/-- A further nil slice. -/
theorem NI.snocNil (h : NI B κ hp w n κ') (sz : Nat) : NI B κ hp w ⟨n.m, n.e ++ [(n.k, .arr sz [])], n.k + 1⟩ (updK κ' n.k (.nil sz)) ∧ Kle κ' (updK κ' n.k (.nil sz)) := by
  have kle : Kle κ' (updK κ' n.k (.nil sz)) := fun j k hj => by
    rw [updK_ne]
    · exact hj
    · intro e; subst e; rw [h.fr _ (Nat.le_refl _)] at hj; cases hj
  refine ⟨⟨fun j hj => ?_, fun id' j hj => ?_, fun j e' hj => ?_, fun j b hj => ?_⟩, kle⟩
  · simp only at hj
    rw [updK_ne (by omega)]
    exact h.fr j (by omega)
  · obtain ⟨h1, h2⟩ := h.map _ _ hj
    exact ⟨by rw [updK_ne (by omega), h1], by simp only; omega⟩
  · simp only [lk_append] at hj
    cases hl : lk n.e j with
    | some e1 =>
      rw [hl] at hj
      simp only [Option.some_or, Option.some.injEq] at hj
      subst hj
      obtain ⟨h1, h2⟩ := h.ent _ _ hl
      exact ⟨by simp only; omega, h2.mono ⟨fun _ h => h, fun _ _ => rfl⟩ kle (fun _ _ _ _ _ => rfl)⟩
    | none =>
      rw [hl] at hj
      simp only [Option.none_or, lk] at hj
      split at hj
      · rename_i hjk
        simp only [Option.some.injEq] at hj
        subst hjk hj
        refine ⟨by simp, ?_⟩
        simp only [ER]
        exact ⟨by simp, .inl ⟨updK_same, trivial⟩⟩
      · cases hj
  · obtain ⟨e1, k, h1, h2, h3, h4⟩ := hj
    simp only [lk_append] at h1
    cases hl : lk n.e j with
    | some e2 =>
      rw [hl] at h1
      simp only [Option.some_or, Option.some.injEq] at h1
      subst h1
      have hjk := (h.ent _ _ hl).1
      rw [updK_ne (by omega)] at h3
      exact h.own j b ⟨_, _, hl, h2, h3, h4⟩
    | none =>
      rw [hl] at h1
      simp only [Option.none_or, lk] at h1
      split at h1
      · rename_i hjk
        subst hjk
        rw [updK_same, Option.some.injEq] at h3
        subst h3
        cases h4
      · cases h1

theorem ren0_sound (hR : RH B κ hp F w) (h : NI B κ hp w n κ') {d : D} {v : Value} (hd : MR w (Im B κ hp w) κ d v) :
    ∃ κ'', NI B κ hp w (ren0 hp n d).2 κ'' ∧ NN hp n (ren0 hp n d).2 κ' κ'' ∧ MR w (Im B κ hp w) κ'' (ren0 hp n d).1 v := by
  have hnb := MR.nb hd
  have un : (∀ b, d ≠ .bool b) → ren0 hp n d = (.undef, n) → ∃ κ'', NI B κ hp w (ren0 hp n d).2 κ'' ∧ NN hp n (ren0 hp n d).2 κ' κ'' ∧ MR w (Im B κ hp w) κ'' (ren0 hp n d).1 v := fun e0 e => by
    rw [e]; exact ⟨κ', h, NN.refl, by simp only [MR]; exact hnb e0⟩
  cases d
  case sl id lo len =>
    simp only [MR] at hd
    simp only [ren0]
    cases hm : lk n.m id with
    | some j =>
      simp only
      obtain ⟨h1, _⟩ := h.map _ _ hm
      refine ⟨κ', h, NN.refl, ?_⟩
      simp only [MR, h1]
      exact hd
    | none =>
      simp only
      cases he : lk hp id with
      | none => exact ⟨κ', h, NN.refl, by simp only [MR]; exact hnb (by simp)⟩
      | some e =>
        obtain ⟨q, hq⟩ := hR.place he
        have hent := hR.ent _ _ he
        have nn : ∀ (n' : NS), n'.m = (id, n.k) :: n.m → (∀ cs, e ≠ .box cs) → Kle κ' (updK κ' n.k q) → NN hp n n' κ' (updK κ' n.k q) := fun n' hn' hb kle => by
          refine ⟨kle, fun id' cs h1 h2 => ?_⟩
          rw [hn']
          simp only [lk]
          rw [if_neg]
          · exact h2
          · intro ee; subst ee; rw [he] at h1; cases h1; exact hb _ rfl
        cases e with
        | box cs => exact ⟨κ', h, NN.refl, by simp only [MR]; exact hnb (by simp)⟩
        | arr sz xs =>
          simp only
          obtain ⟨g1, g2⟩ := h.snoc (e := .arr sz xs) hm he (fun h => h) hq (by simp only [ER, updK_same] at hent ⊢; rw [← hq]; exact hent)
          refine ⟨_, g1, nn _ rfl (fun _ => by simp) g2, ?_⟩
          simp only [MR, updK_same]
          rw [← hq]; exact hd
        | imm sz xs =>
          simp only
          obtain ⟨g1, g2⟩ := h.snoc (e := .imm sz xs) hm he (fun h => h) hq (by simp only [ER, updK_same] at hent ⊢; rw [← hq]; exact hent)
          refine ⟨_, g1, nn _ rfl (fun _ => by simp) g2, ?_⟩
          simp only [MR, updK_same]
          rw [← hq]; exact hd
  case nl sz =>
    simp only [ren0]
    obtain ⟨g1, g2⟩ := h.snocNil sz
    refine ⟨_, g1, ⟨g2, fun _ _ _ h => h⟩, ?_⟩
    simp only [MR] at hd ⊢
    exact .inl ⟨sz, updK_same, hd, trivial, trivial⟩
  case int => exact ⟨κ', h, NN.refl, by simpa only [ren0, MR] using hd⟩
  case bool => exact ⟨κ', h, NN.refl, by simpa only [ren0, MR] using hd⟩
  case lst => exact ⟨κ', h, NN.refl, by simpa only [ren0, MR] using hd⟩
  case ref => exact ⟨κ', h, NN.refl, by simpa only [ren0, MR] using hd⟩
  all_goals exact un (by simp) rfl

theorem renL_sound (f : NS → D → D × NS) (hf : ∀ (n : NS) (κ' : Nat → Option KI) (d : D) (v : Value), NI B κ hp w n κ' → MR w (Im B κ hp w) κ d v →
      ∃ κ'', NI B κ hp w (f n d).2 κ'' ∧ NN hp n (f n d).2 κ' κ'' ∧ MR w (Im B κ hp w) κ'' (f n d).1 v) :
    ∀ (ds : List D) (n : NS) (κ' : Nat → Option KI) (vs : List Value), NI B κ hp w n κ' → MRs w (Im B κ hp w) κ ds vs →
      ∃ κ'', NI B κ hp w (renL f n ds).2 κ'' ∧ NN hp n (renL f n ds).2 κ' κ'' ∧ MRs w (Im B κ hp w) κ'' (renL f n ds).1 vs
  | [], n, κ', vs, h, hd => by
    simp only [MRs] at hd
    subst hd
    exact ⟨κ', h, NN.refl, by simp only [renL, MRs]⟩
  | d :: ds, n, κ', vs, h, hd => by
    simp only [MRs] at hd
    obtain ⟨v, vs', rfl, h1, h2⟩ := hd
    obtain ⟨κ1, a1, b1, c1⟩ := hf n κ' d v h h1
    obtain ⟨κ2, a2, b2, c2⟩ := renL_sound f hf ds _ κ1 vs' a1 h2
    refine ⟨κ2, a2, b1.trans b2, ?_⟩
    simp only [renL, MRs]
    exact ⟨v, vs', rfl, c1.mono ⟨fun _ h => h, fun _ _ => rfl⟩ b2.kle, c2⟩

theorem ren1_sound (hR : RH B κ hp F w) (h : NI B κ hp w n κ') {d : D} {v : Value} (hd : MR w (Im B κ hp w) κ d v) :
    ∃ κ'', NI B κ hp w (ren1 hp n d).2 κ'' ∧ MR w (Im B κ hp w) κ'' (ren1 hp n d).1 v ∧ Kle κ' κ'' := by
  have hnb := MR.nb hd
  have zero : ren1 hp n d = ren0 hp n d → ∃ κ'', NI B κ hp w (ren1 hp n d).2 κ'' ∧ MR w (Im B κ hp w) κ'' (ren1 hp n d).1 v ∧ Kle κ' κ'' := fun e => by
    rw [e]
    obtain ⟨κ1, a1, b1, c1⟩ := ren0_sound hR h hd
    exact ⟨κ1, a1, c1, b1.kle⟩
  cases d
  case agg cs =>
    simp only [MR] at hd
    obtain ⟨vs, rfl, h1, h2⟩ := hd
    obtain ⟨κ1, a1, b1, c1⟩ := renL_sound (ren0 hp) (fun n κ' d v h hd => ren0_sound hR h hd) cs n κ' _ h h2
    exact ⟨κ1, a1, by simp only [ren1, MR]; exact ⟨vs, rfl, h1, c1⟩, b1.kle⟩
  case pt id off =>
    simp only [MR] at hd
    obtain ⟨b, hb, rfl⟩ := hd
    simp only [ren1]
    cases hm : lk n.m id with
    | some j =>
      simp only
      obtain ⟨h1, _⟩ := h.map _ _ hm
      refine ⟨κ', h, ?_, fun _ _ h => h⟩
      simp only [MR, h1]
      exact ⟨b, hb, rfl⟩
    | none =>
      simp only
      cases he : lk hp id with
      | none => exact ⟨κ', h, by simp only [MR]; exact hnb (by simp), fun _ _ h => h⟩
      | some e =>
        cases e with
        | arr => exact ⟨κ', h, by simp only [MR]; exact hnb (by simp), fun _ _ h => h⟩
        | imm => exact ⟨κ', h, by simp only [MR]; exact hnb (by simp), fun _ _ h => h⟩
        | box cs =>
          simp only [renBox]
          have hent := hR.ent _ _ he
          simp only [ER] at hent
          obtain ⟨b', cur, e, hb', hg, h1, h2⟩ := hent
          rw [hb] at hb'
          cases hb'
          obtain ⟨κ1, a1, b1, c1⟩ := renL_sound (ren0 hp) (fun n κ' d v h hd => ren0_sound hR h hd) cs n κ' _ h h2
          obtain ⟨g1, g2⟩ := a1.snoc (id := id) (e := .box (renL (ren0 hp) n cs).1) (e0 := .box cs) (b1.box id cs he hm) he (fun _ => rfl) hb (by
            simp only [ER, updK_same]
            refine ⟨b, cur, e, rfl, hg, h1, ?_⟩
            refine c1.mono ⟨fun _ h => h, fun _ _ => rfl⟩ ?_
            intro j k hj
            rw [updK_ne]
            · exact hj
            · intro e; subst e; rw [a1.fr _ (Nat.le_refl _)] at hj; cases hj)
          refine ⟨_, g1, ?_, fun _ _ h => g2 _ _ (b1.kle _ _ h)⟩
          simp only [MR, updK_same]
          exact ⟨b, rfl, rfl⟩
  all_goals exact zero rfl

theorem ren1L_sound (hR : RH B κ hp F w) : ∀ (ds : List D) (n : NS) (κ' : Nat → Option KI) (vs : List Value), NI B κ hp w n κ' → MRs w (Im B κ hp w) κ ds vs →
      ∃ κ'', NI B κ hp w (renL (ren1 hp) n ds).2 κ'' ∧ MRs w (Im B κ hp w) κ'' (renL (ren1 hp) n ds).1 vs ∧ Kle κ' κ''
  | [], n, κ', vs, h, hd => by
    simp only [MRs] at hd
    subst hd
    exact ⟨κ', h, by simp only [renL, MRs], fun _ _ h => h⟩
  | d :: ds, n, κ', vs, h, hd => by
    simp only [MRs] at hd
    obtain ⟨v, vs', rfl, h1, h2⟩ := hd
    obtain ⟨κ1, a1, c1, b1⟩ := ren1_sound hR h h1
    obtain ⟨κ2, a2, c2, b2⟩ := ren1L_sound hR ds _ κ1 vs' a1 h2
    refine ⟨κ2, a2, ?_, fun _ _ h => b2 _ _ (b1 _ _ h)⟩
    simp only [renL, MRs]
    exact ⟨v, vs', rfl, c1.mono ⟨fun _ h => h, fun _ _ => rfl⟩ b2, c2⟩

theorem ren2_sound (hR : RH B κ hp F w) (h : NI B κ hp w n κ') {d : D} {v : Value} (hd : MR w (Im B κ hp w) κ d v) :
    ∃ κ'', NI B κ hp w (ren2 hp n d).2 κ'' ∧ MR w (Im B κ hp w) κ'' (ren2 hp n d).1 v ∧ Kle κ' κ'' := by
  cases d
  case clo f cs =>
    simp only [MR] at hd
    obtain ⟨vs, rfl, h2⟩ := hd
    obtain ⟨κ1, a1, c1, b1⟩ := ren1L_sound hR cs n κ' _ h h2
    exact ⟨κ1, a1, by simp only [ren2, MR]; exact ⟨vs, rfl, c1⟩, b1⟩
  case tup cs =>
    simp only [MR] at hd
    obtain ⟨vs, rfl, h2⟩ := hd
    obtain ⟨κ1, a1, c1, b1⟩ := ren1L_sound hR cs n κ' _ h h2
    exact ⟨κ1, a1, by simp only [ren2, MR]; exact ⟨vs, rfl, c1⟩, b1⟩
  all_goals exact ren1_sound hR h hd

theorem normGo_sound {s : St} {tm : Array Value} (hR : RH B κ s.hp F w) (hS : RS B κ s.hp w s.sl tm) : ∀ (keep : List Nat) (n : NS) (κ' : Nat → Option KI), NI B κ s.hp w n κ' →
    ∃ κ'', NI B κ s.hp w (normGo s keep n).2 κ'' ∧ Kle κ' κ'' ∧ ∀ t d, lk (normGo s keep n).1 t = some d → ∃ v, tm[t]? = some v ∧ MR w (Im B κ s.hp w) κ'' d v
  | [], n, κ', h => ⟨κ', h, fun _ _ h => h, by simp [normGo, lk]⟩
  | t :: keep, n, κ', h => by
    simp only [normGo]
    cases ht : lk s.sl t with
    | none =>
      simp only
      exact normGo_sound hR hS keep n κ' h
    | some d =>
      simp only
      obtain ⟨v, hv, hm⟩ := hS.sl t d ht
      obtain ⟨κ1, a1, c1, b1⟩ := ren2_sound hR h hm
      obtain ⟨κ2, a2, b2, c2⟩ := normGo_sound hR hS keep _ κ1 a1
      refine ⟨κ2, a2, fun _ _ h => b2 _ _ (b1 _ _ h), fun t' d' hl => ?_⟩
      simp only [lk] at hl
      split at hl
      · rename_i e
        simp only [Option.some.injEq] at hl
        subst e hl
        exact ⟨v, hv, c1.mono ⟨fun _ h => h, fun _ _ => rfl⟩ b2⟩
      · exact c2 t' d' hl

theorem norm_sound {s : St} {tm : Array Value} (hR : RH B κ s.hp F w) (hS : RS B κ s.hp w s.sl tm) (keep : List Nat) :
    ∃ κ', RH B κ' (norm keep s).hp (fun id => (norm keep s).nx ≤ id) w ∧ RS B κ' (norm keep s).hp w (norm keep s).sl tm := by
  obtain ⟨κ1, a1, _, c1⟩ := normGo_sound hR hS keep ⟨[], [], 0⟩ (fun _ => none) ⟨fun _ _ => rfl, by simp [lk], by simp [lk], by rintro j b ⟨e, k, h1, _⟩; simp [lk] at h1⟩
  have hown : ∀ b, OwnB κ1 (norm keep s).hp b → OwnB κ s.hp b := fun b ⟨j, hj⟩ => let ⟨id, _, h⟩ := a1.own j b hj; ⟨id, h⟩
  have hk : Keep w w (Im B κ s.hp w) (Im B κ1 (norm keep s).hp w) := ⟨fun b ⟨h1, h2, h3⟩ => ⟨h1, h2, fun h => h3 (hown b h)⟩, fun _ _ => rfl⟩
  refine ⟨κ1, ⟨hR.stp, a1.fr, fun id e he => ?_, fun b hb => hR.own b (hown b hb), fun j j' b h1 h2 => ?_⟩, ⟨hS.size, fun t d ht => ?_, hS.fx⟩⟩
  · exact (a1.ent id e he).2.mono hk (fun _ _ h => h) (fun _ _ _ _ _ => rfl)
  · obtain ⟨id, g1, g2⟩ := a1.own j b h1
    obtain ⟨id', g3, g4⟩ := a1.own j' b h2
    have := hR.inj _ _ _ g2 g4
    subst this
    rw [g1] at g3
    exact Option.some.inj g3
  · obtain ⟨v, hv, hm⟩ := c1 t d ht
    exact ⟨v, hv, hm.mono hk (fun _ _ h => h)⟩
end
end Go.Am
