/- Canonical states: the same memory under other numbers. -/
import Derived.Test.YtpdjpdfkacpnnaaAmW
import Derived.Tactics
namespace Go.Am
open Go
section
variable {B : Base} {κ κ' κ'' : Nat → Option KI} {hp : Hp} {F : Nat → Prop} {w : World} {n n' : NS}
structure NI (B : Base) (κ : Nat → Option KI) (hp : Hp) (w : World) (n : NS) (κ' : Nat → Option KI) : Prop where
 fr : ∀ j, n.k ≤ j → κ' j = none
 map : ∀ id j, lk n.m id = some j → κ' j = κ id ∧ j < n.k
 ent : ∀ j e, lk n.e j = some e → j < n.k ∧ ER w (Im B κ hp w) κ' j e
 own : ∀ j b, OB κ' n.e w j b → ∃ id, lk n.m id = some j ∧ OB κ hp w id b
structure NN (hp : Hp) (n n' : NS) (κ' κ'' : Nat → Option KI) : Prop where
 kle : Kle κ' κ''
 box : ∀ id cs, lk hp id = some (.box cs) → lk n.m id = none → lk n'.m id = none
theorem NN.refl : NN hp n n κ κ := ⟨fun _ _ h => h, fun _ _ _ h => h⟩
theorem NN.trans {n'' : NS} (h : NN hp n n' κ κ') (k : NN hp n' n'' κ' κ'') : NN hp n n'' κ κ'' :=
 ⟨fun _ _ e => k.kle _ _ (h.kle _ _ e), fun id cs h1 h2 => k.box id cs h1 (h.box id cs h1 h2)⟩
theorem NI.ends (h : NI B κ hp w n κ') : lk n.e n.k = none := by
 cases he : lk n.e n.k with
 | none => rfl
 | some e => have := (h.ent _ _ he).1; omega
theorem NI.snoc (h : NI B κ hp w n κ') {id : Nat} {e e0 : Ent} (hid : lk n.m id = none) (he0 : lk hp id = some e0) (how : e.owned = true → e0.owned = true ∧ ∀ k b, Ow w e k b → Ow w e0 k b) {q : KI} (hq : κ id = some q)
  (he : ER w (Im B κ hp w) (updK κ' n.k q) n.k e) : NI B κ hp w ⟨(id, n.k) :: n.m, n.e ++ [(n.k, e)], n.k + 1⟩ (updK κ' n.k q) ∧ Kle κ' (updK κ' n.k q) := by
 have kle : Kle κ' (updK κ' n.k q) := fun j k hj => by
  rw [updK_ne]
  ·exact hj
  ·intro e; subst e; rw [h.fr _ (Nat.le_refl _)] at hj; cases hj
 have hends := h.ends
 refine ⟨⟨fun j hj => ?_, fun id' j hj => ?_, fun j e' hj => ?_, fun j b hj => ?_⟩, kle⟩
 ·simp only at hj
  rw [updK_ne (by omega)]
  exact h.fr j (by omega)
 ·simp only [lk] at hj
  split at hj
  ·rename_i hi
   simp only [Option.some.injEq] at hj
   subst hi hj
   exact ⟨by rw [updK_same, hq], by simp⟩
  ·obtain ⟨h1, h2⟩ := h.map _ _ hj
   exact ⟨by rw [updK_ne (by omega), h1], by simp only; omega⟩
 ·simp only [lk_append] at hj
  cases hl : lk n.e j with
  | some e1 =>
   rw [hl] at hj
   simp only [Option.some_or, Option.some.injEq] at hj
   subst hj
   obtain ⟨h1, h2⟩ := h.ent _ _ hl
   exact ⟨by simp only; omega, h2.mono ⟨fun _ h => h, fun _ _ => rfl⟩ kle (fun _ _ _ _ _ => rfl)⟩
  | none =>
   rw [hl] at hj
   simp only [Option.none_or, lk] at hj
   split at hj
   ·rename_i hjk
    simp only [Option.some.injEq] at hj
    subst hjk hj
    exact ⟨by simp, he⟩
   ·cases hj
 ·obtain ⟨e1, k, h1, h2, h3, h4⟩ := hj
  simp only [lk_append] at h1
  cases hl : lk n.e j with
  | some e2 =>
   rw [hl] at h1
   simp only [Option.some_or, Option.some.injEq] at h1
   subst h1
   have hjk := (h.ent _ _ hl).1
   rw [updK_ne (by omega)] at h3
   obtain ⟨id', g1, g2⟩ := h.own j b ⟨_, _, hl, h2, h3, h4⟩
   refine ⟨id', ?_, g2⟩
   simp only [lk]
   rw [if_neg]
   ·exact g1
   ·intro e; subst e; rw [hid] at g1; cases g1
  | none =>
   rw [hl] at h1
   simp only [Option.none_or, lk] at h1
   split at h1
   ·rename_i hjk
    simp only [Option.some.injEq] at h1
    subst hjk h1
    rw [updK_same, Option.some.injEq] at h3
    subst h3
    exact ⟨id, by simp [lk], e0, q, he0, (how h2).1, hq, (how h2).2 _ _ h4⟩
   ·cases h1
theorem NI.snocNil (h : NI B κ hp w n κ') (sz : Nat) : NI B κ hp w ⟨n.m, n.e ++ [(n.k, .arr sz [])], n.k + 1⟩ (updK κ' n.k (.nil sz)) ∧ Kle κ' (updK κ' n.k (.nil sz)) := by
 have kle : Kle κ' (updK κ' n.k (.nil sz)) := fun j k hj => by
  rw [updK_ne]
  ·exact hj
  ·intro e; subst e; rw [h.fr _ (Nat.le_refl _)] at hj; cases hj
 refine ⟨⟨fun j hj => ?_, fun id' j hj => ?_, fun j e' hj => ?_, fun j b hj => ?_⟩, kle⟩
 ·simp only at hj
  rw [updK_ne (by omega)]
  exact h.fr j (by omega)
 ·obtain ⟨h1, h2⟩ := h.map _ _ hj
  exact ⟨by rw [updK_ne (by omega), h1], by simp only; omega⟩
 ·simp only [lk_append] at hj
  cases hl : lk n.e j with
  | some e1 =>
   rw [hl] at hj
   simp only [Option.some_or, Option.some.injEq] at hj
   subst hj
   obtain ⟨h1, h2⟩ := h.ent _ _ hl
   exact ⟨by simp only; omega, h2.mono ⟨fun _ h => h, fun _ _ => rfl⟩ kle (fun _ _ _ _ _ => rfl)⟩
  | none =>
   rw [hl] at hj
   simp only [Option.none_or, lk] at hj
   split at hj
   ·rename_i hjk
    simp only [Option.some.injEq] at hj
    subst hjk hj
    refine ⟨by simp, ?_⟩
    simp only [ER]
    exact ⟨by simp, .inl ⟨updK_same, trivial⟩⟩
   ·cases hj
 ·obtain ⟨e1, k, h1, h2, h3, h4⟩ := hj
  simp only [lk_append] at h1
  cases hl : lk n.e j with
  | some e2 =>
   rw [hl] at h1
   simp only [Option.some_or, Option.some.injEq] at h1
   subst h1
   have hjk := (h.ent _ _ hl).1
   rw [updK_ne (by omega)] at h3
   exact h.own j b ⟨_, _, hl, h2, h3, h4⟩
  | none =>
   rw [hl] at h1
   simp only [Option.none_or, lk] at h1
   split at h1
   ·rename_i hjk
    subst hjk
    rw [updK_same, Option.some.injEq] at h3
    subst h3
    simp only [Option.some.injEq] at h1
    subst h1
    cases h4.own1 rfl
   ·cases h1
theorem ren0_sound (hR : RH B κ hp F w) (h : NI B κ hp w n κ') {d : D} {v : Value} (hd : MR w (Im B κ hp w) κ d v) :
  ∃ κ'', NI B κ hp w (ren0 hp n d).2 κ'' ∧ NN hp n (ren0 hp n d).2 κ' κ'' ∧ MR w (Im B κ hp w) κ'' (ren0 hp n d).1 v := by
 have hnb := MR.nb hd
 have un : (∀ b, d ≠ .bool b) → ren0 hp n d = (.undef, n) → ∃ κ'', NI B κ hp w (ren0 hp n d).2 κ'' ∧ NN hp n (ren0 hp n d).2 κ' κ'' ∧ MR w (Im B κ hp w) κ'' (ren0 hp n d).1 v := fun e0 e => by
  rw [e]; exact ⟨κ', h, NN.refl, by simp only [MR]; exact hnb e0⟩
 cases d
 case sl id lo len =>
  simp only [MR] at hd
  simp only [ren0]
  cases hm : lk n.m id with
  | some j =>
   simp only
   obtain ⟨h1, _⟩ := h.map _ _ hm
   refine ⟨κ', h, NN.refl, ?_⟩
   simp only [MR, h1]
   exact hd
  | none =>
   simp only
   cases he : lk hp id with
   | none => exact ⟨κ', h, NN.refl, by simp only [MR]; exact hnb (by simp)⟩
   | some e =>
    obtain ⟨q, hq⟩ := hR.place he
    have hent := hR.ent _ _ he
    have nn : ∀ (n' : NS), n'.m = (id, n.k) :: n.m → (∀ cs, e ≠ .box cs) → Kle κ' (updK κ' n.k q) → NN hp n n' κ' (updK κ' n.k q) := fun n' hn' hb kle => by
     refine ⟨kle, fun id' cs h1 h2 => ?_⟩
     rw [hn']
     simp only [lk]
     rw [if_neg]
     ·exact h2
     ·intro ee; subst ee; rw [he] at h1; cases h1; exact hb _ rfl
    cases e with
    | box cs => exact ⟨κ', h, NN.refl, by simp only [MR]; exact hnb (by simp)⟩
    | arr sz xs =>
     simp only
     obtain ⟨g1, g2⟩ := h.snoc (e := .arr sz xs) hm he (fun h => ⟨h, fun _ _ h => h⟩) hq (by simp only [ER, updK_same] at hent ⊢; rw [← hq]; exact hent)
     refine ⟨_, g1, nn _ rfl (fun _ => by simp) g2, ?_⟩
     simp only [MR, updK_same]
     rw [← hq]; exact hd
    | imm sz xs =>
     simp only
     obtain ⟨g1, g2⟩ := h.snoc (e := .imm sz xs) hm he (fun h => ⟨h, fun _ _ h => h⟩) hq (by simp only [ER, updK_same] at hent ⊢; rw [← hq]; exact hent)
     refine ⟨_, g1, nn _ rfl (fun _ => by simp) g2, ?_⟩
     simp only [MR, updK_same]
     rw [← hq]; exact hd
    | nst sz l =>
     simp only
     obtain ⟨g1, g2⟩ := h.snoc (e := .nst sz l) hm he (fun h => ⟨h, fun _ _ h => h⟩) hq (by simp only [ER, updK_same] at hent ⊢; rw [← hq]; exact hent)
     refine ⟨_, g1, nn _ rfl (fun _ => by simp) g2, ?_⟩
     simp only [MR, updK_same]
     rw [← hq]; exact hd
 case nl sz =>
  simp only [ren0]
  obtain ⟨g1, g2⟩ := h.snocNil sz
  refine ⟨_, g1, ⟨g2, fun _ _ _ h => h⟩, ?_⟩
  simp only [MR] at hd ⊢
  exact .inl ⟨sz, updK_same, hd, trivial, trivial⟩
 case int => exact ⟨κ', h, NN.refl, by simpa only [ren0, MR] using hd⟩
 case bool => exact ⟨κ', h, NN.refl, by simpa only [ren0, MR] using hd⟩
 case lst => exact ⟨κ', h, NN.refl, by simpa only [ren0, MR] using hd⟩
 case ref => exact ⟨κ', h, NN.refl, by simpa only [ren0, MR] using hd⟩
 all_goals exact un (by simp) rfl
theorem renL_sound (f : NS → D → D × NS) (hf : ∀ (n : NS) (κ' : Nat → Option KI) (d : D) (v : Value), NI B κ hp w n κ' → MR w (Im B κ hp w) κ d v →
   ∃ κ'', NI B κ hp w (f n d).2 κ'' ∧ NN hp n (f n d).2 κ' κ'' ∧ MR w (Im B κ hp w) κ'' (f n d).1 v) :
  ∀ (ds : List D) (n : NS) (κ' : Nat → Option KI) (vs : List Value), NI B κ hp w n κ' → MRs w (Im B κ hp w) κ ds vs →
   ∃ κ'', NI B κ hp w (renL f n ds).2 κ'' ∧ NN hp n (renL f n ds).2 κ' κ'' ∧ MRs w (Im B κ hp w) κ'' (renL f n ds).1 vs
 | [], n, κ', vs, h, hd => by
  simp only [MRs] at hd
  subst hd
  exact ⟨κ', h, NN.refl, by simp only [renL, MRs]⟩
 | d :: ds, n, κ', vs, h, hd => by
  simp only [MRs] at hd
  obtain ⟨v, vs', rfl, h1, h2⟩ := hd
  obtain ⟨κ1, a1, b1, c1⟩ := hf n κ' d v h h1
  obtain ⟨κ2, a2, b2, c2⟩ := renL_sound f hf ds _ κ1 vs' a1 h2
  refine ⟨κ2, a2, b1.trans b2, ?_⟩
  simp only [renL, MRs]
  exact ⟨v, vs', rfl, c1.mono ⟨fun _ h => h, fun _ _ => rfl⟩ b2.kle, c2⟩
theorem ren1_sound (hR : RH B κ hp F w) (h : NI B κ hp w n κ') {d : D} {v : Value} (hd : MR w (Im B κ hp w) κ d v) :
  ∃ κ'', NI B κ hp w (ren1 hp n d).2 κ'' ∧ MR w (Im B κ hp w) κ'' (ren1 hp n d).1 v ∧ Kle κ' κ'' := by
 have hnb := MR.nb hd
 have zero : ren1 hp n d = ren0 hp n d → ∃ κ'', NI B κ hp w (ren1 hp n d).2 κ'' ∧ MR w (Im B κ hp w) κ'' (ren1 hp n d).1 v ∧ Kle κ' κ'' := fun e => by
  rw [e]
  obtain ⟨κ1, a1, b1, c1⟩ := ren0_sound hR h hd
  exact ⟨κ1, a1, c1, b1.kle⟩
 cases d
 case agg cs =>
  simp only [MR] at hd
  obtain ⟨vs, rfl, h1, h2⟩ := hd
  obtain ⟨κ1, a1, b1, c1⟩ := renL_sound (ren0 hp) (fun n κ' d v h hd => ren0_sound hR h hd) cs n κ' _ h h2
  exact ⟨κ1, a1, by simp only [ren1, MR]; exact ⟨vs, rfl, h1, c1⟩, b1.kle⟩
 case pt id off =>
  simp only [MR] at hd
  obtain ⟨b, hb, rfl⟩ := hd
  simp only [ren1]
  cases hm : lk n.m id with
  | some j =>
   simp only
   obtain ⟨h1, _⟩ := h.map _ _ hm
   refine ⟨κ', h, ?_, fun _ _ h => h⟩
   simp only [MR, h1]
   exact ⟨b, hb, rfl⟩
  | none =>
   simp only
   cases he : lk hp id with
   | none => exact ⟨κ', h, by simp only [MR]; exact hnb (by simp), fun _ _ h => h⟩
   | some e =>
    cases e with
    | arr => exact ⟨κ', h, by simp only [MR]; exact hnb (by simp), fun _ _ h => h⟩
    | imm => exact ⟨κ', h, by simp only [MR]; exact hnb (by simp), fun _ _ h => h⟩
    | nst => exact ⟨κ', h, by simp only [MR]; exact hnb (by simp), fun _ _ h => h⟩
    | box cs =>
     simp only [renBox]
     have hent := hR.ent _ _ he
     simp only [ER] at hent
     obtain ⟨b', cur, e, hb', hg, h1, h2⟩ := hent
     rw [hb] at hb'
     cases hb'
     obtain ⟨κ1, a1, b1, c1⟩ := renL_sound (ren0 hp) (fun n κ' d v h hd => ren0_sound hR h hd) cs n κ' _ h h2
     obtain ⟨g1, g2⟩ := a1.snoc (id := id) (e := .box (renL (ren0 hp) n cs).1) (e0 := .box cs) (b1.box id cs he hm) he (fun _ => ⟨rfl, fun _ _ h => .inl (h.own1 rfl)⟩) hb (by
      simp only [ER, updK_same]
      refine ⟨b, cur, e, rfl, hg, h1, ?_⟩
      refine c1.mono ⟨fun _ h => h, fun _ _ => rfl⟩ ?_
      intro j k hj
      rw [updK_ne]
      ·exact hj
      ·intro e; subst e; rw [a1.fr _ (Nat.le_refl _)] at hj; cases hj)
     refine ⟨_, g1, ?_, fun _ _ h => g2 _ _ (b1.kle _ _ h)⟩
     simp only [MR, updK_same]
     exact ⟨b, rfl, rfl⟩
 all_goals exact zero rfl
theorem ren1L_sound (hR : RH B κ hp F w) : ∀ (ds : List D) (n : NS) (κ' : Nat → Option KI) (vs : List Value), NI B κ hp w n κ' → MRs w (Im B κ hp w) κ ds vs →
   ∃ κ'', NI B κ hp w (renL (ren1 hp) n ds).2 κ'' ∧ MRs w (Im B κ hp w) κ'' (renL (ren1 hp) n ds).1 vs ∧ Kle κ' κ''
 | [], n, κ', vs, h, hd => by
  simp only [MRs] at hd
  subst hd
  exact ⟨κ', h, by simp only [renL, MRs], fun _ _ h => h⟩
 | d :: ds, n, κ', vs, h, hd => by
  simp only [MRs] at hd
  obtain ⟨v, vs', rfl, h1, h2⟩ := hd
  obtain ⟨κ1, a1, c1, b1⟩ := ren1_sound hR h h1
  obtain ⟨κ2, a2, c2, b2⟩ := ren1L_sound hR ds _ κ1 vs' a1 h2
  refine ⟨κ2, a2, ?_, fun _ _ h => b2 _ _ (b1 _ _ h)⟩
  simp only [renL, MRs]
  exact ⟨v, vs', rfl, c1.mono ⟨fun _ h => h, fun _ _ => rfl⟩ b2, c2⟩
theorem ren2_sound (hR : RH B κ hp F w) (h : NI B κ hp w n κ') {d : D} {v : Value} (hd : MR w (Im B κ hp w) κ d v) :
  ∃ κ'', NI B κ hp w (ren2 hp n d).2 κ'' ∧ MR w (Im B κ hp w) κ'' (ren2 hp n d).1 v ∧ Kle κ' κ'' := by
 cases d
 case clo f cs =>
  simp only [MR] at hd
  obtain ⟨vs, rfl, h2⟩ := hd
  obtain ⟨κ1, a1, c1, b1⟩ := ren1L_sound hR cs n κ' _ h h2
  exact ⟨κ1, a1, by simp only [ren2, MR]; exact ⟨vs, rfl, c1⟩, b1⟩
 case tup cs =>
  simp only [MR] at hd
  obtain ⟨vs, rfl, h2⟩ := hd
  obtain ⟨κ1, a1, c1, b1⟩ := ren1L_sound hR cs n κ' _ h h2
  exact ⟨κ1, a1, by simp only [ren2, MR]; exact ⟨vs, rfl, c1⟩, b1⟩
 all_goals exact ren1_sound hR h hd
theorem normGo_sound {s : St} {tm : Array Value} (hR : RH B κ s.hp F w) (hS : RS B κ s.hp w s.sl tm) : ∀ (keep : List Nat) (n : NS) (κ' : Nat → Option KI), NI B κ s.hp w n κ' →
  ∃ κ'', NI B κ s.hp w (normGo s keep n).2 κ'' ∧ Kle κ' κ'' ∧ ∀ t d, lk (normGo s keep n).1 t = some d → ∃ v, tm[t]? = some v ∧ MR w (Im B κ s.hp w) κ'' d v
 | [], n, κ', h => ⟨κ', h, fun _ _ h => h, by simp [normGo, lk]⟩
 | t :: keep, n, κ', h => by
  simp only [normGo]
  cases ht : lk s.sl t with
  | none =>
   simp only
   exact normGo_sound hR hS keep n κ' h
  | some d =>
   simp only
   obtain ⟨v, hv, hm⟩ := hS.sl t d ht
   obtain ⟨κ1, a1, c1, b1⟩ := ren2_sound hR h hm
   obtain ⟨κ2, a2, b2, c2⟩ := normGo_sound hR hS keep _ κ1 a1
   refine ⟨κ2, a2, fun _ _ h => b2 _ _ (b1 _ _ h), fun t' d' hl => ?_⟩
   simp only [lk] at hl
   split at hl
   ·rename_i e
    simp only [Option.some.injEq] at hl
    subst e hl
    exact ⟨v, hv, c1.mono ⟨fun _ h => h, fun _ _ => rfl⟩ b2⟩
   ·exact c2 t' d' hl
theorem norm_sound {s : St} {tm : Array Value} (hR : RH B κ s.hp F w) (hS : RS B κ s.hp w s.sl tm) (keep : List Nat) :
  ∃ κ', RH B κ' (norm keep s).hp (fun id => (norm keep s).nx ≤ id) w ∧ RS B κ' (norm keep s).hp w (norm keep s).sl tm := by
 obtain ⟨κ1, a1, _, c1⟩ := normGo_sound hR hS keep ⟨[], [], 0⟩ (fun _ => none) ⟨fun _ _ => rfl, by simp [lk], by simp [lk], by rintro j b ⟨e, k, h1, _⟩; simp [lk] at h1⟩
 have hown : ∀ b, OwnB κ1 (norm keep s).hp w b → OwnB κ s.hp w b := fun b ⟨j, hj⟩ => let ⟨id, _, h⟩ := a1.own j b hj; ⟨id, h⟩
 have hk : Keep w w (Im B κ s.hp w) (Im B κ1 (norm keep s).hp w) := ⟨fun b ⟨h1, h2, h3⟩ => ⟨h1, h2, fun h => h3 (hown b h)⟩, fun _ _ => rfl⟩
 refine ⟨κ1, ⟨hR.stp, a1.fr, fun id e he => ?_, fun b hb => hR.own b (hown b hb), fun j j' b h1 h2 => ?_⟩, ⟨hS.size, fun t d ht => ?_, hS.fx⟩⟩
 ·exact (a1.ent id e he).2.mono hk (fun _ _ h => h) (fun _ _ _ _ _ => rfl)
 ·obtain ⟨id, g1, g2⟩ := a1.own j b h1
  obtain ⟨id', g3, g4⟩ := a1.own j' b h2
  have := hR.inj _ _ _ g2 g4
  subst this
  rw [g1] at g3
  exact Option.some.inj g3
 ·obtain ⟨v, hv, hm⟩ := c1 t d ht
  exact ⟨v, hv, hm.mono hk (fun _ _ h => h)⟩
end
theorem wp_loop_idx {P : Program} {c : Code} {Q : Exit → Act → World → Prop} {a : Act} {w : World} {m : Nat} (J : Nat → Act → World → Prop) (h₀ : J m a w)
  (round : ∀ m a w, J m a w → c.wp P (Exit.then (fun a' w' => ∃ m', m' < m ∧ J m' a' w') Q) a w) : (Code.loop c).wp P Q a w := by
 intro b k cs
 have key : ∀ n a w, J n a w →
   ∃ e a' w', Q e a' w' ∧ Arrives P (lone (b.at a (.code c :: .inLoop c :: k)) cs w) b k cs e a' w' := by
  intro n
  induction n using Nat.strongRecOn with
  | _ n ih =>
   intro a w hI
   obtain ⟨e, a₁, w₁, hq, harr⟩ := round n a w hI b (.inLoop c :: k) cs
   cases e with
   | normal =>
    obtain ⟨m', hlt, hI₁⟩ := hq
    obtain ⟨e₂, a₂, w₂, hq₂, harr₂⟩ := ih m' hlt a₁ w₁ hI₁
    exact ⟨e₂, a₂, w₂, hq₂, .of_steps (Steps.trans harr (.one step_inLoop)) harr₂⟩
   | exit id => exact ⟨_, a₁, w₁, hq, .pass (x := .inLoop c) rfl (fun _ _ => .inl (by simp)) harr⟩
   | goto l => exact ⟨_, a₁, w₁, hq, .pass (x := .inLoop c) rfl (fun _ _ => .inl (by simp)) harr⟩
   | ret => exact ⟨_, a₁, w₁, hq, .pass (x := .inLoop c) rfl (fun _ _ => .inl (by simp)) harr⟩
   | panic ch => exact ⟨_, a₁, w₁, hq, .pass (x := .inLoop c) rfl (fun _ _ => .inl (by simp)) harr⟩
   | outgrown => exact ⟨_, a₁, w₁, hq, .pass (x := .inLoop c) rfl (fun _ _ => .inl (by simp)) harr⟩
 obtain ⟨e, a', w', hq, harr⟩ := key _ a w h₀
 exact ⟨e, a', w', hq, .of_steps (.one step_loop) harr⟩
def toExit : LX → Exit
 | .normal => .normal
 | .exit id => .exit id
 | .ret => .ret
def At (B : Base) (s : St) (a : Act) (w : World) : Prop := a.defers = [] ∧ ∃ κ, RH B κ s.hp (fun id => s.nx ≤ id) w ∧ RS B κ s.hp w s.sl a.tmps
theorem At.fil {B : Base} {s : St} {a : Act} {w : World} {keep : List Nat} (h : At B s a w) : At B ⟨fil keep s.sl, s.hp, s.nx⟩ a w := by
 obtain ⟨hd, κ, h1, h2⟩ := h
 refine ⟨hd, κ, h1, ⟨h2.size, fun t d ht => ?_, h2.fx⟩⟩
 simp only [lk_fil] at ht
 split at ht
 ·exact h2.sl t d ht
 ·cases ht
theorem At.norm {B : Base} {s : St} {a : Act} {w : World} {keep : List Nat} (h : At B s a w) : At B (norm keep s) a w := by
 obtain ⟨hd, κ, h1, h2⟩ := h
 obtain ⟨κ', g1, g2⟩ := norm_sound h1 h2 keep
 exact ⟨hd, κ', g1, g2⟩
theorem bran_case {o : Option D} {p q : Prop} (hb : bran o p q) : ∃ c : Bool, o = some (.bool c) ∧ (c = true → p) ∧ (c = false → q) := by
 unfold bran at hb
 split at hb
 ·exact ⟨_, rfl, hb.1, hb.2⟩
 ·exact hb.elim
theorem code_sound {P : Program} {B : Base} {H : Hints} (hmx : P.follows .mixedOrders = true) (hfx : B.fx = H.fx) :
  ∀ (c : Code) (lc : LC), cC P H B.N c = some lc → ∀ (Qa : LX → St → Prop) (Q : Exit → Act → World → Prop) (s : St) (a : Act) (w : World),
   At B s a w → W P lc Qa s → (∀ e s' a' w', Qa e s' → At B s' a' w' → Q (toExit e) a' w') → c.wp P Q a w
 | .skip, lc, hc, Qa, Q, s, a, w, hat, hw, hQ => by
  simp only [cC, Option.some.injEq] at hc
  subst hc
  simp only [W] at hw
  exact wp_skip (hQ _ _ _ _ hw hat)
 | .ret, lc, hc, Qa, Q, s, a, w, hat, hw, hQ => by
  simp only [cC, Option.some.injEq] at hc
  subst hc
  simp only [W] at hw
  exact wp_ret (hQ _ _ _ _ hw hat)
 | .exit id, lc, hc, Qa, Q, s, a, w, hat, hw, hQ => by
  simp only [cC, Option.some.injEq] at hc
  subst hc
  simp only [W] at hw
  exact wp_exit (hQ _ _ _ _ hw hat)
 | .seq x y, lc, hc, Qa, Q, s, a, w, hat, hw, hQ => by
  simp only [cC] at hc
  split at hc
  case h_2 => cases hc
  rename_i lx ly hx hy
  simp only [Option.some.injEq] at hc
  subst hc
  simp only [W] at hw
  refine wp_seq (code_sound hmx hfx x lx hx _ _ s a w hat hw fun e s' a' w' he hat' => ?_)
  cases e with
  | normal => exact code_sound hmx hfx y ly hy _ _ s' a' w' hat' he hQ
  | exit id => exact hQ _ _ _ _ he hat'
  | ret => exact hQ _ _ _ _ he hat'
 | .region id ops draw, lc, hc, Qa, Q, s, a, w, hat, hw, hQ => by
  simp only [cC] at hc
  split at hc
  case h_2 => cases hc
  rename_i l hl
  obtain ⟨hd, κ, h1, h2⟩ := hat
  cases draw with
  | false =>
   simp only [Bool.false_eq_true, if_false, Option.some.injEq] at hc
   subst hc
   simp only [W] at hw
   refine wp_region_list (ops_sound hfx hl h1 h2 hw fun κ' s' a' w' hK hR hS hN hD => ?_)
   exact hQ .normal _ _ _ hK (At.fil ⟨hD.trans hd, κ', hR, hS⟩)
  | true =>
   simp only [if_true, Option.map_eq_some_iff] at hc
   obtain ⟨cs, hcs, rfl⟩ := hc
   simp only [W] at hw
   refine dreg_sound hmx hfx hl hcs h1 h2 hw fun κ' s' a' w' hK hR hS hN hD => ?_
   exact hQ .normal _ _ _ hK (At.fil ⟨hD.trans hd, κ', hR, hS⟩)
 | .cond c x y, lc, hc, Qa, Q, s, a, w, hat, hw, hQ => by
  simp only [cC] at hc
  split at hc
  case h_2 => cases hc
  rename_i lc' lx ly hcx hx hy
  simp only [Option.some.injEq] at hc
  subst hc
  simp only [W] at hw
  obtain ⟨t, ht, g1, g2⟩ := bran_case hw
  obtain ⟨hd, κ, h1, h2⟩ := hat
  have hev := ev_sound (df := a.defers) h2 hcx ht
  simp only [MR] at hev
  refine wp_cond_split hev (fun ht => ?_) (fun ht => ?_)
  ·exact code_sound hmx hfx x lx hx _ _ s a w ⟨hd, κ, h1, h2⟩ (g1 ht) hQ
  ·exact code_sound hmx hfx y ly hy _ _ s a w ⟨hd, κ, h1, h2⟩ (g2 ht) hQ
 | .block id x, lc, hc, Qa, Q, s, a, w, hat, hw, hQ => by
  simp only [cC, Option.map_eq_some_iff] at hc
  obtain ⟨lx, hx, rfl⟩ := hc
  simp only [W] at hw
  refine wp_block (code_sound hmx hfx x lx hx _ _ s a w hat hw fun e s' a' w' he hat' => ?_)
  cases e with
  | normal => exact hQ .normal _ _ _ he hat'
  | exit i =>
   simp only [LX.blk] at he
   simp only [toExit, Exit.inBlock]
   split
   ·rename_i hi; rw [if_pos hi] at he; exact hQ .normal _ _ _ he hat'
   ·rename_i hi; rw [if_neg hi] at he; exact hQ (.exit i) _ _ _ he hat'
  | ret => exact hQ .ret _ _ _ he hat'
 | .loop x, lc, hc, Qa, Q, s, a, w, hat, hw, hQ => by
  simp only [cC, Option.map_eq_some_iff] at hc
  obtain ⟨lx, hx, rfl⟩ := hc
  simp only [W] at hw
  obtain ⟨I, ⟨m, hm⟩, hI⟩ := hw
  refine wp_loop_idx (m := m) (fun m a w => ∃ s, I m s ∧ At B s a w) ⟨_, hm, hat.norm⟩ ?_
  rintro m a w ⟨s, hs, hat⟩
  refine code_sound hmx hfx x lx hx _ _ s a w hat (hI m s hs) fun e s' a' w' he hat' => ?_
  cases e with
  | normal =>
   obtain ⟨m', hlt, hm'⟩ := he
   exact ⟨m', hlt, _, hm', hat'.norm⟩
  | exit i => exact hQ (.exit i) _ _ _ he hat'
  | ret => exact hQ .ret _ _ _ he hat'
 | .label _, lc, hc, _, _, _, _, _, _, _, _ => by simp [cC] at hc
 | .goto _, lc, hc, _, _, _, _, _, _, _, _ => by simp [cC] at hc
 | .scope _, lc, hc, _, _, _, _, _, _, _, _ => by simp [cC] at hc
 | .rangeFunc .., lc, hc, _, _, _, _, _, _, _, _ => by simp [cC] at hc
 | .refuse _, lc, hc, _, _, _, _, _, _, _, _ => by simp [cC] at hc
section
variable {P : Program} {B : Base} {κ : Nat → Option KI} {hp0 hp hp' hp'' : Hp} {F : Nat → Prop} {w : World} {d e : D} {v : Value}
theorem initGo_adopts : ∀ (ds : List D) (t n : Nat), (initGo t n ds).2 = (adopts adopt1 n ds).2 ∧ ∀ s d, lk (initGo t n ds).1 s = some d → ∃ i, s = t + i ∧ (adopts adopt1 n ds).1[i]? = some d
 | [], t, n => by simp [initGo, adopts, lk]
 | d :: ds, t, n => by
  obtain ⟨h1, h2⟩ := initGo_adopts ds (t + 1) (adopt1 n d).2.2
  simp only [initGo, adopts]
  refine ⟨by rw [h1], fun s d' hl => ?_⟩
  simp only [lk] at hl
  split at hl
  ·rename_i hst
   simp only [Option.some.injEq] at hl
   exact ⟨0, by omega, by simp [hl]⟩
  ·obtain ⟨i, g1, g2⟩ := h2 s d' hl
   exact ⟨i + 1, by omega, by simpa using g2⟩
def rsOf (P : Program) : List ResultVar → Option (List RV)
 | [] => some []
 | .tmp t :: l => (rsOf P l).map (.t t :: ·)
 | .cell a t :: l => match isAg P t, szOf P t, rsOf P l with
  | some ag, some m, some l => some (.c a ag m :: l)
  | _, _, _ => none
def resF (tm : Array Value) : ResultVar → Sem Value
 | .tmp t => pure (tm.getD t undef)
 | .cell a t => do loadVar t (← asAddr (tm.getD a undef))
theorem results_eq (fn : Func) (tm : Array Value) : results fn tm = (do
  let vs ← fn.results.mapM (resF tm)
  pure (if h : vs.size = 1 then vs[0] else .tuple vs)) := rfl
theorem results_sound {N : Nat} {tm : Array Value} {s : St} (hB : B.N = N) (h : RH B κ s.hp F w) (hS : RS B κ s.hp w s.sl tm) : ∀ (l : List ResultVar) (rs : List RV) (ds : List D), rsOf P l = some rs → allO (rvGet s) rs = some ds →
  ∃ vs, ((l.mapM (resF tm)).run P w = .ok vs w) ∧ vs.length = l.length ∧ MRs w (Im B κ s.hp w) κ ds vs
 | [], rs, ds, hr, hd => by
  simp only [rsOf, Option.some.injEq] at hr
  subst hr
  simp only [allO, Option.some.injEq] at hd
  subst hd
  exact ⟨[], by simp, rfl, by simp [MRs]⟩
 | .tmp t :: l, rs, ds, hr, hd => by
  simp only [rsOf, Option.map_eq_some_iff] at hr
  obtain ⟨rs', hr, rfl⟩ := hr
  simp only [allO] at hd
  split at hd
  case h_2 => cases hd
  rename_i d ds' h1 h2
  simp only [Option.some.injEq] at hd
  subst hd
  obtain ⟨vs, g1, g2, g3⟩ := results_sound hB h hS l rs' ds' hr h2
  obtain ⟨v, hv, hm⟩ := hS.sl t d h1
  refine ⟨v :: vs, ?_, by simp [g2], by simp only [MRs]; exact ⟨v, vs, rfl, hm, g3⟩⟩
  have : (resF tm (.tmp t)).run P w = .ok v w := by simp [resF, hv]
  rw [List.mapM_cons]
  simp only [Sem.run_bind, this, Result.andThen_ok, g1, Sem.run_pure]
 | .cell a t :: l, rs, ds, hr, hd => by
  simp only [rsOf] at hr
  split at hr
  case h_2 => cases hr
  rename_i ag m rs' hag hm hr'
  simp only [Option.some.injEq] at hr
  subst hr
  simp only [allO] at hd
  split at hd
  case h_2 => cases hd
  rename_i d ds' h1 h2
  simp only [Option.some.injEq] at hd
  subst hd
  obtain ⟨vs, g1, g2, g3⟩ := results_sound hB h hS l rs' ds' hr' h2
  simp only [rvGet] at h1
  split at h1
  case h_2 => cases h1
  rename_i id hla
  split at h1
  case h_2 => cases h1
  rename_i cs hlb
  obtain ⟨pv, hpv, hpm⟩ := hS.sl a _ hla
  obtain ⟨b, cur, ty, k1, k2, k3, k4, k5⟩ := h.box hlb
  simp only [MR, k1, Option.some.injEq, KI.box.injEq] at hpm
  obtain ⟨b', rfl, rfl⟩ := hpm
  obtain ⟨q1, q2⟩ := subCells_inv h1
  simp only [Nat.zero_add, List.drop_zero] at q1 q2
  have k5' := (k5.take m).1
  obtain ⟨r1, r2⟩ := load_MR k5' (fun u hu => k4 u (List.mem_of_mem_take hu)) q2
  have hlen : (cur.toList.take m).length = m := by rw [k5'.length]; simp; omega
  have hload := run_loadVar_mem (P := P) (w := w) (b := b) (off := 0) hag hm (us := cur.toList.take m) (Mem.of_cells k3 (fun j u hj => by
   rw [List.getElem?_take] at hj
   split at hj
   ·simpa using hj
   ·cases hj)) hlen (fun e => by rw [← hlen]; exact r1 e)
  refine ⟨_ :: vs, ?_, by simp [g2], by simp only [MRs]; exact ⟨_, vs, rfl, r2, g3⟩⟩
  have : (resF tm (.cell a t)).run P w = .ok (if ag then .agg (cur.toList.take m).toArray else (cur.toList.take m).headD undef) w := by
   simp only [resF, Array.getD_eq_getD_getElem?, hpv, Option.getD_some, asAddr, Sem.run_bind, Sem.run_pure, Result.andThen_ok, hload]
  rw [List.mapM_cons]
  simp only [Sem.run_bind, this, Result.andThen_ok, g1, Sem.run_pure]
theorem DRs_append {I : Nat → Prop} : ∀ {cs ds : List D} {us : List Value} {os : List Nat}, DRs w I (cs ++ ds) us os → ∃ u v o o', us = u ++ v ∧ os = o ++ o' ∧ DRs w I cs u o ∧ DRs w I ds v o'
 | [], ds, us, os, h => ⟨[], us, [], os, rfl, rfl, by simp [DRs], h⟩
 | c :: cs, ds, us, os, h => by
  simp only [List.cons_append, DRs] at h
  obtain ⟨v, vs', o, o', rfl, rfl, h1, h2⟩ := h
  obtain ⟨u, z, p, q, rfl, rfl, g1, g2⟩ := DRs_append h2
  exact ⟨v :: u, z, o ++ p, q, rfl, by simp, by simp only [DRs]; exact ⟨v, u, o, p, rfl, rfl, h1, g1⟩, g2⟩
theorem run_results {fn : Func} {tm : Array Value} {vs : List Value} (h : (fn.results.toList.mapM (resF tm)).run P w = .ok vs w) :
  (results fn tm).run P w = .ok (match vs with | [v] => v | _ => .tuple vs.toArray) w := by
 have e : fn.results.mapM (resF tm) = List.toArray <$> (fn.results.toList.mapM (resF tm)) := by
  rw [Array.mapM_eq_mapM_toList]
 rw [results_eq, e]
 simp only [map_eq_pure_bind, Sem.run_bind, h, Result.andThen_ok, Sem.run_pure]
 congr 1
 match vs with
 | [] => rfl
 | [v] => rfl
 | _ :: _ :: _ => simp
theorem filterMap_vals {s : St} {tm : Array Value} (hS : RS B κ s.hp w s.sl tm) : ∀ (l : List Nat), (∀ i ∈ l, (lk s.sl i).isSome = true) → MRs w (Im B κ s.hp w) κ (l.filterMap fun i => lk s.sl i) (l.map fun i => tm.getD i undef)
 | [], _ => by simp [MRs]
 | i :: l, h => by
  have hi := h i (by simp)
  cases hl : lk s.sl i with
  | none => rw [hl] at hi; cases hi
  | some d =>
   obtain ⟨v, hv, hm⟩ := hS.sl i d hl
   simp only [List.filterMap_cons, hl, List.map_cons, MRs]
   exact ⟨v, _, by simp [hv], hm, filterMap_vals hS l fun j hj => h j (List.mem_cons_of_mem _ hj)⟩
theorem filterMap_full {s : St} : ∀ {l : List Nat}, l.length ≤ (l.filterMap fun i => lk s.sl i).length → ∀ i ∈ l, (lk s.sl i).isSome = true
 | [], _, i, hi => by cases hi
 | j :: l, h, i, hi => by
  rw [List.filterMap_cons] at h
  cases hl : lk s.sl j with
  | none =>
   rw [hl] at h
   have := List.length_filterMap_le (fun i => lk s.sl i) l
   simp at h; omega
  | some d =>
   rw [hl] at h
   simp only [List.length_cons] at h
   rcases List.mem_cons.1 hi with rfl | hi
   ·rw [hl]; rfl
   ·exact filterMap_full (by omega) i hi
theorem expels_length {f : Hp → D → Option (D × Hp)} : ∀ {ds : List D} {hp hp' : Hp} {es : List D}, expels f hp ds = some (es, hp') → es.length = ds.length
 | [], _, _, _, h => by simp only [expels, Option.some.injEq, Prod.mk.injEq] at h; rw [← h.1]
 | d :: ds, hp, hp', es, h => by
  simp only [expels] at h
  split at h
  case h_2 => cases h
  split at h
  case h_2 => cases h
  rename_i h2
  simp only [Option.some.injEq, Prod.mk.injEq] at h
  rw [← h.1, List.length_cons, List.length_cons, expels_length h2]
theorem callFunc_enter {f : Nat} {fn : Func} (hf : P.funcs[f]? = some fn) (hnm : (fn.name == "runtime.NumGoroutine") = false) {body : Code} (hb : fn.body = some body) (vs : Array Value) (w : World) :
  (callFunc f vs).run P w = .ok (.enter f vs) w := by
 unfold callFunc
 have : ¬ fn.name = "runtime.NumGoroutine" := by simpa using hnm
 simp [hf, this, hb]
theorem FC.of {f : Nat} {fn : Func} {body : Code} {lc : LC} {rs : List RV} {outs : List Nat} {args : List D} {r : D} {os' : List (Nat × D)} {H : Hints}
  (hf : P.funcs[f]? = some fn) (hnm : (fn.name == "runtime.NumGoroutine") = false) (hb : fn.body = some body) (hmx : P.follows .mixedOrders = true) (hfx : H.fx = outs) (hc : cC P H fn.ntmps body = some lc)
  (hrs : rsOf P fn.results.toList = some rs) (hN : args.length ≤ fn.ntmps) (hout : ∀ i ∈ outs, i < args.length) (hok : args.all okA1 = true)
  (hW : W P lc (DoneA rs outs r os') (init args)) : FC P f args r os' := by
 refine ⟨callFunc_enter hf hnm hb, fun w I vs os hI hnd hos hdr => ?_⟩
 let B : Base := ⟨w, I, os, fn.ntmps, outs, vs⟩
 obtain ⟨κ, ht, hm, hfr⟩ := adopts_sound adopt1 okA1 (fun n κ d v os ho h hf => adopt1_sound ho h hf) args 0 (fun _ => none) vs os hok hdr (fun _ _ => rfl)
 obtain ⟨hi1, hi2⟩ := initGo_adopts args 0 0
 have hvl : vs.length = args.length := hdr.length
 have hhp : (init args).hp = (adopts adopt1 0 args).2.1 := by simp only [init, hi1]
 have hnx : (init args).nx = (adopts adopt1 0 args).2.2 := by simp only [init, hi1]
 have hob : ∀ id b, OB κ (adopts adopt1 0 args).2.1 w id b → b ∈ os ∧ ∃ e, (id, e) ∈ (adopts adopt1 0 args).2.1 ∧ (κ id).bind KI.blk = some b := by
  rintro id b ⟨e, k, h1, h2, h3, h4⟩
  have hb : (κ id).bind KI.blk = some b := by rw [h3]; exact h4.own1 (ht.owned _ (lk_mem h1))
  exact ⟨by rw [← ht.blks]; exact List.mem_filterMap.2 ⟨(id, e), lk_mem h1, hb⟩, e, lk_mem h1, hb⟩
 have hIm : ∀ b, I b → Im B κ (adopts adopt1 0 args).2.1 w b := fun b hb => ⟨.inl hb, (hI b hb).1, fun ⟨id, ho⟩ => (hI b hb).2 (hob id b ho).1⟩
 have hkeep : Keep w w I (Im B κ (adopts adopt1 0 args).2.1 w) := ⟨hIm, fun _ _ => rfl⟩
 have hR : RH B κ (init args).hp (fun id => (init args).nx ≤ id) w := by
  rw [hhp, hnx]
  refine ⟨Stp.refl _ _, hfr, fun id e he => (ht.ent _ (lk_mem he)).mono hkeep (fun _ _ h => h) (fun _ _ _ _ _ => rfl), fun b ⟨id, ho⟩ => ?_, fun id id' b h1 h2 => ?_⟩
  ·have := (hob id b ho).1
   exact ⟨.inl this, hos b this⟩
  ·obtain ⟨_, e1, m1, b1⟩ := hob id b h1
   obtain ⟨_, e2, m2, b2⟩ := hob id' b h2
   have := filterMap_inj (g := fun p : Nat × Ent => (κ p.1).bind KI.blk) (l := (adopts adopt1 0 args).2.1) (by have := ht.blks; unfold blks at this; rw [this]; exact hnd) m1 m2 b1 b2
   exact congrArg Prod.fst this
 have hS : RS B κ (init args).hp w (init args).sl (vs.toArray ++ Array.replicate (fn.ntmps - vs.toArray.size) undef) := by
  have hget : ∀ (i : Nat) (v : Value), vs[i]? = some v → (vs.toArray ++ Array.replicate (fn.ntmps - vs.toArray.size) undef)[i]? = some v := by
   intro i v hv
   have : i < vs.length := (List.getElem?_eq_some_iff.1 hv).1
   rw [Array.getElem?_append_left (by simpa using this)]
   simpa using hv
  refine ⟨by simp [B]; omega, fun t d htd => ?_, fun t htf => ?_⟩
  ·obtain ⟨i, rfl, hi⟩ := hi2 t d htd
   obtain ⟨v, hv, hmv⟩ := hm.get hi
   refine ⟨v, hget _ v (by simpa using hv), ?_⟩
   rw [hhp]
   exact hmv.mono hkeep (fun _ _ h => h)
  ·have h1 := hout t htf
   have h2 : t < vs.length := by omega
   show _ = vs[t]?
   rw [List.getElem?_eq_getElem h2]
   exact hget t _ (List.getElem?_eq_getElem h2)
 refine calls_of_wp hf hb (code_sound (B := B) hmx (by rw [hfx]) body lc hc _ _ (init args) _ w ⟨rfl, κ, hR, hS⟩ hW ?_)
 intro e s a w' hdone hat
 obtain ⟨hdf, κ', hR', hS'⟩ := hat
 obtain ⟨ids, hdone⟩ := hdone
 obtain ⟨hR', hN'⟩ := hR'.freezes ids
 replace hS' := hS'.next hN'
 clear hN'
 replace hR' : RH B κ' (St.hp ⟨s.sl, freezeIds ids s.hp, s.nx⟩) (fun id => (St.nx ⟨s.sl, freezeIds ids s.hp, s.nx⟩) ≤ id) w' := hR'
 replace hS' : RS B κ' (St.hp ⟨s.sl, freezeIds ids s.hp, s.nx⟩) w' (St.sl ⟨s.sl, freezeIds ids s.hp, s.nx⟩) a.tmps := hS'
 generalize (⟨s.sl, freezeIds ids s.hp, s.nx⟩ : St) = s at *
 have fin : fin s rs outs = some (r, os') → bodyPost P fn (fun e w' => ∃ v' os'', e = .returned v' ∧ Stp (· ∈ os) w w' ∧ os''.Nodup ∧ (∀ b ∈ os'', (b ∈ os ∨ w.heap.size ≤ b) ∧ b < w'.heap.size) ∧
   DRs w' (fun b => (I b ∨ b ∈ os ∨ w.heap.size ≤ b) ∧ b ∉ os'' ∧ b < w'.heap.size) (r :: os'.map (·.2)) (v' :: os'.map (fun o => vs.getD o.1 undef)) os'') .ret a w' := by
  intro hfin
  unfold Am.fin at hfin
  split at hfin
  case h_2 => cases hfin
  rename_i ds hds
  split at hfin
  case h_2 => cases hfin
  rename_i l hpl hex
  split at hfin
  case isFalse => cases hfin
  rename_i hlen
  simp only [Option.some.injEq, Prod.mk.injEq] at hfin
  obtain ⟨hr, ho⟩ := hfin
  obtain ⟨rvs, hrun, hrl, hrm⟩ := results_sound rfl hR' hS' _ _ _ hrs hds
  have hres := run_results hrun
  have hel := expels_length hex
  rw [List.length_append] at hel
  have hsome := filterMap_full (s := s) (l := outs) (by omega)
  have hom := filterMap_vals hS' outs hsome
  have hall := MRs_append hrm hom
  obtain ⟨os'', hdr', hg⟩ := expels_sound hR' expel1 (fun hp hp' d e v hs hd he => expel1_sound hR' hs hd he) _ _ _ _ _ Sub.refl hall hex
  have hsplit : l = l.take ds.length ++ l.drop ds.length := (List.take_append_drop _ _).symm
  have hdl : ds.length = rvs.length := hrm.length.symm
  rw [hsplit] at hdr'
  obtain ⟨u, z, o1, o2, huz, rfl, hd1, hd2⟩ := DRs_append hdr'
  have hul : u.length = rvs.length := by
   rw [hd1.length, List.length_take]; omega
  obtain ⟨rfl, rfl⟩ := List.append_inj huz hul.symm
  have hown : ∀ b ∈ o1 ++ o2, (b ∈ os ∨ w.heap.size ≤ b) ∧ b < w'.heap.size := fun b hb => let ⟨id, h, _⟩ := hg.own b hb; hR'.own b ⟨id, h⟩
  have hk : Keep w' w' (Im B κ' s.hp w') (fun b => (I b ∨ b ∈ os ∨ w.heap.size ≤ b) ∧ b ∉ o1 ++ o2 ∧ b < w'.heap.size) :=
   ⟨fun b ⟨h1, h2, h3⟩ => ⟨h1, fun hb => let ⟨id, h, _⟩ := hg.own b hb; h3 ⟨id, h⟩, h2⟩, fun _ _ => rfl⟩
  refine ⟨hdf, _, hres, _, o1 ++ o2, rfl, hR'.stp, hg.nd, hown, ?_⟩
  simp only [DRs]
  have hd1' := DRs.mono hk _ _ _ (fun _ _ => rfl) hd1
  have hd2' := DRs.mono hk _ _ _ (fun _ _ => rfl) hd2
  refine ⟨_, _, o1, o2, rfl, rfl, ?_, ?_⟩
  ·rw [← hr]
   have htl : (l.take ds.length).length = rvs.length := hd1.length.symm
   generalize hL : l.take ds.length = L at hd1' htl ⊢
   match L, rvs, htl, hd1' with
   | [], [], _, h => simp only [DR]; exact ⟨_, rfl, h⟩
   | [d], [v], _, h =>
    simp only [DRs] at h
    obtain ⟨v0, vs0, p, q, h1, h2, h3, h4, h5⟩ := h
    simp only [List.cons.injEq] at h1
    obtain ⟨rfl, rfl⟩ := h1
    subst h5
    rw [List.append_nil] at h2
    subst h2
    exact h3
   | d1 :: d2 :: L, v1 :: v2 :: rvs, _, h => simp only [DR]; exact ⟨_, rfl, h⟩
  ·rw [← ho]
   have hdl2 : (l.drop ds.length).length = outs.length := by rw [List.length_drop]; omega
   have e1 : (outs.zip (l.drop ds.length)).map (·.2) = l.drop ds.length := by
    rw [List.map_snd_zip]; omega
   have e2 : (outs.zip (l.drop ds.length)).map (fun o => vs.getD o.1 undef) = outs.map (fun i => a.tmps.getD i undef) := by
    have : (outs.zip (l.drop ds.length)).map (fun o => vs.getD o.1 undef) = ((outs.zip (l.drop ds.length)).map (·.1)).map fun i => vs.getD i undef := by rw [List.map_map]; rfl
    rw [this, List.map_fst_zip (by omega)]
    refine List.map_congr_left fun i hi => ?_
    have := hS'.fx i hi
    simp only [B] at this
    simp only [Array.getD_eq_getD_getElem?, List.getD_eq_getElem?_getD, this]
   rw [e1, e2]
   exact hd2'
 cases e with
 | normal => exact fin hdone
 | exit id => exact hdone.elim
 | ret => exact fin hdone
end
end Go.Am
