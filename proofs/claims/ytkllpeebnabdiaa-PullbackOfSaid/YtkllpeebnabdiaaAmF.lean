/- How the machine's memory goes on. -/
import Derived.Test.YtkllpeebnabdiaaAmE
namespace Go.Am
open Go

section
variable {B : Base} {κ κ' : Nat → Option KI} {hp hp' : List (Nat × Ent)} {F F' : Nat → Prop} {w w' : World}

theorem RH.next (h : RH B κ hp F w) (hk : Kle κ κ') (hs : Stp (OwnB κ hp) w w') (hO : ∀ b, OwnB κ' hp' b → OwnB κ hp b ∨ w.heap.size ≤ b)
    (hfr : ∀ id, F' id → κ' id = none) (hsz : ∀ b, OwnB κ' hp' b → b < w'.heap.size)
    (hent : Keep w w' (Im B κ hp w) (Im B κ' hp' w') → ∀ id e, lk hp' id = some e →
      (lk hp id = some e ∧ (e.owned = true → ∀ q b, κ id = some q → q.blk = some b → w'.heap[b]? = w.heap[b]?)) ∨ ER w' (Im B κ' hp' w') κ' id e)
    (hinj : ∀ id id' b, OB κ' hp' id b → OB κ' hp' id' b → id = id') : RH B κ' hp' F' w' ∧ Nxt B κ κ' hp hp' w w' := by
  have keep : Keep w w' (Im B κ hp w) (Im B κ' hp' w') := by
    refine ⟨fun b ⟨h1, h2, h3⟩ => ⟨h1, Nat.lt_of_lt_of_le h2 hs.size, fun ho => ?_⟩, fun b ⟨_, h2, h3⟩ => hs.block b h2 h3⟩
    rcases hO b ho with ho | ho
    · exact h3 ho
    · omega
  refine ⟨⟨⟨?_, ?_, ?_, ?_, ?_, fun x cur e fr hg => let ⟨c1, g1, s1⟩ := h.stp.len x cur e fr hg; let ⟨c2, g2, s2⟩ := hs.len x c1 e fr g1; ⟨c2, g2, s2.trans s1⟩⟩, hfr, ?_, ?_, hinj⟩, ⟨hk, keep⟩⟩
  · exact hs.os.trans h.stp.os
  · exact hs.tape.trans h.stp.tape
  · exact hs.output.trans h.stp.output
  · exact Nat.le_trans h.stp.size hs.size
  · intro b hb hno
    refine (hs.block b (Nat.lt_of_lt_of_le hb h.stp.size) (fun ho => ?_)).trans (h.stp.block b hb hno)
    rcases (h.own b ho).1 with ho | ho
    · exact hno ho
    · omega
  · intro id e he
    rcases hent keep id e he with ⟨h1, h2⟩ | h1
    · exact (h.ent id e h1).mono keep hk h2
    · exact h1
  · intro b ho
    refine ⟨?_, hsz b ho⟩
    rcases hO b ho with ho | ho
    · exact (h.own b ho).1
    · exact .inr (Nat.le_trans h.stp.size ho)

/-- Every entry has a place. -/
theorem RH.place (h : RH B κ hp F w) {id : Nat} {e : Ent} (he : lk hp id = some e) : ∃ k, κ id = some k := by
  have := h.ent id e he
  cases e <;> simp only [ER] at this
  · rcases this.2 with ⟨h1, _⟩ | ⟨b, tot, cur, e, us, h1, _⟩ <;> exact ⟨_, h1⟩
  · rcases this.2 with ⟨h1, _⟩ | ⟨b, tot, us, h1, _⟩ <;> exact ⟨_, h1⟩
  · obtain ⟨b, cur, e, h1, _⟩ := this; exact ⟨_, h1⟩
theorem RH.fresh (h : RH B κ hp F w) {id : Nat} (hi : F id) : lk hp id = none := by
  cases he : lk hp id with
  | none => rfl
  | some e => obtain ⟨k, hk⟩ := h.place he; rw [h.fr id hi] at hk; cases hk

/-- Nothing but the first free number changes. -/
theorem RH.same (h : RH B κ hp F w) (hn : ∀ id, F' id → F id) : RH B κ hp F' w :=
  ⟨h.stp, fun id hi => h.fr id (hn id hi), h.ent, h.own, h.inj⟩

def updK (κ : Nat → Option KI) (n : Nat) (k : KI) : Nat → Option KI := fun id => if id = n then some k else κ id
theorem updK_same {n : Nat} {k : KI} : updK κ n k n = some k := by simp [updK]
theorem updK_ne {n : Nat} {k : KI} {id : Nat} (h : id ≠ n) : updK κ n k id = κ id := by simp [updK, h]
theorem RH.kle (h : RH B κ hp F w) {m : Nat} (hm : F m) (k : KI) : Kle κ (updK κ m k) := fun id q hq => by
  have hne : id ≠ m := fun e => by rw [e, h.fr m hm] at hq; cases hq
  rw [updK_ne hne]; exact hq

/-- A new entry without a block. -/
theorem RH.newNil (h : RH B κ hp F w) {m : Nat} (hm : F m) (hn : ∀ id, F' id → F id ∧ id ≠ m) (sz : Nat) : RH B (updK κ m (.nil sz)) (up hp m (.arr sz [])) F' w ∧ Nxt B κ (updK κ m (.nil sz)) hp (up hp m (.arr sz [])) w w := by
  have hob : ∀ id b, OB (updK κ m (.nil sz)) (up hp m (.arr sz [])) id b → id ≠ m ∧ OB κ hp id b := by
    rintro id b ⟨e, k, h1, h2, h3, h4⟩
    rw [lk_up] at h1
    by_cases e : id = m
    · subst e; rw [updK_same] at h3; cases h3; simp [KI.blk] at h4
    · rw [if_neg e] at h1; rw [updK_ne e] at h3; exact ⟨e, _, _, h1, h2, h3, h4⟩
  refine h.next (h.kle hm _) (Stp.refl _ _) (fun b ⟨id, ho⟩ => .inl ⟨id, (hob id b ho).2⟩) (fun id hi => ?_) (fun b ⟨id, ho⟩ => (h.own b ⟨id, (hob id b ho).2⟩).2) (fun _ id e he => ?_) (fun id id' b h1 h2 => h.inj id id' b (hob _ _ h1).2 (hob _ _ h2).2)
  · rw [updK_ne (hn id hi).2]; exact h.fr id (hn id hi).1
  · rw [lk_up] at he
    by_cases e : id = m
    · subst e
      simp only [if_true, Option.some.injEq] at he
      subst he
      exact .inr (by simp only [ER]; exact ⟨Nat.zero_le _, .inl ⟨updK_same, trivial⟩⟩)
    · rw [if_neg e] at he; exact .inl ⟨he, fun _ _ _ _ _ => rfl⟩

/-- A new entry with a new block. -/
theorem RH.new (h : RH B κ hp F w) {cur : Array Value} {ty : TypeId} (hw : w'.heap = w.heap.push (.cells cur ty)) (h1 : w'.os = w.os) (h2 : w'.tape = w.tape) (h3 : w'.output = w.output)
    {ki : KI} (hki : ki.blk = some w.heap.size) {m : Nat} (hm : F m) (hn : ∀ id, F' id → F id ∧ id ≠ m) {ent : Ent}
    (her : Keep w w' (Im B κ hp w) (Im B (updK κ m ki) (up hp m ent) w') → w'.heap[w.heap.size]? = some (.cells cur ty (0, 0)) → ER w' (Im B (updK κ m ki) (up hp m ent) w') (updK κ m ki) m ent) :
    RH B (updK κ m ki) (up hp m ent) F' w' ∧ Nxt B κ (updK κ m ki) hp (up hp m ent) w w' := by
  have hold : ∀ b, b < w.heap.size → w'.heap[b]? = w.heap[b]? := fun b hb => by rw [hw, Array.getElem?_push_lt hb]; simp [hb]
  have hob : ∀ id b, OB (updK κ m ki) (up hp m ent) id b → (id = m ∧ b = w.heap.size) ∨ (id ≠ m ∧ OB κ hp id b) := by
    rintro id b ⟨e, k, h1, h2, h3, h4⟩
    rw [lk_up] at h1
    by_cases e : id = m
    · subst e; rw [updK_same] at h3; cases h3; rw [hki] at h4; cases h4; exact .inl ⟨rfl, rfl⟩
    · rw [if_neg e] at h1; rw [updK_ne e] at h3; exact .inr ⟨e, _, _, h1, h2, h3, h4⟩
  have hlt : ∀ id b, OB κ hp id b → b < w.heap.size := fun id b ho => (h.own b ⟨id, ho⟩).2
  refine h.next (h.kle hm _) ⟨h1, h2, h3, by rw [hw]; simp, fun b hb _ => hold b hb, fun b c e fr hg => ⟨c, by rw [hold b ((Array.getElem?_eq_some_iff.1 hg).1)]; exact hg, rfl⟩⟩ (fun b ⟨id, ho⟩ => ?_) (fun id hi => ?_) (fun b ⟨id, ho⟩ => ?_) (fun keep id e he => ?_) (fun id id' b g1 g2 => ?_)
  · rcases hob id b ho with ⟨_, rfl⟩ | ⟨_, ho⟩
    · exact .inr (Nat.le_refl _)
    · exact .inl ⟨id, ho⟩
  · rw [updK_ne (hn id hi).2]; exact h.fr id (hn id hi).1
  · rw [hw]; simp only [Array.size_push]
    rcases hob id b ho with ⟨_, rfl⟩ | ⟨_, ho⟩
    · omega
    · have := hlt id b ho; omega
  · rw [lk_up] at he
    by_cases e : id = m
    · subst e
      simp only [if_true, Option.some.injEq] at he
      subst he
      exact .inr (her keep (by rw [hw]; simp))
    · rw [if_neg e] at he
      exact .inl ⟨he, fun ho q b hq hb => hold b (hlt id b ⟨_, _, he, ho, hq, hb⟩)⟩
  · rcases hob _ _ g1 with ⟨a1, a2⟩ | ⟨_, k1⟩ <;> rcases hob _ _ g2 with ⟨b1, b2⟩ | ⟨_, k2⟩
    · rw [a1, b1]
    · have := hlt _ _ k2; omega
    · have := hlt _ _ k1; omega
    · exact h.inj _ _ _ k1 k2

/-- An entry's block gets other content. -/
theorem RH.change (h : RH B κ hp F w) {id b : Nat} (ho : OB κ hp id b) (hs : Stp (· = b) w w') (hn : ∀ id, F' id → F id) {ent : Ent}
    (her : Keep w w' (Im B κ hp w) (Im B κ (up hp id ent) w') → ER w' (Im B κ (up hp id ent) w') κ id ent) :
    RH B κ (up hp id ent) F' w' ∧ Nxt B κ κ hp (up hp id ent) w w' := by
  obtain ⟨e0, k0, g1, g2, g3, g4⟩ := ho
  have hob : ∀ id' b', OB κ (up hp id ent) id' b' → OB κ hp id' b' := by
    rintro id' b' ⟨e, k, h1, h2, h3, h4⟩
    rw [lk_up] at h1
    by_cases e : id' = id
    · subst e; exact ⟨_, _, g1, g2, h3, h4⟩
    · rw [if_neg e] at h1; exact ⟨_, _, h1, h2, h3, h4⟩
  refine h.next (fun _ _ h => h) (hs.mono fun x _ hx => ⟨id, by subst hx; exact ⟨_, _, g1, g2, g3, g4⟩⟩) (fun b' ⟨id', ho⟩ => .inl ⟨id', hob _ _ ho⟩) (fun id hi => h.fr id (hn id hi)) (fun b' ⟨id', ho⟩ => Nat.lt_of_lt_of_le (h.own b' ⟨id', hob _ _ ho⟩).2 hs.size) (fun keep id' e he => ?_) (fun i i' b h1 h2 => h.inj i i' b (hob _ _ h1) (hob _ _ h2))
  rw [lk_up] at he
  by_cases e : id' = id
  · subst e
    simp only [if_true, Option.some.injEq] at he
    subst he
    exact .inr (her keep)
  · rw [if_neg e] at he
    refine .inl ⟨he, fun ho q b' hq hb' => hs.block b' (h.own b' ⟨id', _, _, he, ho, hq, hb'⟩).2 (fun hbb => e ?_)⟩
    subst hbb
    exact h.inj _ _ _ ⟨_, _, he, ho, hq, hb'⟩ ⟨_, _, g1, g2, g3, g4⟩

/-- An entry's block becomes another entry's. -/
theorem RH.move (h : RH B κ hp F w) {id b : Nat} (ho : OB κ hp id b) (hs : Stp (· = b) w w') {ki : KI} (hki : ki.blk = some b) {m : Nat} (hm : F m) (hn : ∀ id, F' id → F id ∧ id ≠ m) {ent : Ent}
    (her : Keep w w' (Im B κ hp w) (Im B (updK κ m ki) (up (rm hp id) m ent) w') → ER w' (Im B (updK κ m ki) (up (rm hp id) m ent) w') (updK κ m ki) m ent) :
    RH B (updK κ m ki) (up (rm hp id) m ent) F' w' ∧ Nxt B κ (updK κ m ki) hp (up (rm hp id) m ent) w w' := by
  obtain ⟨e0, k0, g1, g2, g3, g4⟩ := ho
  have hob : ∀ id' b', OB (updK κ m ki) (up (rm hp id) m ent) id' b' → (id' = m ∧ b' = b) ∨ (id' ≠ m ∧ id' ≠ id ∧ OB κ hp id' b') := by
    rintro id' b' ⟨e, k, h1, h2, h3, h4⟩
    rw [lk_up] at h1
    by_cases e : id' = m
    · subst e; rw [updK_same] at h3; cases h3; rw [hki] at h4; cases h4; exact .inl ⟨rfl, rfl⟩
    · rw [if_neg e, lk_rm] at h1
      rw [updK_ne e] at h3
      by_cases e2 : id' = id
      · simp [e2] at h1
      · rw [if_neg e2] at h1
        exact .inr ⟨e, e2, _, _, h1, h2, h3, h4⟩
  have hob0 : OB κ hp id b := ⟨_, _, g1, g2, g3, g4⟩
  refine h.next (h.kle hm _) (hs.mono fun x _ hx => ⟨id, by subst hx; exact hob0⟩) (fun b' ⟨id', ho⟩ => .inl ?_) (fun i hi => ?_) (fun b' ⟨id', ho⟩ => Nat.lt_of_lt_of_le (h.own b' ?_).2 hs.size) (fun keep id' e he => ?_) (fun i i' b' h1 h2 => ?_)
  · rcases hob _ _ ho with ⟨_, rfl⟩ | ⟨_, _, ho⟩
    · exact ⟨_, hob0⟩
    · exact ⟨_, ho⟩
  · rw [updK_ne (hn i hi).2]; exact h.fr i (hn i hi).1
  · rcases hob _ _ ho with ⟨_, rfl⟩ | ⟨_, _, ho⟩
    · exact ⟨_, hob0⟩
    · exact ⟨_, ho⟩
  · rw [lk_up] at he
    by_cases e : id' = m
    · subst e
      simp only [if_true, Option.some.injEq] at he
      subst he
      exact .inr (her keep)
    · rw [if_neg e, lk_rm] at he
      by_cases e2 : id' = id
      · simp [e2] at he
      · rw [if_neg e2] at he
        refine .inl ⟨he, fun ho q b' hq hb' => hs.block b' (h.own b' ⟨id', _, _, he, ho, hq, hb'⟩).2 (fun hbb => e2 ?_)⟩
        subst hbb
        exact h.inj _ _ _ ⟨_, _, he, ho, hq, hb'⟩ hob0
  · rcases hob _ _ h1 with ⟨a1, a2⟩ | ⟨_, n1, k1⟩ <;> rcases hob _ _ h2 with ⟨b1, b2⟩ | ⟨_, n2, k2⟩
    · rw [a1, b1]
    · rw [a2] at k2; exact absurd (h.inj _ _ _ k2 hob0) n2
    · rw [b2] at k1; exact absurd (h.inj _ _ _ k1 hob0) n1
    · exact h.inj _ _ _ k1 k2

/-- An entry is forgotten. -/
theorem RH.forget (h : RH B κ hp F w) (id : Nat) : RH B κ (rm hp id) F w ∧ Nxt B κ κ hp (rm hp id) w w := by
  have hob : ∀ id' b', OB κ (rm hp id) id' b' → OB κ hp id' b' := by
    rintro id' b' ⟨e, k, h1, r⟩
    rw [lk_rm] at h1
    split at h1
    · cases h1
    · exact ⟨e, k, h1, r⟩
  refine h.next (fun _ _ h => h) (Stp.refl _ _) (fun b ⟨i, ho⟩ => .inl ⟨i, hob _ _ ho⟩) h.fr (fun b ⟨i, ho⟩ => (h.own b ⟨i, hob _ _ ho⟩).2) (fun _ i e he => .inl ⟨?_, fun _ _ _ _ _ => rfl⟩) (fun i i' b h1 h2 => h.inj i i' b (hob _ _ h1) (hob _ _ h2))
  rw [lk_rm] at he
  split at he
  · cases he
  · exact he

/-- An entry is only read from now on. -/
theorem RH.freeze (h : RH B κ hp F w) {id : Nat} {e : Ent} (he : lk hp id = some e) : RH B κ (up hp id e.frozen) F w ∧ Nxt B κ κ hp (up hp id e.frozen) w w := by
  cases e with
  | imm sz xs =>
    have hid : ∀ i, lk (up hp id (Ent.imm sz xs).frozen) i = lk hp i := fun i => by
      rw [lk_up]; split
      · rename_i hi; subst hi; exact he.symm
      · rfl
    have hob : ∀ i b, OB κ (up hp id (Ent.imm sz xs).frozen) i b ↔ OB κ hp i b := fun i b => by simp only [OB, hid]
    exact h.next (fun _ _ h => h) (Stp.refl _ _) (fun b ⟨i, ho⟩ => .inl ⟨i, (hob _ _).1 ho⟩) h.fr (fun b ⟨i, ho⟩ => (h.own b ⟨i, (hob _ _).1 ho⟩).2) (fun _ i e he => .inl ⟨by rw [hid] at he; exact he, fun _ _ _ _ _ => rfl⟩) (fun i i' b h1 h2 => h.inj i i' b ((hob _ _).1 h1) ((hob _ _).1 h2))
  | box cs =>
    have hid : ∀ i, lk (up hp id (Ent.box cs).frozen) i = lk hp i := fun i => by
      rw [lk_up]; split
      · rename_i hi; subst hi; exact he.symm
      · rfl
    have hob : ∀ i b, OB κ (up hp id (Ent.box cs).frozen) i b ↔ OB κ hp i b := fun i b => by simp only [OB, hid]
    exact h.next (fun _ _ h => h) (Stp.refl _ _) (fun b ⟨i, ho⟩ => .inl ⟨i, (hob _ _).1 ho⟩) h.fr (fun b ⟨i, ho⟩ => (h.own b ⟨i, (hob _ _).1 ho⟩).2) (fun _ i e he => .inl ⟨by rw [hid] at he; exact he, fun _ _ _ _ _ => rfl⟩) (fun i i' b h1 h2 => h.inj i i' b ((hob _ _).1 h1) ((hob _ _).1 h2))
  | arr sz xs =>
    have hob : ∀ i b, OB κ (up hp id (Ent.arr sz xs).frozen) i b → i ≠ id ∧ OB κ hp i b := by
      rintro i b ⟨e, k, h1, h2, r⟩
      rw [lk_up] at h1
      split at h1
      · cases h1; simp [Ent.frozen, Ent.owned] at h2
      · rename_i hi; exact ⟨hi, e, k, h1, h2, r⟩
    refine h.next (fun _ _ h => h) (Stp.refl _ _) (fun b ⟨i, ho⟩ => .inl ⟨i, (hob _ _ ho).2⟩) h.fr (fun b ⟨i, ho⟩ => (h.own b ⟨i, (hob _ _ ho).2⟩).2) (fun keep i e' he' => ?_) (fun i i' b h1 h2 => h.inj i i' b (hob _ _ h1).2 (hob _ _ h2).2)
    rw [lk_up] at he'
    by_cases hi : i = id
    · subst hi
      simp only [if_true, Option.some.injEq] at he'
      subst he'
      have hr := h.ent i _ he
      simp only [ER] at hr
      refine .inr ?_
      simp only [Ent.frozen, ER]
      refine ⟨hr.1, hr.2.imp id ?_⟩
      rintro ⟨b, tot, cur, ty, us, g1, g2, g3, g4, g5⟩
      have ho : OB κ hp i b := ⟨_, _, he, rfl, g1, rfl⟩
      refine ⟨b, tot, us, g1, ⟨?_, (h.own b ⟨i, ho⟩).2, ?_⟩, g4, PE.mono keep _ _ _ g5⟩
      · rcases (h.own b ⟨i, ho⟩).1 with g | g
        · exact .inr (.inl g)
        · exact .inr (.inr g)
      · rintro ⟨i', ho'⟩
        obtain ⟨hne, ho'⟩ := hob _ _ ho'
        exact hne (h.inj _ _ _ ho' ho)
    · rw [if_neg hi] at he'
      exact .inl ⟨he', fun _ _ _ _ _ => rfl⟩
theorem RH.freezes (ids : List Nat) : ∀ {hp : List (Nat × Ent)}, RH B κ hp F w → RH B κ (freezeIds ids hp) F w ∧ Nxt B κ κ hp (freezeIds ids hp) w w := by
  induction ids with
  | nil => exact fun h => ⟨h, Nxt.refl _ _ _ _⟩
  | cons i l ih =>
    intro hp h
    simp only [freezeIds]
    cases he : lk hp i with
    | none => exact ih h
    | some e =>
      obtain ⟨h1, k1⟩ := h.freeze he
      obtain ⟨h2, k2⟩ := ih h1
      exact ⟨h2, k1.trans k2⟩
end
end Go.Am
