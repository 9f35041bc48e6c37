/- How a state of the machine lies in memory. -/
import Derived.Test.YtkllpeebnabdiaaAmC
namespace Go.Am
open Go

section maps
variable {α : Type}
theorem lk_up (l : List (Nat × α)) (n m : Nat) (x : α) : lk (up l n x) m = if m = n then some x else lk l m := by
  induction l with
  | nil => simp only [up, lk]
  | cons p l ih =>
    obtain ⟨k, a⟩ := p
    simp only [up]
    by_cases h : n = k
    · subst h; simp only [if_true, lk]; split <;> rfl
    · simp only [if_neg h, lk, ih]
      by_cases hm : m = k
      · subst hm; simp [Ne.symm h]
      · simp [hm]
theorem lk_rm (l : List (Nat × α)) (n m : Nat) : lk (rm l n) m = if m = n then none else lk l m := by
  induction l with
  | nil => simp [rm, lk]
  | cons p l ih =>
    obtain ⟨k, a⟩ := p
    simp only [rm]
    by_cases h : n = k
    · subst h; simp only [if_true, ih, lk]; split <;> simp_all
    · simp only [if_neg h, lk, ih]
      by_cases hm : m = k
      · subst hm; simp [Ne.symm h]
      · simp [hm]
theorem lk_append (l m : List (Nat × α)) (n : Nat) : lk (l ++ m) n = (lk l n).or (lk m n) := by
  induction l with
  | nil => simp [lk]
  | cons p l ih =>
    obtain ⟨k, a⟩ := p
    simp only [List.cons_append, lk, ih]
    split <;> simp
theorem lk_fil (keep : List Nat) (l : List (Nat × D)) (n : Nat) : lk (fil keep l) n = if keep.contains n then lk l n else none := by
  induction l with
  | nil => simp [fil, lk]
  | cons p l ih =>
    obtain ⟨k, a⟩ := p
    simp only [fil]
    by_cases hm : n = k
    · subst hm; split <;> rename_i h <;> simp only [lk, ih, h] <;> simp
    · split <;> simp only [lk, ih, if_neg hm]
end maps

/-- Where an entry lies: a nil slice; a row of `tot` cells, `sz` to an element; a block of cells. -/
inductive KI where
  | nil (sz : Nat)
  | arr (b sz tot : Nat)
  | box (b : Nat)
def KI.blk : KI → Option Nat
  | .nil _ => none
  | .arr b _ _ => some b
  | .box b => some b
def Ent.owned : Ent → Bool
  | .imm .. => false
  | _ => true

mutual
/-- How a machine's value is a value of the model. -/
def MR (w : World) (I : Nat → Prop) (κ : Nat → Option KI) : D → Value → Prop
  | .sl id lo len, v => (∃ sz, κ id = some (.nil sz) ∧ v = .slice none 0 0 ∧ lo = 0 ∧ len = 0) ∨
      ∃ b sz tot off cap, κ id = some (.arr b sz tot) ∧ v = .slice (some ⟨b, off, none⟩) len cap ∧ len ≤ cap ∧ cap ≤ maxLen ∧ off + cap * sz ≤ tot ∧ (0 < len ∨ lo = 0 → off = lo * sz)
  | .pt id off, v => ∃ b, κ id = some (.box b) ∧ v = .pointer (some ⟨b, off, none⟩)
  | .pe id i off, v => ∃ b sz tot, κ id = some (.arr b sz tot) ∧ v = .pointer (some ⟨b, i * sz + off, none⟩)
  | .undef, v => ∀ b, v ≠ .bool b
  | .agg cs, v => ∃ vs, v = .agg vs ∧ (∀ u ∈ vs.toList, u.oneCell' = true) ∧ MRs w I κ cs vs.toList
  | .tup ds, v => ∃ vs, v = .tuple vs ∧ MRs w I κ ds vs.toList
  | .clo f cs, v => ∃ vs, v = .func (.func f) #[] vs ∧ MRs w I κ cs vs.toList
  | .arr _ xs, v => v = .slice none 0 0 ∧ xs = []
  | .box .., _ => False
  | .int k n, v => v = .int k n
  | .bool b, v => v = .bool b
  | .nl _, v => v = .slice none 0 0
  | .lst sz xs, v => DR w I (.lst sz xs) v []
  | .ref cs, v => DR w I (.ref cs) v []
def MRs (w : World) (I : Nat → Prop) (κ : Nat → Option KI) : List D → List Value → Prop
  | [], vs => vs = []
  | d :: ds, vs => ∃ v vs', vs = v :: vs' ∧ MR w I κ d v ∧ MRs w I κ ds vs'
end

/-- The places known so far stay. -/
def Kle (κ κ' : Nat → Option KI) : Prop := ∀ id k, κ id = some k → κ' id = some k

mutual
theorem MR.mono {w w' : World} {I I' : Nat → Prop} {κ κ' : Nat → Option KI} (k : Keep w w' I I') (hk : Kle κ κ') :
    ∀ (d : D) (v : Value), MR w I κ d v → MR w' I' κ' d v
  | .sl id lo len, v, h => by
    simp only [MR] at h ⊢
    rcases h with ⟨sz, h, r⟩ | ⟨b, sz, tot, off, cap, h, r⟩
    · exact .inl ⟨sz, hk _ _ h, r⟩
    · exact .inr ⟨b, sz, tot, off, cap, hk _ _ h, r⟩
  | .pt id off, v, h => by
    simp only [MR] at h ⊢
    obtain ⟨b, h, r⟩ := h
    exact ⟨b, hk _ _ h, r⟩
  | .pe id i off, v, h => by
    simp only [MR] at h ⊢
    obtain ⟨b, sz, tot, h, r⟩ := h
    exact ⟨b, sz, tot, hk _ _ h, r⟩
  | .undef, _, h => by simp only [MR] at h ⊢; exact h
  | .agg cs, v, h => by
    simp only [MR] at h ⊢
    obtain ⟨vs, h, h1, r⟩ := h
    exact ⟨vs, h, h1, MRs.mono k hk cs _ r⟩
  | .tup cs, v, h => by
    simp only [MR] at h ⊢
    obtain ⟨vs, h, r⟩ := h
    exact ⟨vs, h, MRs.mono k hk cs _ r⟩
  | .clo f cs, v, h => by
    simp only [MR] at h ⊢
    obtain ⟨vs, h, r⟩ := h
    exact ⟨vs, h, MRs.mono k hk cs _ r⟩
  | .arr .., _, h => by simpa [MR] using h
  | .box .., _, h => by simp [MR] at h
  | .int _ n, v, h => by simpa [MR] using h
  | .bool b, v, h => by simpa [MR] using h
  | .nl _, v, h => by simpa [MR] using h
  | .lst sz xs, v, h => by
    simp only [MR] at h ⊢
    exact DR.mono k _ _ _ (by simp) h
  | .ref cs, v, h => by
    simp only [MR] at h ⊢
    exact DR.mono k _ _ _ (by simp) h
theorem MRs.mono {w w' : World} {I I' : Nat → Prop} {κ κ' : Nat → Option KI} (k : Keep w w' I I') (hk : Kle κ κ') :
    ∀ (ds : List D) (vs : List Value), MRs w I κ ds vs → MRs w' I' κ' ds vs
  | [], vs, h => by simpa [MRs] using h
  | d :: ds, vs, h => by
    simp only [MRs] at h ⊢
    obtain ⟨v, vs', hv, hd, hds⟩ := h
    exact ⟨v, vs', hv, MR.mono k hk d v hd, MRs.mono k hk ds vs' hds⟩
end

mutual
theorem undef_nb (b : Bool) : undef ≠ .bool b := fun e => by cases e
theorem MR.nb {w : World} {I : Nat → Prop} {κ : Nat → Option KI} {d : D} {v : Value} (h : MR w I κ d v) (hd : ∀ b, d ≠ .bool b) : ∀ b, v ≠ .bool b := by
  rintro b rfl
  cases d <;> simp [MR, DR] at h
  · exact hd _ rfl
theorem MR.of_DR {w : World} {I : Nat → Prop} {κ : Nat → Option KI} : ∀ (d : D) (v : Value), DR w I d v [] → MR w I κ d v
  | .int _ _, v, h => by simpa [MR, DR] using h
  | .bool _, v, h => by simpa [MR, DR] using h
  | .nl _, v, h => by simpa [MR, DR] using h
  | .lst _ _, v, h => by simpa only [MR] using h
  | .ref _, v, h => by simpa only [MR] using h
  | .arr sz xs, v, h => by
    simp only [DR] at h
    rcases h.2 with ⟨h1, h2, _⟩ | ⟨b, cap, cur, e, us, _, h2, _⟩
    · simp [MR, h1, h2]
    · cases h2
  | .agg cs, v, h => by
    simp only [DR] at h
    obtain ⟨vs, h1, h2, h3⟩ := h
    simp only [MR]
    exact ⟨vs, h1, h2, MRs.of_DRs cs _ h3⟩
  | .tup cs, v, h => by
    simp only [DR] at h
    obtain ⟨vs, h1, h3⟩ := h
    simp only [MR]
    exact ⟨vs, h1, MRs.of_DRs cs _ h3⟩
  | .clo f cs, v, h => by
    simp only [DR] at h
    obtain ⟨vs, h1, h3⟩ := h
    simp only [MR]
    exact ⟨vs, h1, MRs.of_DRs cs _ h3⟩
  | .box cs, v, h => by
    simp only [DR] at h
    obtain ⟨b, cur, e, os', _, h2, _⟩ := h
    cases h2
  | .sl .., _, h => by simp [DR] at h
  | .pt .., _, h => by simp [DR] at h
  | .pe .., _, h => by simp [DR] at h
  | .undef, _, h => by simp [DR] at h
theorem MRs.of_DRs {w : World} {I : Nat → Prop} {κ : Nat → Option KI} : ∀ (ds : List D) (vs : List Value), DRs w I ds vs [] → MRs w I κ ds vs
  | [], vs, h => by simp only [DRs] at h; simp [MRs, h.1]
  | d :: ds, vs, h => by
    simp only [DRs] at h
    obtain ⟨v, vs', o, o', h1, h2, h3, h4⟩ := h
    obtain ⟨rfl, rfl⟩ : o = [] ∧ o' = [] := by simpa using h2.symm
    simp only [MRs]
    exact ⟨v, vs', h1, MR.of_DR d v h3, MRs.of_DRs ds vs' h4⟩
end

/-- How an entry lies in memory. -/
def ER (w : World) (I : Nat → Prop) (κ : Nat → Option KI) (id : Nat) : Ent → Prop
  | .arr sz xs => xs.length ≤ maxL ∧ ((κ id = some (.nil sz) ∧ xs = []) ∨
      ∃ b tot cur e us, κ id = some (.arr b sz tot) ∧ w.heap[b]? = some (.cells cur e (0, 0)) ∧ tot ≤ cur.size ∧ Mem w b 0 us ∧ PE w I sz xs us)
  | .imm sz xs => xs.length ≤ maxL ∧ ((κ id = some (.nil sz) ∧ xs = []) ∨
      ∃ b tot us, κ id = some (.arr b sz tot) ∧ I b ∧ Mem w b 0 us ∧ PE w I sz xs us)
  | .box cs => ∃ b cur e, κ id = some (.box b) ∧ w.heap[b]? = some (.cells cur e (0, 0)) ∧ (∀ u ∈ cur.toList, u.oneCell' = true) ∧ MRs w I κ cs cur.toList

/-- What a function found when it was called. -/
structure Base where
  w : World
  I : Nat → Prop
  os : List Nat
  N : Nat
  fx : List Nat
  vs : List Value

/-- The entry `id` owns the block `b`. -/
def OB (κ : Nat → Option KI) (hp : List (Nat × Ent)) (id b : Nat) : Prop :=
  ∃ e k, lk hp id = some e ∧ e.owned = true ∧ κ id = some k ∧ k.blk = some b
def OwnB (κ : Nat → Option KI) (hp : List (Nat × Ent)) (b : Nat) : Prop := ∃ id, OB κ hp id b
def Im (B : Base) (κ : Nat → Option KI) (hp : List (Nat × Ent)) (w : World) (b : Nat) : Prop :=
  (B.I b ∨ b ∈ B.os ∨ B.w.heap.size ≤ b) ∧ b < w.heap.size ∧ ¬ OwnB κ hp b

structure RH (B : Base) (κ : Nat → Option KI) (hp : List (Nat × Ent)) (F : Nat → Prop) (w : World) : Prop where
  stp : Stp (· ∈ B.os) B.w w
  fr : ∀ id, F id → κ id = none
  ent : ∀ id e, lk hp id = some e → ER w (Im B κ hp w) κ id e
  own : ∀ b, OwnB κ hp b → (b ∈ B.os ∨ B.w.heap.size ≤ b) ∧ b < w.heap.size
  inj : ∀ id id' b, OB κ hp id b → OB κ hp id' b → id = id'

structure RS (B : Base) (κ : Nat → Option KI) (hp : List (Nat × Ent)) (w : World) (sl : List (Nat × D)) (tm : Array Value) : Prop where
  size : tm.size = B.N
  sl : ∀ t d, lk sl t = some d → ∃ v, tm[t]? = some v ∧ MR w (Im B κ hp w) κ d v
  fx : ∀ t ∈ B.fx, tm[t]? = B.vs[t]?

/-- Going on keeps what is known. -/
structure Nxt (B : Base) (κ κ' : Nat → Option KI) (hp hp' : List (Nat × Ent)) (w w' : World) : Prop where
  kle : Kle κ κ'
  keep : Keep w w' (Im B κ hp w) (Im B κ' hp' w')

theorem Nxt.refl (B : Base) (κ : Nat → Option KI) (hp : List (Nat × Ent)) (w : World) : Nxt B κ κ hp hp w w := ⟨fun _ _ h => h, fun _ h => h, fun _ _ => rfl⟩
theorem Nxt.trans {B : Base} {κ κ' κ'' : Nat → Option KI} {hp hp' hp'' : List (Nat × Ent)} {w w' w'' : World} (h : Nxt B κ κ' hp hp' w w') (k : Nxt B κ' κ'' hp' hp'' w' w'') : Nxt B κ κ'' hp hp'' w w'' :=
  ⟨fun _ _ e => k.kle _ _ (h.kle _ _ e), fun b hb => k.keep.mem b (h.keep.mem b hb), fun b hb => (k.keep.same b (h.keep.mem b hb)).trans (h.keep.same b hb)⟩

theorem RS.next {B : Base} {κ κ' : Nat → Option KI} {hp hp' : List (Nat × Ent)} {w w' : World} {sl : List (Nat × D)} {tm : Array Value} (h : RS B κ hp w sl tm) (k : Nxt B κ κ' hp hp' w w') : RS B κ' hp' w' sl tm :=
  ⟨h.size, fun t d ht => let ⟨v, hv, hm⟩ := h.sl t d ht; ⟨v, hv, hm.mono k.keep k.kle⟩, h.fx⟩

theorem RS.put {B : Base} {κ : Nat → Option KI} {hp : List (Nat × Ent)} {w : World} {sl : List (Nat × D)} {tm : Array Value} (h : RS B κ hp w sl tm) {t : Nat} {d : D} {v : Value} (ht : t < B.N) (hf : t ∉ B.fx)
    (hm : MR w (Im B κ hp w) κ d v) : RS B κ hp w (up sl t d) (tm.setIfInBounds t v) := by
  refine ⟨by simp [h.size], fun t' d' h' => ?_, fun t' ht' => ?_⟩
  · rw [lk_up] at h'
    by_cases e : t' = t
    · subst e
      simp only [if_true, Option.some.injEq] at h'
      subst h'
      exact ⟨v, by simp [h.size, ht], hm⟩
    · rw [if_neg e] at h'
      obtain ⟨v', hv', hm'⟩ := h.sl t' d' h'
      exact ⟨v', by rw [Array.getElem?_setIfInBounds_ne (Ne.symm e)]; exact hv', hm'⟩
  · have e : t ≠ t' := fun e => hf (e ▸ ht')
    rw [Array.getElem?_setIfInBounds_ne e]
    exact h.fx t' ht'

/-- Entries that stay, with their blocks, still lie where they lay. -/
theorem ER.mono {w w' : World} {I I' : Nat → Prop} {κ κ' : Nat → Option KI} {id : Nat} {e : Ent} (k : Keep w w' I I') (hk : Kle κ κ')
    (hb : e.owned = true → ∀ q b, κ id = some q → q.blk = some b → w'.heap[b]? = w.heap[b]?) (h : ER w I κ id e) : ER w' I' κ' id e := by
  cases e with
  | arr sz xs =>
    simp only [ER] at h ⊢
    refine ⟨h.1, h.2.imp (fun ⟨a, b⟩ => ⟨hk _ _ a, b⟩) ?_⟩
    rintro ⟨b, tot, cur, e, us, h1, h2, h3, h4, h5⟩
    have hbb := hb rfl _ b h1 rfl
    exact ⟨b, tot, cur, e, us, hk _ _ h1, by rw [hbb]; exact h2, h3, h4.mono hbb, PE.mono k _ _ _ h5⟩
  | imm sz xs =>
    simp only [ER] at h ⊢
    refine ⟨h.1, h.2.imp (fun ⟨a, b⟩ => ⟨hk _ _ a, b⟩) ?_⟩
    rintro ⟨b, tot, us, h1, h2, h4, h5⟩
    exact ⟨b, tot, us, hk _ _ h1, k.mem b h2, h4.mono (k.same b h2), PE.mono k _ _ _ h5⟩
  | box cs =>
    simp only [ER] at h ⊢
    obtain ⟨b, cur, e, h1, h2, h3, h4⟩ := h
    have hbb := hb rfl _ b h1 rfl
    exact ⟨b, cur, e, hk _ _ h1, by rw [hbb]; exact h2, h3, MRs.mono k hk _ _ h4⟩
end Go.Am
