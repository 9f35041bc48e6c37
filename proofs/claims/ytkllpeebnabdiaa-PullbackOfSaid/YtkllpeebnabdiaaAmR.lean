/- What an operation reads and changes. -/
import Derived.Test.YtkllpeebnabdiaaAmQ
namespace Go.Am
set_option linter.unusedVariables false
set_option linter.unusedSimpArgs false
set_option linter.unnecessarySimpa false
open Go

/-- A change of the memory that concerns only certain entries, and depends on them only. -/
structure Loc (S : Nat → Prop) (T : List (Nat × Ent) → List (Nat × Ent)) : Prop where
  out (l : List (Nat × Ent)) (id : Nat) : ¬ S id → lk (T l) id = lk l id
  same (l m : List (Nat × Ent)) : (∀ id, S id → lk m id = lk l id) → ∀ id, S id → lk (T m) id = lk (T l) id

section
variable {S : Nat → Prop} {T U : List (Nat × Ent) → List (Nat × Ent)}
theorem Loc.id : Loc S (fun l => l) := ⟨fun _ _ _ => rfl, fun _ _ h => h⟩
theorem Loc.comp (h : Loc S T) (k : Loc S U) : Loc S (fun l => T (U l)) :=
  ⟨fun hp id hn => (h.out _ id hn).trans (k.out _ id hn), fun hp hp2 he => h.same _ _ (k.same _ _ he)⟩
theorem Loc.up {i : Nat} {e : Ent} (hi : S i) : Loc S (fun l => up l i e) :=
  ⟨fun hp id hn => by rw [lk_up, if_neg (fun e : id = i => hn (e ▸ hi))], fun hp hp2 he id hs => by rw [lk_up, lk_up]; split; rfl; exact he id hs⟩
theorem Loc.rm {i : Nat} (hi : S i) : Loc S (fun l => rm l i) :=
  ⟨fun hp id hn => by rw [lk_rm, if_neg (fun e : id = i => hn (e ▸ hi))], fun hp hp2 he id hs => by rw [lk_rm, lk_rm]; split; rfl; exact he id hs⟩
theorem Loc.freeze {l : List Nat} (hl : ∀ id ∈ l, S id) : Loc S (freezeIds l) :=
  ⟨fun hp id hn => by
    rw [lk_freeze_eq, if_neg' (fun hm => hn (hl id hm))], fun hp hp2 he id hs => by rw [lk_freeze_eq, lk_freeze_eq, he id hs]⟩
where
  if_neg' {l : List Nat} {id : Nat} {o : Option Ent} (h : id ∉ l) : (o.map fun e => if id ∈ l then e.frozen else e) = o := by
    cases o <;> simp [h]
theorem lk_none_of {α : Type} {E : List (Nat × α)} {id : Nat} (h : ∀ p ∈ E, p.1 ≠ id) : lk E id = none := by
  cases hE : lk E id with
  | none => rfl
  | some a => exact absurd rfl (h _ (lk_mem hE))
theorem Loc.app {E : List (Nat × Ent)} (hE : ∀ p ∈ E, S p.1) : Loc S (fun l => E ++ l) :=
  ⟨fun hp id hn => by rw [lk_append, lk_none_of (fun p hp (e : p.1 = id) => hn (e ▸ hE p hp))]; rfl, fun hp hp2 he id hs => by rw [lk_append, lk_append, he id hs]⟩
end

theorem allO_congr {α β : Type} {f g : α → Option β} : ∀ {l : List α}, (∀ a ∈ l, f a = g a) → allO f l = allO g l
  | [], _ => rfl
  | a :: l, h => by simp only [allO, h a (by simp), allO_congr (l := l) (fun b hb => h b (List.mem_cons_of_mem _ hb))]

section
variable {hp hp2 hp' : List (Nat × Ent)} {sl sl2 : List (Nat × D)} {d : D} {n : Nat}

theorem lend0_agr (h : ∀ id ∈ d.ids0, lk hp2 id = lk hp id) : lend0 hp2 d = lend0 hp d := by
  cases d <;> simp only [lend0]
  rw [h _ (by simp [D.ids0])]
theorem lend0s_agr {cs : List D} (h : ∀ id ∈ cs.flatMap D.ids0, lk hp2 id = lk hp id) : allO (lend0 hp2) cs = allO (lend0 hp) cs :=
  allO_congr fun c hc => lend0_agr fun id hid => h id (List.mem_flatMap.2 ⟨c, hc, hid⟩)
theorem pur_agr (h : ∀ id ∈ d.ids, lk hp2 id = lk hp id) : pur hp2 d = pur hp d := by
  cases d <;> simp only [pur]
  case agg cs => rw [lend0s_agr (by simpa only [D.ids] using h)]
  all_goals exact lend0_agr (by simpa only [D.ids] using h)
theorem lend1_agr (h : ∀ id ∈ d.rch1 hp, lk hp2 id = lk hp id) : lend1 hp2 d = lend1 hp d := by
  cases d <;> simp only [lend1]
  case agg cs => rw [lend0s_agr (by simpa only [D.rch1] using h)]
  case pt id off =>
    simp only [D.rch1] at h
    have h0 := h id (by simp)
    rw [h0]
    split
    · rename_i cs hcs
      rw [lend0s_agr (fun i hi => h i (by rw [hcs]; exact List.mem_cons_of_mem _ hi))]
    · rfl
  all_goals exact lend0_agr (by simpa only [D.rch1] using h)
theorem lend_agr (h : ∀ id ∈ d.rch hp, lk hp2 id = lk hp id) : lend hp2 d = lend hp d := by
  cases d <;> simp only [lend]
  case clo f cs =>
    rw [allO_congr fun c hc => lend1_agr fun id hid => h id (List.mem_flatMap.2 ⟨c, hc, hid⟩)]
  all_goals exact lend1_agr (by simpa only [D.rch] using h)
theorem rdS_agr {sz : Nat} (h : ∀ id ∈ d.hd, lk hp2 id = lk hp id) : rdS hp2 sz d = rdS hp sz d := by
  cases d <;> simp only [rdS]
  rw [h _ (by simp [D.hd])]
theorem entSz_agr {id : Nat} (h : lk hp2 id = lk hp id) : entSz hp2 id = entSz hp id := by simp only [entSz, h]

/-! What is read is there. -/
theorem lend0_pres {e : D} (h : lend0 hp d = some e) : ∀ id ∈ d.ids0, lk hp id ≠ none := by
  cases d <;> simp only [D.ids0, List.not_mem_nil, false_implies, implies_true, List.mem_singleton, forall_eq]
  intro hn
  simp [lend0, hn] at h
theorem allO_mem {α β : Type} {f : α → Option β} : ∀ {l : List α} {m : List β}, allO f l = some m → ∀ a ∈ l, ∃ b, f a = some b
  | [], _, _, a, ha => by simp at ha
  | x :: l, m, h, a, ha => by
    simp only [allO] at h
    split at h
    case h_2 => cases h
    rename_i b m' hb hm
    rcases List.mem_cons.1 ha with rfl | ha
    · exact ⟨b, hb⟩
    · exact allO_mem hm a ha
theorem lend0s_pres {cs es : List D} (h : allO (lend0 hp) cs = some es) : ∀ id ∈ cs.flatMap D.ids0, lk hp id ≠ none := by
  intro id hid
  obtain ⟨c, hc, hi⟩ := List.mem_flatMap.1 hid
  obtain ⟨e, he⟩ := allO_mem h c hc
  exact lend0_pres he id hi
theorem pur_pres {e : D} (h : pur hp d = some e) : ∀ id ∈ d.ids, lk hp id ≠ none := by
  cases d
  case agg cs =>
    simp only [pur, Option.map_eq_some_iff] at h
    obtain ⟨es, h, _⟩ := h
    exact lend0s_pres h
  all_goals exact lend0_pres (by simpa only [pur] using h)
theorem lend1_pres {e : D} (h : lend1 hp d = some e) : ∀ id ∈ d.rch1 hp, lk hp id ≠ none := by
  cases d
  case agg cs =>
    simp only [lend1, Option.map_eq_some_iff] at h
    obtain ⟨es, h, _⟩ := h
    exact lend0s_pres h
  case pt i off =>
    simp only [lend1] at h
    split at h
    · rename_i cs hcs
      simp only [Option.map_eq_some_iff] at h
      obtain ⟨es, h, _⟩ := h
      intro id hid
      simp only [D.rch1, hcs, List.mem_cons] at hid
      rcases hid with rfl | hid
      · simp [hcs]
      · exact lend0s_pres h id hid
    · cases h
  case ref cs => intro id hid; simp [D.rch1, D.ids0] at hid
  all_goals exact lend0_pres (by simpa only [lend1] using h)
theorem lend_pres {e : D} (h : lend hp d = some e) : ∀ id ∈ d.rch hp, lk hp id ≠ none := by
  cases d
  case clo f cs =>
    simp only [lend, Option.map_eq_some_iff] at h
    obtain ⟨es, h, _⟩ := h
    intro id hid
    obtain ⟨c, hc, hi⟩ := List.mem_flatMap.1 hid
    obtain ⟨e, he⟩ := allO_mem h c hc
    exact lend1_pres he id hi
  all_goals exact lend1_pres (by simpa only [lend] using h)
theorem rdS_pres {sz : Nat} {l : List D} (h : rdS hp sz d = some l) : ∀ id ∈ d.hd, lk hp id ≠ none := by
  cases d <;> simp only [D.hd, List.not_mem_nil, false_implies, implies_true, List.mem_singleton, forall_eq]
  · intro hn; simp [rdS, hn] at h
  · simp [rdS] at h
  · simp [rdS] at h
theorem entSz_pres {id s : Nat} (h : entSz hp id = some s) : lk hp id ≠ none := by
  intro hn; simp [entSz, hn] at h
theorem evL_of {x : X} (h : ev sl x = some d) : evL sl x = d := by simp [evL, h]
theorem buildSlGo_agr {sz : Nat} : ∀ {ps : List (Nat × X)} {es : List D}, (∀ id ∈ ps.flatMap fun p => (evL sl p.2).ids, lk hp2 id = lk hp id) → buildSlGo sl hp2 sz ps es = buildSlGo sl hp sz ps es
  | [], _, _ => rfl
  | (i, x) :: ps, es, h => by
    simp only [buildSlGo]
    split
    · rename_i d hd
      rw [pur_agr (fun id hid => h id (by simp only [List.flatMap_cons, List.mem_append, evL_of hd]; exact .inl hid))]
      split
      · split
        · rw [buildSlGo_agr (fun id hid => h id (by simp only [List.flatMap_cons, List.mem_append]; exact .inr hid))]
        · rfl
      · rfl
    · rfl
theorem buildSlGo_pres {sz : Nat} : ∀ {ps : List (Nat × X)} {es l : List D} {f : List Nat}, buildSlGo sl hp sz ps es = some (l, f) →
    f = (ps.flatMap fun p => (evL sl p.2).ids) ∧ ∀ id ∈ ps.flatMap fun p => (evL sl p.2).ids, lk hp id ≠ none
  | [], es, l, f, h => by
    simp only [buildSlGo, Option.some.injEq, Prod.mk.injEq] at h
    simp [← h.2]
  | (i, x) :: ps, es, l, f, h => by
    simp only [buildSlGo] at h
    split at h
    case h_2 => cases h
    rename_i d hd
    split at h
    case h_2 => cases h
    rename_i e he
    split at h
    case isFalse => cases h
    simp only [Option.map_eq_some_iff] at h
    obtain ⟨⟨l', f'⟩, h, hh⟩ := h
    simp only [Prod.mk.injEq] at hh
    obtain ⟨h1, h2⟩ := buildSlGo_pres h
    rw [List.flatMap_cons, evL_of hd, ← hh.2, h1]
    refine ⟨rfl, fun id hid => ?_⟩
    rcases List.mem_append.1 hid with hid | hid
    · exact pur_pres he id hid
    · exact h2 id hid

theorem fr_pure {op : LOp} (hg : ∀ hp, eff n sl hp op = (eff n sl [] op).map fun p => (p.1, hp)) (hr : rdI sl hp op = []) (he : eff n sl hp op = some (d, hp')) :
    ∃ T, hp' = T hp ∧ Loc (fun id => id ∈ muI sl op ∨ (op.ck = true ∧ n ≤ id ∧ id < n + 64)) T ∧
    (∀ id ∈ rdI sl hp op, lk hp id ≠ none) ∧ ∀ hp2, (∀ id ∈ rdI sl hp op, lk hp2 id = lk hp id) → eff n sl hp2 op = some (d, T hp2) := by
  rw [hg, Option.map_eq_some_iff] at he
  obtain ⟨p, hp0, hh⟩ := he
  simp only [Prod.mk.injEq] at hh
  obtain ⟨rfl, rfl⟩ := hh
  exact ⟨fun l => l, rfl, Loc.id, by simp [hr], fun hp2 _ => by rw [hg, hp0]; rfl⟩
theorem fr_new {op : LOp} {g : Option (D × Ent)} (hck : op.ck = true) (hg : ∀ hp, eff n sl hp op = g.map fun p => (p.1, up hp n p.2)) (hr : rdI sl hp op = []) (he : eff n sl hp op = some (d, hp')) :
    ∃ T, hp' = T hp ∧ Loc (fun id => id ∈ muI sl op ∨ (op.ck = true ∧ n ≤ id ∧ id < n + 64)) T ∧
    (∀ id ∈ rdI sl hp op, lk hp id ≠ none) ∧ ∀ hp2, (∀ id ∈ rdI sl hp op, lk hp2 id = lk hp id) → eff n sl hp2 op = some (d, T hp2) := by
  rw [hg, Option.map_eq_some_iff] at he
  obtain ⟨p, hp0, hh⟩ := he
  simp only [Prod.mk.injEq] at hh
  obtain ⟨rfl, rfl⟩ := hh
  exact ⟨fun l => up l n p.2, rfl, Loc.up (.inr ⟨hck, by omega⟩), by simp [hr], fun hp2 _ => by rw [hg, hp0]; rfl⟩
theorem fr_read {op : LOp} (hp0 : hp' = hp) (hp1 : ∀ id ∈ rdI sl hp op, lk hp id ≠ none) (hp2 : ∀ hp2, (∀ id ∈ rdI sl hp op, lk hp2 id = lk hp id) → eff n sl hp2 op = some (d, hp2)) :
    ∃ T, hp' = T hp ∧ Loc (fun id => id ∈ muI sl op ∨ (op.ck = true ∧ n ≤ id ∧ id < n + 64)) T ∧
    (∀ id ∈ rdI sl hp op, lk hp id ≠ none) ∧ ∀ hp2, (∀ id ∈ rdI sl hp op, lk hp2 id = lk hp id) → eff n sl hp2 op = some (d, T hp2) :=
  ⟨fun l => l, hp0, Loc.id, hp1, hp2⟩

set_option maxHeartbeats 2000000 in
/-- What an operation comes to depends only on what it reads, and it changes only what it says. -/
theorem eff_frame {op : LOp} (he : eff n sl hp op = some (d, hp')) : ∃ T, hp' = T hp ∧ Loc (fun id => id ∈ muI sl op ∨ (op.ck = true ∧ n ≤ id ∧ id < n + 64)) T ∧
    (∀ id ∈ rdI sl hp op, lk hp id ≠ none) ∧ ∀ hp2, (∀ id ∈ rdI sl hp op, lk hp2 id = lk hp id) → eff n sl hp2 op = some (d, T hp2) := by
  have fr : n ≤ n ∧ n < n + 64 := by omega
  cases op
  case alloc z => exact fr_new rfl (g := some (.pt n 0, .box z)) (fun _ => rfl) rfl he
  case bx x => exact fr_new rfl (g := ((ev sl x).bind cellsO).map fun cs => (.pt n 0, .box cs)) (fun hp => by simp only [eff, Option.map_map]; rfl) rfl he
  case makeSl s b z x =>
    refine fr_new rfl (g := match (ev sl x).bind asI with | some m => if 0 ≤ m ∧ fits m.toNat b then some (.sl n 0 m.toNat, .arr s (List.replicate m.toNat z)) else none | none => none) (fun hp => ?_) rfl he
    cases h : (ev sl x).bind asI with
    | none => simp [eff, h]
    | some m => by_cases hc : 0 ≤ m ∧ fits m.toNat b = true <;> simp [eff, h, hc]
  case load ag m x =>
    simp only [eff] at he
    split at he
    · rename_i id off hx
      split at he
      · rename_i cs hl
        simp only [Option.map_eq_some_iff, Prod.mk.injEq] at he
        obtain ⟨d', hd, rfl, rfl⟩ := he
        refine fr_read rfl ?_ fun hp2 h => ?_
        · simp [rdI, evL_of hx, D.hd, hl]
        · simp [rdI, evL_of hx, D.hd] at h
          simp [eff, hx, h, hl, hd]
      · cases he
    · rename_i cs hx
      simp only [Option.map_eq_some_iff, Prod.mk.injEq] at he
      obtain ⟨d', hd, rfl, rfl⟩ := he
      refine fr_read rfl ?_ fun hp2 h => ?_
      · simp [rdI, evL_of hx, D.hd]
      · simp [eff, hx, hd]
    · rename_i id i off hx
      split at he
      · rename_i sz xs hl
        split at he
        · rename_i e hxe
          simp only [Option.map_eq_some_iff, Prod.mk.injEq] at he
          obtain ⟨d', hd, rfl, rfl⟩ := he
          refine fr_read rfl ?_ fun hp2 h => ?_
          · simp [rdI, evL_of hx, D.hd, hl]
          · simp [rdI, evL_of hx, D.hd] at h
            simp [eff, hx, h, hl, hxe, hd]
        · cases he
      · rename_i sz xs hl
        split at he
        · rename_i e hxe
          simp only [Option.map_eq_some_iff, Prod.mk.injEq] at he
          obtain ⟨d', hd, rfl, rfl⟩ := he
          refine fr_read rfl ?_ fun hp2 h => ?_
          · simp [rdI, evL_of hx, D.hd, hl]
          · simp [rdI, evL_of hx, D.hd] at h
            simp [eff, hx, h, hl, hxe, hd]
        · cases he
      · cases he
    · cases he
  case slc s x lo hi =>
    simp only [eff] at he
    split at he
    · rename_i id lo0 len l hx hlo
      split at he
      · rename_i h hhi
        split at he
        · rename_i hc
          simp only [Option.some.injEq, Prod.mk.injEq] at he
          obtain ⟨rfl, rfl⟩ := he
          have hp0 : lk hp id ≠ none := entSz_pres hc.2.2.2
          refine fr_read rfl ?_ fun hp2 hh => ?_
          · simp [rdI, evL_of hx, D.hd, hp0]
          · simp [rdI, evL_of hx, D.hd] at hh
            simp only [eff, hx, hlo, hhi]
            rw [if_pos ⟨hc.1, hc.2.1, hc.2.2.1, by rw [entSz_agr hh]; exact hc.2.2.2⟩]
        · cases he
      · cases he
    · rename_i s' xs l hx hlo
      split at he
      · rename_i h hhi
        split at he
        · rename_i hc
          simp only [Option.some.injEq, Prod.mk.injEq] at he
          obtain ⟨rfl, rfl⟩ := he
          refine fr_read rfl ?_ fun hp2 hh => ?_
          · simp [rdI, evL_of hx, D.hd]
          · simp only [eff, hx, hlo, hhi]
            rw [if_pos hc]
        · cases he
      · cases he
    · rename_i s' l hx hlo
      split at he
      · rename_i h hhi
        split at he
        · rename_i hc
          simp only [Option.some.injEq, Prod.mk.injEq] at he
          obtain ⟨rfl, rfl⟩ := he
          refine fr_read rfl ?_ fun hp2 hh => ?_
          · simp [rdI, evL_of hx, D.hd]
          · simp only [eff, hx, hlo, hhi]
            rw [if_pos hc]
        · cases he
      · cases he
    · cases he
  case bad => simp [eff] at he
  case clr s x =>
    simp only [eff] at he
    split at he
    · rename_i sz' hx
      simp only [Option.some.injEq, Prod.mk.injEq] at he
      obtain ⟨rfl, rfl⟩ := he
      refine fr_read rfl ?_ fun hp2 h => ?_
      · simp [rdI, evL_of hx, D.hd]
      · simp [eff, hx]
    · rename_i id lo len hx
      split at he
      · rename_i sz' xs hl
        split at he
        · rename_i hc
          simp only [Option.some.injEq, Prod.mk.injEq] at he
          obtain ⟨rfl, rfl⟩ := he
          refine ⟨fun l => up l id (.arr s (xs.take lo)), rfl, Loc.up (.inl (by simp [muI, evL_of hx, D.hd])), ?_, fun hp2 h => ?_⟩
          · simp [rdI, evL_of hx, D.hd, hl]
          · simp [rdI, evL_of hx, D.hd] at h
            simp only [eff, hx, h, hl]
            rw [if_pos hc]
        · cases he
      · cases he
    · cases he
  case appz s b z x l =>
    refine fr_new rfl (g := match ev sl x, (ev sl l).bind asI with | some (.nl _), some m => if 0 < m ∧ fits m.toNat b then some (.sl n 0 m.toNat, .arr s (List.replicate m.toNat z)) else none | _, _ => none) (fun hp => ?_) rfl he
    simp only [eff]
    split
    · rename_i h1 h2
      simp only [h1, h2]
      split <;> rfl
    · rename_i h1
      split
      · rename_i h2 h3
        exact absurd h3 (fun h3 => h1 _ _ h2 h3)
      · rfl
  case iad s x i =>
    simp only [eff] at he
    split at he
    · rename_i id lo len j hx hj
      split at he
      · rename_i hc
        simp only [Option.some.injEq, Prod.mk.injEq] at he
        obtain ⟨rfl, rfl⟩ := he
        have hp0 : lk hp id ≠ none := entSz_pres hc.2.2
        refine fr_read rfl ?_ fun hp2 hh => ?_
        · simp [rdI, evL_of hx, D.hd, hp0]
        · simp [rdI, evL_of hx, D.hd] at hh
          simp only [eff, hx, hj]
          rw [if_pos ⟨hc.1, hc.2.1, by rw [entSz_agr hh]; exact hc.2.2⟩]
      · cases he
    · rename_i s' xs j hx hj
      split at he
      · rename_i hc
        split at he
        · rename_i e hxe
          simp only [Option.some.injEq, Prod.mk.injEq] at he
          obtain ⟨rfl, rfl⟩ := he
          refine fr_read rfl ?_ fun hp2 hh => ?_
          · simp [rdI, evL_of hx, D.hd]
          · simp only [eff, hx, hj]
            rw [if_pos hc]
            simp [hxe]
        · cases he
      · cases he
    · cases he
  case store m a x =>
    simp only [eff] at he
    split at he
    · rename_i id off d0 ha hx
      split at he
      · rename_i cs l hl hcl
        split at he
        · rename_i hc
          simp only [Option.some.injEq, Prod.mk.injEq] at he
          obtain ⟨rfl, rfl⟩ := he
          refine ⟨fun hp => up hp id (.box (splice cs off l)), rfl, Loc.up (.inl (by simp [muI, evL_of ha])), by simp [rdI, evL_of ha, hl], fun hp2 hh => ?_⟩
          simp [rdI, evL_of ha] at hh
          simp only [eff, ha, hx, hh, hl, hcl]
          rw [if_pos hc]
        · cases he
      · cases he
    · rename_i id i off d0 ha hx
      split at he
      · rename_i sz xs hl
        split at he
        · rename_i e d' hxe hpu
          split at he
          · rename_i hc
            have hids : ∀ j ∈ d0.ids, j ∈ muI sl (.store m a x) := fun j hj => by simp [muI, evL_of ha, evL_of hx, hj]
            have hid : id ∈ muI sl (.store m a x) := by simp [muI, evL_of ha]
            have hpre : ∀ j ∈ rdI sl hp (.store m a x), lk hp j ≠ none := by
              intro j hj
              simp only [rdI, evL_of ha, evL_of hx, List.mem_cons] at hj
              rcases hj with rfl | hj
              · simp [hl]
              · exact pur_pres hpu j hj
            have hagr : ∀ hp2, (∀ j ∈ rdI sl hp (.store m a x), lk hp2 j = lk hp j) → lk hp2 id = some (.arr sz xs) ∧ pur hp2 d0 = some d' := by
              intro hp2 hh
              simp only [rdI, evL_of ha, evL_of hx] at hh
              exact ⟨by rw [hh id (by simp), hl], by rw [pur_agr fun j hj => hh j (by simp [hj])]; exact hpu⟩
            split at he
            · rename_i hms
              split at he
              · rename_i hok
                simp only [Option.some.injEq, Prod.mk.injEq] at he
                obtain ⟨rfl, rfl⟩ := he
                refine ⟨fun hp => up (freezeIds d0.ids hp) id (.arr sz (xs.set i d')), rfl, Loc.comp (Loc.up (.inl hid)) (Loc.freeze fun j hj => .inl (hids j hj)), hpre, fun hp2 hh => ?_⟩
                obtain ⟨h1, h2⟩ := hagr hp2 hh
                simp only [eff, ha, hx, h1, h2, hxe]
                rw [if_pos hc, if_pos hms, if_pos hok]
              · cases he
            · rename_i hms
              split at he
              · rename_i hok
                simp only [Option.some.injEq, Prod.mk.injEq] at he
                obtain ⟨rfl, rfl⟩ := he
                refine ⟨fun hp => up (freezeIds d0.ids hp) id (.arr sz (xs.set i (.agg (splice e.cells off d'.cells)))), rfl, Loc.comp (Loc.up (.inl hid)) (Loc.freeze fun j hj => .inl (hids j hj)), hpre, fun hp2 hh => ?_⟩
                obtain ⟨h1, h2⟩ := hagr hp2 hh
                simp only [eff, ha, hx, h1, h2, hxe]
                rw [if_pos hc, if_neg hms, if_pos hok]
              · cases he
          · cases he
        · cases he
      · cases he
    · cases he
  case app s b x y =>
    simp only [eff] at he
    split at he
    · rename_i z ys hx hy
      cases hy0 : ev sl y with
      | none => rw [hy0] at hy; cases hy
      | some dy =>
      rw [hy0, Option.bind_some] at hy
      split at he
      · rename_i hc
        simp only [Option.some.injEq, Prod.mk.injEq] at he
        obtain ⟨rfl, rfl⟩ := he
        refine ⟨fun hp => up hp n (.arr s ys), rfl, Loc.up (.inr ⟨rfl, fr⟩), ?_, fun hp2 hh => ?_⟩
        · simp only [rdI, evL_of hx, evL_of hy0]; simpa [D.hd] using rdS_pres hy
        · simp only [rdI, evL_of hx, evL_of hy0] at hh
          have : rdS hp2 s dy = some ys := by rw [rdS_agr fun j hj => hh j (by simp [hj]), hy]
          simp only [eff, hx, hy0, Option.bind_some, this]
          rw [if_pos hc]
      · cases he
    · rename_i id lo len ys hx hy
      cases hy0 : ev sl y with
      | none => rw [hy0] at hy; cases hy
      | some dy =>
      rw [hy0, Option.bind_some] at hy
      split at he
      · rename_i sz' xs hl
        have hid : id ∈ muI sl (.app s b x y) := by simp [muI, evL_of hx, D.hd]
        have hr : rdI sl hp (.app s b x y) = id :: dy.hd := by simp only [rdI, evL_of hx, evL_of hy0]; rfl
        have hpre : ∀ j ∈ rdI sl hp (.app s b x y), lk hp j ≠ none := by
          intro j hj
          rw [hr, List.mem_cons] at hj
          rcases hj with rfl | hj
          · simp [hl]
          · exact rdS_pres hy j hj
        have hagr : ∀ hp2, (∀ j ∈ rdI sl hp (.app s b x y), lk hp2 j = lk hp j) → lk hp2 id = some (.arr sz' xs) ∧ rdS hp2 s dy = some ys := by
          intro hp2 hh
          rw [hr] at hh
          exact ⟨by rw [hh id (by simp), hl], by rw [rdS_agr fun j hj => hh j (by simp [hj]), hy]⟩
        split at he
        · rename_i hc
          split at he
          · rename_i hlen
            simp only [Option.some.injEq, Prod.mk.injEq] at he
            obtain ⟨rfl, rfl⟩ := he
            refine ⟨fun hp => up (rm hp id) n (.arr s (xs ++ ys)), rfl, Loc.comp (Loc.up (.inr ⟨rfl, fr⟩)) (Loc.rm (.inl hid)), hpre, fun hp2 hh => ?_⟩
            obtain ⟨h1, h2⟩ := hagr hp2 hh
            simp only [eff, hx, hy0, Option.bind_some, h1, h2]
            rw [if_pos hc, if_pos hlen]
          · rename_i hlen
            split at he
            · rename_i hle
              simp only [Option.some.injEq, Prod.mk.injEq] at he
              obtain ⟨rfl, rfl⟩ := he
              refine ⟨fun hp => up (rm hp id) n (.arr s (xs.take len ++ ys)), rfl, Loc.comp (Loc.up (.inr ⟨rfl, fr⟩)) (Loc.rm (.inl hid)), hpre, fun hp2 hh => ?_⟩
              obtain ⟨h1, h2⟩ := hagr hp2 hh
              simp only [eff, hx, hy0, Option.bind_some, h1, h2]
              rw [if_pos hc, if_neg hlen, if_pos hle]
            · cases he
        · cases he
      · cases he
    · cases he
  case buildSl s b z m ps =>
    simp only [eff] at he
    split at he
    · rename_i hf
      simp only [Option.map_eq_some_iff] at he
      obtain ⟨⟨es, f⟩, hb, hh⟩ := he
      simp only [Prod.mk.injEq] at hh
      obtain ⟨rfl, rfl⟩ := hh
      obtain ⟨h1, h2⟩ := buildSlGo_pres hb
      refine ⟨fun hp => up (freezeIds f hp) n (.arr s es), rfl, Loc.comp (Loc.up (.inr ⟨rfl, fr⟩)) (Loc.freeze fun j hj => .inl (by rw [h1] at hj; exact hj)), h2, fun hp2 hh => ?_⟩
      simp only [eff]
      rw [if_pos hf, buildSlGo_agr hh, hb]
      rfl
    · cases he
  case call | callv => simp [eff] at he
  all_goals
    refine fr_pure (fun hp => ?_) rfl he
    simp only [eff]
    repeat' split
    all_goals first
      | rfl
      | (simp only [Option.map_map]; rfl)
      | (simp; done)
end
end Go.Am
