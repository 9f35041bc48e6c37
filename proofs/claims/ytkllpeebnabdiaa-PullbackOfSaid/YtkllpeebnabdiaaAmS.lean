/- What an instruction reads and changes; runs of a region of open order. -/
import Derived.Test.YtkllpeebnabdiaaAmR
namespace Go.Am
set_option linter.unusedVariables false
set_option linter.unusedSimpArgs false
set_option linter.unnecessarySimpa false
open Go

section
variable {hp hp2 hp' : List (Nat × Ent)} {sl sl2 : List (Nat × D)} {d : D} {n : Nat}

theorem buildGo_sl : ∀ {ps : List (Nat × Nat × X)} {cs : List D}, (∀ p ∈ ps, ev sl2 p.2.2 = ev sl p.2.2) → buildGo sl2 ps cs = buildGo sl ps cs
  | [], _, _ => rfl
  | (a, b, x) :: ps, cs, h => by
    simp only [buildGo, h (a, b, x) (by simp)]
    split
    · split
      · exact buildGo_sl fun p hp => h p (List.mem_cons_of_mem _ hp)
      · rfl
    · rfl
theorem buildSlGo_sl {sz : Nat} : ∀ {ps : List (Nat × X)} {es : List D}, (∀ p ∈ ps, ev sl2 p.2 = ev sl p.2) → buildSlGo sl2 hp sz ps es = buildSlGo sl hp sz ps es
  | [], _, _ => rfl
  | (a, x) :: ps, es, h => by
    simp only [buildSlGo, h (a, x) (by simp)]
    split
    · split
      · split
        · rw [buildSlGo_sl fun p hp => h p (List.mem_cons_of_mem _ hp)]
        · rfl
      · rfl
    · rfl
theorem optI_sl {d0 : Int} {x : Option X} (h : ∀ y ∈ x.toList, ev sl2 y = ev sl y) : optI sl2 d0 x = optI sl d0 x := by
  cases x with
  | none => rfl
  | some y => simp only [optI, h y (by simp)]
theorem eff_sl {op : LOp} (h : ∀ x ∈ op.xs, ev sl2 x = ev sl x) : eff n sl2 hp op = eff n sl hp op := by
  cases op <;> simp only [LOp.xs, List.mem_cons, List.not_mem_nil, or_false, forall_eq_or_imp, forall_eq, List.mem_append, List.mem_map, forall_exists_index, and_imp, forall_apply_eq_imp_iff₂] at h
  case build z ps => simp only [eff, buildGo_sl (fun p hp => h p hp)]
  case buildSl s b z m ps => simp only [eff, buildSlGo_sl (fun p hp => h p hp)]
  case slc s x lo hi => simp only [eff, h.1, optI_sl (fun y hy => h.2 y (.inl hy)), optI_sl (fun y hy => h.2 y (.inr hy))]
  case mkf f l => simp only [eff, allO_congr h]
  case mn l => simp only [eff, allO_congr h]
  case mx l => simp only [eff, allO_congr h]
  case call => simp only [eff]
  case callv => simp only [eff]
  all_goals first | rfl | simp only [eff, h]

theorem adopt0_rng : n ≤ (adopt0 n d).2.2 ∧ ∀ p ∈ (adopt0 n d).2.1, n ≤ p.1 ∧ p.1 < (adopt0 n d).2.2 := by
  cases d <;> simp [adopt0]
theorem adopts_rng {f : Nat → D → D × List (Nat × Ent) × Nat} (hf : ∀ n d, n ≤ (f n d).2.2 ∧ ∀ p ∈ (f n d).2.1, n ≤ p.1 ∧ p.1 < (f n d).2.2) :
    ∀ {ds : List D} {n : Nat}, n ≤ (adopts f n ds).2.2 ∧ ∀ p ∈ (adopts f n ds).2.1, n ≤ p.1 ∧ p.1 < (adopts f n ds).2.2
  | [], n => by simp [adopts]
  | d :: ds, n => by
    obtain ⟨h1, h2⟩ := hf n d
    obtain ⟨h3, h4⟩ := adopts_rng hf (ds := ds) (n := (f n d).2.2)
    simp only [adopts]
    refine ⟨Nat.le_trans h1 h3, fun p hp => ?_⟩
    rcases List.mem_append.1 hp with hp | hp
    · exact ⟨(h2 p hp).1, Nat.lt_of_lt_of_le (h2 p hp).2 h3⟩
    · exact ⟨Nat.le_trans h1 (h4 p hp).1, (h4 p hp).2⟩
theorem adopt1_rng : n ≤ (adopt1 n d).2.2 ∧ ∀ p ∈ (adopt1 n d).2.1, n ≤ p.1 ∧ p.1 < (adopt1 n d).2.2 := by
  cases d <;> simp only [adopt1]
  case agg cs => exact adopts_rng (fun n d => adopt0_rng)
  case box cs =>
    obtain ⟨h1, h2⟩ := adopts_rng (f := adopt0) (fun n d => adopt0_rng) (ds := cs) (n := n + 1)
    refine ⟨by omega, fun p hp => ?_⟩
    rcases List.mem_cons.1 hp with rfl | hp
    · simp only; omega
    · have := h2 p hp; omega
  all_goals exact adopt0_rng
theorem adopt_rng : n ≤ (adopt n d).2.2 ∧ ∀ p ∈ (adopt n d).2.1, n ≤ p.1 ∧ p.1 < (adopt n d).2.2 := by
  cases d <;> simp only [adopt]
  case tup cs => exact adopts_rng (fun n d => adopt1_rng)
  all_goals exact adopt1_rng

theorem expel0_frame {e : D} (h : expel0 hp d = some (e, hp')) : ∃ T, hp' = T hp ∧ Loc (fun id => id ∈ d.ids) T ∧ (∀ (l : List (Nat × Ent)) id e, lk (T l) id = some e → lk l id = some e) ∧ (∀ id ∈ d.rch hp, lk hp id ≠ none) ∧
    ∀ hp2, (∀ id ∈ d.ids, lk hp2 id = lk hp id) → expel0 hp2 d = some (e, T hp2) := by
  cases d <;> simp only [expel0, reduceCtorEq] at h
  case sl id lo len =>
    have hid : id ∈ D.ids (.sl id lo len) := by simp [D.ids, D.ids0]
    have hpre : ∀ e, lk hp id = some e → ∀ i ∈ D.rch hp (.sl id lo len), lk hp i ≠ none := by
      intro e he i hi
      simp only [D.rch, D.rch1, D.ids0, List.mem_singleton] at hi
      subst hi
      rw [he]; simp
    have rmc : ∀ (l : List (Nat × Ent)) i e, lk (rm l id) i = some e → lk l i = some e := by
      intro l i e he
      rw [lk_rm] at he
      split at he
      · cases he
      · exact he
    split at h
    · rename_i sz xs hl
      split at h
      case isFalse => cases h
      rename_i hlo
      split at h
      · rename_i hlen
        simp only [Option.some.injEq, Prod.mk.injEq] at h
        obtain ⟨rfl, rfl⟩ := h
        exact ⟨fun l => rm l id, rfl, Loc.rm hid, rmc, hpre _ hl, fun hp2 hh => by simp only [expel0, hh id hid, hl, hlo, hlen, if_true]⟩
      · rename_i hlen
        split at h
        · rename_i hle
          simp only [Option.some.injEq, Prod.mk.injEq] at h
          obtain ⟨rfl, rfl⟩ := h
          exact ⟨fun l => rm l id, rfl, Loc.rm hid, rmc, hpre _ hl, fun hp2 hh => by simp only [expel0, hh id hid, hl, hlo, if_true]; rw [if_neg hlen, if_pos hle]⟩
        · cases h
    · rename_i sz xs hl
      split at h
      · rename_i hc
        simp only [Option.some.injEq, Prod.mk.injEq] at h
        obtain ⟨rfl, rfl⟩ := h
        exact ⟨fun l => l, rfl, Loc.id, fun _ _ _ h => h, hpre _ hl, fun hp2 hh => by simp only [expel0, hh id hid, hl]; rw [if_pos hc]⟩
      · rename_i hc
        split at h
        · rename_i hle
          simp only [Option.some.injEq, Prod.mk.injEq] at h
          obtain ⟨rfl, rfl⟩ := h
          exact ⟨fun l => l, rfl, Loc.id, fun _ _ _ h => h, hpre _ hl, fun hp2 hh => by simp only [expel0, hh id hid, hl]; rw [if_neg hc, if_pos hle]⟩
        · cases h
    · cases h
  all_goals
    simp only [Option.some.injEq, Prod.mk.injEq] at h
    obtain ⟨rfl, rfl⟩ := h
    exact ⟨fun l => l, rfl, Loc.id, fun _ _ _ h => h, by simp [D.rch, D.rch1, D.ids0], fun hp2 _ => rfl⟩
theorem Loc.mono {S S' : Nat → Prop} {T : List (Nat × Ent) → List (Nat × Ent)} (h : Loc S T) (hs : ∀ id, S id → S' id) : Loc S' T :=
  ⟨fun l id hn => h.out l id fun hh => hn (hs id hh), fun l m he id hi => by
    by_cases hS : S id
    · exact h.same l m (fun i hi => he i (hs i hi)) id hS
    · rw [h.out l id hS, h.out m id hS]; exact he id hi⟩
theorem rdOf_sub : ∀ {md : List Md} {ds : List D}, ∀ d ∈ rdOf md ds, d ∈ ds
  | [], ds, d, h => by cases ds <;> simpa [rdOf] using h
  | m :: md, [], d, h => by cases m <;> simp [rdOf] at h
  | m :: md, c :: ds, d, h => by
    cases m
    case rd =>
      rcases List.mem_cons.1 h with rfl | h
      · simp
      · exact List.mem_cons_of_mem _ (rdOf_sub d h)
    all_goals exact List.mem_cons_of_mem _ (rdOf_sub (md := md) d h)
theorem giveR_agr : ∀ {md : List Md} {es : List D}, (∀ d ∈ rdOf md es, ∀ id ∈ d.rch hp, lk hp2 id = lk hp id) → giveR hp2 md es = giveR hp md es
  | [], es, h => by
    have e1 : ∀ hp, giveR hp [] es = allO (lend hp) es := fun hp => by cases es <;> rfl
    have e2 : rdOf [] es = es := by cases es <;> rfl
    rw [e1, e1]
    rw [e2] at h
    exact allO_congr fun d hd => lend_agr (h d hd)
  | m :: md, [], _ => by cases m <;> rfl
  | m :: md, e :: es, h => by
    by_cases hm : m = .rd
    · subst hm
      simp only [giveR]
      rw [lend_agr (h e (by simp [rdOf])), giveR_agr (fun d hd => h d (by simp only [rdOf]; exact List.mem_cons_of_mem _ hd))]
    · rw [giveR_own hm, giveR_own hm, giveR_agr (fun d hd => h d (by rw [rdOf_own hm]; exact hd))]
theorem lend1_rch {e : D} (hs : Sub hp2 hp) (h : lend1 hp2 d = some e) : d.rch1 hp = d.rch1 hp2 := by
  cases d <;> simp only [D.rch1]
  case pt id off =>
    simp only [lend1] at h
    split at h
    · rename_i cs hcs
      simp only [hs _ _ hcs, hcs]
    · cases h
theorem lend_rch {e : D} (hs : Sub hp2 hp) (h : lend hp2 d = some e) : d.rch hp = d.rch hp2 := by
  cases d <;> simp only [D.rch] <;> simp only [lend] at h
  case clo f cs =>
    simp only [Option.map_eq_some_iff] at h
    obtain ⟨l, hl, _⟩ := h
    have : ∀ c ∈ cs, D.rch1 hp c = D.rch1 hp2 c := fun c hc => let ⟨e, he⟩ := allO_mem hl c hc; lend1_rch hs he
    clear hl
    induction cs with
    | nil => rfl
    | cons c cs ih => rw [List.flatMap_cons, List.flatMap_cons, this c (by simp), ih fun c hc => this c (List.mem_cons_of_mem _ hc)]
  all_goals exact lend1_rch hs h
theorem giveOs_frame : ∀ {md : List Md} {ds es : List D} {hp hp' : List (Nat × Ent)}, giveOs hp md ds = some (es, hp') → md.contains .mp = false →
    ∃ T, hp' = T hp ∧ Loc (fun id => id ∈ ds.flatMap D.ids) T ∧ (∀ (l : List (Nat × Ent)) id e, lk (T l) id = some e → lk l id = some e) ∧ (∀ d ∈ ds, d ∈ rdOf md ds ∨ (d.rch hp = d.ids ∧ ∀ id ∈ d.ids, lk hp id ≠ none)) ∧ rdOf md es = rdOf md ds ∧
      (∀ i ∈ muIdx 0 md, ∀ id off, ds[i]? ≠ some (.pt id off)) ∧ ∀ hp2, (∀ id ∈ ds.flatMap D.ids, lk hp2 id = lk hp id) → giveOs hp2 md ds = some (es, T hp2)
  | [], ds, es, hp, hp', h, _ => by
    have : es = ds ∧ hp' = hp := by cases ds <;> simp only [giveOs, Option.some.injEq, Prod.mk.injEq] at h <;> exact ⟨h.1.symm, h.2.symm⟩
    obtain ⟨rfl, rfl⟩ := this
    have e2 : rdOf [] es = es := by cases es <;> rfl
    exact ⟨fun l => l, rfl, Loc.id, fun _ _ _ h => h, fun d hd => .inl (by rw [e2]; exact hd), rfl, by simp [muIdx], fun hp2 _ => by cases es <;> rfl⟩
  | m :: md, [], es, hp, hp', h, _ => by
    simp only [giveOs, Option.some.injEq, Prod.mk.injEq] at h
    obtain ⟨rfl, rfl⟩ := h
    exact ⟨fun l => l, rfl, Loc.id, fun _ _ _ h => h, by simp, rfl, by simp, fun hp2 _ => rfl⟩
  | m :: md, d :: ds, es, hp, hp', h, hmp => by
    simp only [giveOs] at h
    split at h
    case h_2 => cases h
    rename_i e hp1 h1
    split at h
    case h_2 => cases h
    rename_i l hp3 h2
    simp only [Option.some.injEq, Prod.mk.injEq] at h
    obtain ⟨rfl, rfl⟩ := h
    have hmp' : md.contains .mp = false := by
      simp only [List.contains_cons, Bool.or_eq_false_iff] at hmp
      exact hmp.2
    obtain ⟨T, rfl, hT, hsub, hpre, hrd, hno, hgo⟩ := giveOs_frame h2 hmp'
    have idx : ∀ (k : Nat) (md : List Md), ∀ i ∈ muIdx (k + 1) md, ∃ j, i = j + 1 ∧ j ∈ muIdx k md := by
      intro k md
      induction md generalizing k with
      | nil => simp [muIdx]
      | cons m md ih =>
        intro i hi
        cases m <;> simp only [muIdx, List.mem_cons] at hi ⊢
        case mu =>
          rcases hi with rfl | hi
          · exact ⟨k, rfl, .inl rfl⟩
          · obtain ⟨j, h1, h2⟩ := ih (k + 1) i hi
            exact ⟨j, h1, .inr h2⟩
        case mp =>
          rcases hi with rfl | hi
          · exact ⟨k, rfl, .inl rfl⟩
          · obtain ⟨j, h1, h2⟩ := ih (k + 1) i hi
            exact ⟨j, h1, .inr h2⟩
        all_goals exact ih (k + 1) i hi
    have step : ∀ i ∈ muIdx 1 md, ∀ id off, (d :: ds)[i]? ≠ some (.pt id off) := by
      intro i hi id off
      obtain ⟨j, rfl, hj⟩ := idx 0 md i hi
      simpa using hno j hj id off
    by_cases hm : m = .rd
    · subst hm
      simp only [giveO, Option.some.injEq, Prod.mk.injEq] at h1
      obtain ⟨rfl, rfl⟩ := h1
      refine ⟨T, rfl, hT.mono (fun id hi => by simp only [List.flatMap_cons, List.mem_append]; exact .inr hi), hsub, fun c hc => ?_, by simp only [rdOf, hrd], ?_, fun hp2 hh => ?_⟩
      · rcases List.mem_cons.1 hc with rfl | hc
        · exact .inl (by simp [rdOf])
        · exact (hpre c hc).imp (fun h => by simp only [rdOf]; exact List.mem_cons_of_mem _ h) id
      · simpa only [muIdx, Nat.zero_add] using step
      · simp only [giveOs, giveO]
        rw [hgo hp2 (fun id hi => hh id (by simp only [List.flatMap_cons, List.mem_append]; exact .inr hi))]
    · have hm2 : ∀ l, giveO l m d = expel0 l d := fun l => by cases m <;> first | rfl | exact absurd rfl hm | (simp at hmp)
      rw [hm2] at h1
      obtain ⟨U, rfl, hU, hus, hup, hug⟩ := expel0_frame h1
      refine ⟨fun l => T (U l), rfl, Loc.comp (hT.mono (fun id hi => by simp only [List.flatMap_cons, List.mem_append]; exact .inr hi)) (hU.mono (fun id hi => by simp only [List.flatMap_cons, List.mem_append]; exact .inl hi)), fun l id e he => hus _ _ _ (hsub _ _ _ he), fun c hc => ?_, by rw [rdOf_own hm, rdOf_own hm, hrd], ?_, fun hp2 hh => ?_⟩
      · rcases List.mem_cons.1 hc with rfl | hc
        · have e : D.rch hp c = c.ids := by cases c <;> simp only [expel0, reduceCtorEq] at h1 <;> simp [D.rch, D.rch1, D.ids, D.ids0]
          exact .inr ⟨e, by rw [← e]; exact hup⟩
        · rw [rdOf_own hm]
          rcases hpre c hc with h | ⟨h3, h4⟩
          · exact .inl h
          · refine .inr ⟨?_, fun id hi hn => ?_⟩
            · rw [← h3]
              cases c <;> simp only [D.rch, D.rch1]
              case pt id off => simp [D.rch, D.rch1, D.ids, D.ids0] at h3
              case clo f cs =>
                simp only [D.rch, D.ids, D.ids0, List.flatMap_eq_nil_iff] at h3
                rw [List.flatMap_eq_nil_iff.2 h3, List.flatMap_eq_nil_iff]
                intro x hx
                have := h3 x hx
                cases x <;> simp_all [D.rch1]
            · cases hl : lk (U hp) id with
              | none => exact h4 id hi hl
              | some e => rw [hus _ _ _ hl] at hn; cases hn
      · have h0 : ∀ id off, d ≠ .pt id off := by
          rintro id off rfl
          simp [expel0] at h1
        intro i hi
        cases m <;> simp only [muIdx, List.mem_cons] at hi
        case rd => exact absurd rfl hm
        case mp => simp at hmp
        case mu =>
          rcases hi with rfl | hi
          · intro id off; simpa using h0 id off
          · exact step i hi
        case ow => exact step i hi
      · simp only [giveOs, hm2]
        rw [hug hp2 (fun id hi => hh id (by simp only [List.flatMap_cons, List.mem_append]; exact .inl hi))]
        simp only
        rw [hgo (U hp2) (fun id hi => ?_)]
        by_cases hid : id ∈ d.ids
        · exact hU.same _ _ (fun i hi => hh i (by simp only [List.flatMap_cons, List.mem_append]; exact .inl hi)) id hid
        · rw [hU.out _ id hid, hU.out _ id hid]
          exact hh id (by simp only [List.flatMap_cons, List.mem_append]; exact .inr hi)
theorem gives_frame {md : List Md} {ds args : List D} (hmp : md.contains .mp = false) (hg : gives hp md ds = some (args, hp')) :
    ∃ T, hp' = T hp ∧ Loc (fun id => id ∈ ds.flatMap D.ids) T ∧ (∀ id ∈ ds.flatMap (D.rch hp), lk hp id ≠ none) ∧ (∀ i ∈ muIdx 0 md, ∀ id off, ds[i]? ≠ some (.pt id off)) ∧
      ∀ hp2, (∀ id ∈ ds.flatMap (D.rch hp), lk hp2 id = lk hp id) → gives hp2 md ds = some (args, T hp2) := by
  have hge : ∀ hp, gives hp md ds = match giveOs hp md ds with
      | some (es, hp1) => (giveR hp1 md es).map fun l => (l, hp1)
      | none => none := by
    intro hp
    cases md with
    | nil =>
      have e1 : giveOs hp [] ds = some (ds, hp) := by cases ds <;> rfl
      have e2 : giveR hp [] ds = allO (lend hp) ds := by cases ds <;> rfl
      simp only [gives, e1, e2]
    | cons m md => rfl
  have hrdl := gives_rdOf hg
  rw [hge] at hg
  split at hg
  case h_2 => cases hg
  rename_i es hp1 h1
  simp only [Option.map_eq_some_iff, Prod.mk.injEq] at hg
  obtain ⟨l, hl, rfl, rfl⟩ := hg
  obtain ⟨T, rfl, hT, hsub, hpre, hrd, hno, hgo⟩ := giveOs_frame h1 hmp
  have hids : ∀ d : D, ∀ id ∈ d.ids, id ∈ d.rch hp := by
    intro d id
    cases d <;> simp [D.ids, D.rch, D.rch1, D.ids0]
  have hrch : ∀ d ∈ rdOf md ds, d.rch hp = d.rch (T hp) := fun d hd => let ⟨e, he⟩ := hrdl d hd; lend_rch (fun id e he => hsub _ _ _ he) he
  refine ⟨T, rfl, hT, fun id hid => ?_, hno, fun hp2 hh => ?_⟩
  · obtain ⟨d, hd, hi⟩ := List.mem_flatMap.1 hid
    rcases hpre d hd with h | ⟨h3, h4⟩
    · obtain ⟨e, he⟩ := hrdl d h
      rw [hrch d h] at hi
      have := lend_pres he id hi
      intro hn
      cases hl2 : lk (T hp) id with
      | none => exact this hl2
      | some e => rw [hsub _ _ _ hl2] at hn; cases hn
    · rw [h3] at hi; exact h4 id hi
  · have hi2 : ∀ id ∈ ds.flatMap D.ids, lk hp2 id = lk hp id := fun id hi => by
      obtain ⟨d, hd, hi⟩ := List.mem_flatMap.1 hi
      exact hh id (List.mem_flatMap.2 ⟨d, hd, hids d id hi⟩)
    have hag : ∀ id ∈ ds.flatMap (D.rch hp), lk (T hp2) id = lk (T hp) id := fun id hi => by
      by_cases hS : id ∈ ds.flatMap D.ids
      · exact hT.same _ _ hi2 id hS
      · rw [hT.out _ id hS, hT.out _ id hS]; exact hh id hi
    rw [hge, hgo hp2 hi2]
    simp only
    rw [giveR_agr (hp := T hp) (fun d hd id hi => by
      rw [hrd] at hd
      rw [← hrch d hd] at hi
      exact hag id (List.mem_flatMap.2 ⟨d, rdOf_sub d hd, hi⟩)), hl]
    rfl
theorem takeBack_frame {hp0 : List (Nat × Ent)} {ds : List D} : ∀ {outs : List (Nat × D)} {n n' : Nat} {hp hp' : List (Nat × Ent)}, takeBack hp0 ds n outs hp = some (n', hp') → (∀ i ∈ outs.map (·.1), ∀ id off, ds[i]? ≠ some (.pt id off)) →
    n' = n ∧ ∃ E, hp' = E ++ hp ∧ (∀ p ∈ E, p.1 ∈ ds.flatMap D.ids) ∧ ∀ hq hpb, (∀ id ∈ ds.flatMap D.ids, lk hq id = lk hp0 id) → takeBack hq ds n outs hpb = some (n', E ++ hpb)
  | [], n, n', hp, hp', h, _ => by
    simp only [takeBack, Option.some.injEq, Prod.mk.injEq] at h
    obtain ⟨rfl, rfl⟩ := h
    exact ⟨rfl, [], rfl, by simp, fun _ _ _ => rfl⟩
  | (i, d) :: l, n, n', hp, hp', h, hno => by
    simp only [takeBack] at h
    split at h
    · rename_i id len sz xs hds
      split at h
      case isFalse => cases h
      rename_i hc
      obtain ⟨rfl, E, rfl, hE, hgo⟩ := takeBack_frame h (fun j hj => hno j (by simp at hj ⊢; exact .inr hj))
      have hid : id ∈ ds.flatMap D.ids := List.mem_flatMap.2 ⟨_, List.mem_of_getElem? hds, by simp [D.ids, D.ids0]⟩
      refine ⟨rfl, E ++ [(id, .arr sz xs)], by simp, fun p hp => ?_, fun hq hpb hh => ?_⟩
      · rcases List.mem_append.1 hp with hp | hp
        · exact hE p hp
        · simp only [List.mem_singleton] at hp; subst hp; exact hid
      · have ha : arrSz hq id = arrSz hp0 id := by simp only [arrSz, hh id hid]
        simp only [takeBack, hds]
        rw [ha, if_pos hc, hgo hq _ hh]
        simp
    · rename_i id cs hds
      exact absurd hds (hno i (by simp) id 0)
    · cases h

theorem callP_frame {P : Program} {f : Nat} {ds : List D} {md : List Md} (hmp : md.contains .mp = false) (hk : callP P n hp f ds md (· = (d, hp'))) :
    ∃ T, hp' = T hp ∧ Loc (fun id => id ∈ ds.flatMap D.ids ∨ (n ≤ id ∧ id < n + 64)) T ∧
    (∀ id ∈ ds.flatMap (D.rch hp), lk hp id ≠ none) ∧ ∀ hp2, (∀ id ∈ ds.flatMap (D.rch hp), lk hp2 id = lk hp id) → callP P n hp2 f ds md (· = (d, T hp2)) := by
  unfold callP kon at hk
  split at hk
  case h_2 => exact hk.elim
  rename_i q hg
  obtain ⟨args, hp1⟩ := q
  obtain ⟨T0, rfl, hT0, hpre, hno, hgo⟩ := gives_frame hmp hg
  obtain ⟨fz, r, outs, hfc, ha⟩ := hk
  simp only at ha
  split at ha
  case h_2 => exact ha.elim
  rename_i dh hac
  subst ha
  unfold afterCall at hac
  split at hac
  case isFalse => cases hac
  rename_i hcond
  have hout : ∀ i ∈ outs.map (·.1), ∀ id off, ds[i]? ≠ some (.pt id off) := by rw [hcond.1]; exact hno
  have hids : ∀ hp2, (∀ id ∈ ds.flatMap (D.rch hp), lk hp2 id = lk hp id) → ∀ id ∈ ds.flatMap D.ids, lk hp2 id = lk hp id := by
    intro hp2 hh id hi
    obtain ⟨d, hd, hi⟩ := List.mem_flatMap.1 hi
    refine hh id (List.mem_flatMap.2 ⟨d, hd, ?_⟩)
    revert hi
    cases d <;> simp [D.ids, D.rch, D.rch1, D.ids0]
  split at hac
  · rename_i hflat
    split at hac
    case h_2 => cases hac
    rename_i n' hp'' htb
    split at hac
    case isFalse => cases hac
    rename_i hle
    simp only [Option.some.injEq, Prod.mk.injEq] at hac
    obtain ⟨rfl, rfl⟩ := hac
    obtain ⟨rfl, E, rfl, hE, hgb⟩ := takeBack_frame htb hout
    refine ⟨fun hp => E ++ ((adopt n r).2.1 ++ T0 hp), rfl, Loc.comp (Loc.app fun p hp => .inl (hE p hp)) (Loc.comp (Loc.app fun p hp => .inr ?_) (hT0.mono fun _ h => .inl h)), hpre, fun hp2 hh => ?_⟩
    · have := adopt_rng.2 p hp; omega
    · simp only [callP, hgo hp2 hh, kon]
      refine ⟨fz, r, outs, hfc, ?_⟩
      simp only [afterCall]
      rw [if_pos hcond, if_pos hflat, hgb hp2 _ (hids hp2 hh)]
      simp only
      rw [if_pos hle]
  · rename_i hflat
    split at hac
    case isFalse => cases hac
    rename_i hno
    split at hac
    case h_2 => cases hac
    rename_i n' hp'' htb
    split at hac
    case isFalse => cases hac
    rename_i hle
    simp only [Option.some.injEq, Prod.mk.injEq] at hac
    obtain ⟨rfl, rfl⟩ := hac
    obtain ⟨rfl, E, rfl, hE, hgb⟩ := takeBack_frame htb hout
    refine ⟨fun hp => E ++ ((adopt n r).2.1 ++ freezeIds ((rdOf md ds).flatMap D.ids) (T0 hp)), rfl, Loc.comp (Loc.app fun p hp => .inl (hE p hp)) (Loc.comp (Loc.app fun p hp => .inr ?_) (Loc.comp (Loc.freeze fun id hid => .inl ?_) (hT0.mono fun _ h => .inl h))), hpre, fun hp2 hh => ?_⟩
    · have := adopt_rng.2 p hp; omega
    · obtain ⟨d, hd, hi⟩ := List.mem_flatMap.1 hid
      exact List.mem_flatMap.2 ⟨d, rdOf_sub d hd, hi⟩
    · simp only [callP, hgo hp2 hh, kon]
      refine ⟨fz, r, outs, hfc, ?_⟩
      simp only [afterCall]
      rw [if_pos hcond, if_neg hflat, if_pos hno, hgb hp2 _ (hids hp2 hh)]
      simp only
      rw [if_pos hle]
end

/-- Where an instruction acts. -/
def Fp (n : Nat) (ck : Bool) (mu : List Nat) (id : Nat) : Prop := id ∈ mu ∨ (ck = true ∧ n ≤ id ∧ id < n + 64)

theorem evs_flat {sl : List (Nat × D)} {g : D → List Nat} : ∀ {l : List X} {ds : List D}, allO (ev sl) l = some ds → (l.flatMap fun x => g (evL sl x)) = ds.flatMap g
  | [], ds, h => by simp only [allO, Option.some.injEq] at h; subst h; rfl
  | x :: l, ds, h => by
    simp only [allO] at h
    split at h
    case h_2 => cases h
    rename_i d es hd hes
    simp only [Option.some.injEq] at h
    subst h
    simp only [List.flatMap_cons, evL_of hd, evs_flat hes]
theorem kon_eq {α : Type} {o : Option α} {f : α → Prop} (h : kon o f) : ∃ a, o = some a ∧ f a := by
  cases o
  · exact h.elim
  · exact ⟨_, rfl, h⟩
theorem callP_ex {P : Program} {n : Nat} {hp : List (Nat × Ent)} {f : Nat} {ds : List D} {md : List Md} {K : D × List (Nat × Ent) → Prop} (hk : callP P n hp f ds md K) : ∃ p, K p ∧ callP P n hp f ds md (· = p) := by
  obtain ⟨q, hq, fz, r, outs, hfc, ha⟩ := kon_eq hk
  obtain ⟨p, hp, hK⟩ := kon_eq ha
  refine ⟨p, hK, ?_⟩
  simp only [callP, hq, kon]
  exact ⟨fz, r, outs, hfc, by simp only [hp]⟩

section
variable {P : Program} {n : Nat} {s s1 : St} {op : LOp} {dst : Option Nat} {g : Option (Nat × Bool)}

theorem actP_frame {K : St → Prop} (hdet : op.det = true) (hk : actP P n ⟨dst, op, g⟩ s K) : ∃ d T, K ⟨putd dst d s.sl, T s.hp, s.nx⟩ ∧ Loc (Fp n op.ck (muI s.sl op)) T ∧ (∀ id ∈ rdI s.sl s.hp op, lk s.hp id ≠ none) ∧
    ∀ sl2 hp2 nx2, (∀ x ∈ op.xs, ev sl2 x = ev s.sl x) → (∀ id ∈ rdI s.sl s.hp op, lk hp2 id = lk s.hp id) → actP P n ⟨dst, op, g⟩ ⟨sl2, hp2, nx2⟩ (· = ⟨putd dst d sl2, T hp2, nx2⟩) := by
  obtain ⟨sl, hp, nx⟩ := s
  have eff_case : (∀ f l m, op ≠ .call f l m) → (∀ x l, op ≠ .callv x l) → (∀ g x, op ≠ .isnil g x) → ∃ d T, K ⟨putd dst d sl, T hp, nx⟩ ∧ Loc (Fp n op.ck (muI sl op)) T ∧ (∀ id ∈ rdI sl hp op, lk hp id ≠ none) ∧
    ∀ sl2 hp2 nx2, (∀ x ∈ op.xs, ev sl2 x = ev sl x) → (∀ id ∈ rdI sl hp op, lk hp2 id = lk hp id) → actP P n ⟨dst, op, g⟩ ⟨sl2, hp2, nx2⟩ (· = ⟨putd dst d sl2, T hp2, nx2⟩) := by
    intro h1 h2 h3
    have e : ∀ (sl : List (Nat × D)) hp nx (K : St → Prop), actP P n ⟨dst, op, g⟩ ⟨sl, hp, nx⟩ K = kon (eff n sl hp op) fun p => K ⟨putd dst p.1 sl, p.2, nx⟩ := by
      intro sl hp nx K
      unfold actP
      cases op <;> first | rfl | exact absurd rfl (h1 _ _ _) | exact absurd rfl (h2 _ _) | exact absurd rfl (h3 _ _)
    rw [e] at hk
    obtain ⟨⟨d, hp'⟩, he, hK⟩ := kon_eq hk
    obtain ⟨T, rfl, hT, hp, hf⟩ := eff_frame he
    refine ⟨d, T, hK, hT, hp, fun sl2 hp2 nx2 hx hh => ?_⟩
    rw [e, eff_sl hx, hf hp2 hh]
    rfl
  cases op with
  | call f l md =>
    simp only [actP] at hk
    obtain ⟨ds, hds, hc⟩ := kon_eq hk
    obtain ⟨⟨d, hp'⟩, hK, hc⟩ := callP_ex hc
    obtain ⟨T, rfl, hT, hpre, hf⟩ := callP_frame (by simpa [LOp.det] using hdet) hc
    have e1 : muI sl (.call f l md) = ds.flatMap D.ids := evs_flat hds
    have e2 : rdI sl hp (.call f l md) = ds.flatMap (D.rch hp) := evs_flat hds
    refine ⟨d, T, hK, ?_, ?_, fun sl2 hp2 nx2 hx hh => ?_⟩
    · unfold Fp; rw [e1]; simpa [LOp.ck] using hT
    · rw [e2]; exact hpre
    · simp only [actP]
      rw [allO_congr (l := l) (f := ev sl2) (g := ev sl) (fun x h => hx x h), hds]
      rw [e2] at hh
      exact callP_mono (fun p hp => by rw [hp]) (hf hp2 hh)
  | callv x l =>
    simp only [actP] at hk
    obtain ⟨c, hc0, hk⟩ := kon_eq hk
    obtain ⟨ds, hds, hc⟩ := kon_eq hk
    obtain ⟨⟨d, hp'⟩, hK, hc⟩ := callP_ex hc
    obtain ⟨T, rfl, hT, hpre, hf⟩ := callP_frame rfl hc
    have hcap : capsOf (evL sl x) = c.2 := by
      cases hx : ev sl x with
      | none => rw [hx] at hc0; cases hc0
      | some e =>
        rw [hx, Option.bind_some] at hc0
        rw [evL_of hx]
        cases e <;> simp only [asClo, Option.some.injEq, reduceCtorEq] at hc0
        subst hc0
        rfl
    have e1 : muI sl (.callv x l) = (ds ++ c.2).flatMap D.ids := by rw [List.flatMap_append, ← evs_flat hds, ← hcap]; rfl
    have e2 : rdI sl hp (.callv x l) = (ds ++ c.2).flatMap (D.rch hp) := by rw [List.flatMap_append, ← evs_flat hds, ← hcap]; rfl
    refine ⟨d, T, hK, ?_, ?_, fun sl2 hp2 nx2 hx hh => ?_⟩
    · unfold Fp; rw [e1]; simpa [LOp.ck] using hT
    · rw [e2]; exact hpre
    · simp only [actP]
      rw [hx x (by simp [LOp.xs]), hc0, allO_congr (f := ev sl2) (g := ev sl) (fun y h => hx y (by simp [LOp.xs, h])), hds]
      rw [e2] at hh
      exact callP_mono (fun p hp => by rw [hp]) (hf hp2 hh)
  | isnil g x => simp [LOp.det] at hdet
  | _ => exact eff_case (fun _ _ _ => by simp) (fun _ _ => by simp) (fun _ _ => by simp)

theorem ev_reads {li : LI} {sl sl2 : List (Nat × D)} (h : ∀ t ∈ li.reads, lk sl2 t = lk sl t) : ∀ x ∈ li.op.xs, ev sl2 x = ev sl x := by
  intro x hx
  cases x with
  | t t => exact h t (List.mem_append_left _ (List.mem_flatMap.2 ⟨_, hx, by simp [X.slots]⟩))
  | k d => rfl

theorem mu_rd {sl : List (Nat × D)} {hp : List (Nat × Ent)} {op : LOp} : ∀ id ∈ muI sl op, id ∈ rdI sl hp op := by
  have one : ∀ d : D, ∀ id ∈ d.ids, id ∈ d.rch hp := by
    intro d id
    cases d <;> simp [D.ids, D.rch, D.rch1, D.ids0]
  intro id h
  cases op <;> simp only [muI, List.not_mem_nil, List.mem_append, List.mem_flatMap] at h
  case store m a x => simpa only [rdI] using h
  case app s b x y => simp only [rdI, List.mem_append]; exact .inl h
  case clr s x => simpa only [rdI] using h
  case buildSl s b z m ps => simpa only [rdI, List.mem_flatMap] using h
  case call f l md =>
    obtain ⟨x, hx, hi⟩ := h
    simp only [rdI, List.mem_flatMap]
    exact ⟨x, hx, one _ _ hi⟩
  case callv x l =>
    simp only [rdI, List.mem_append, List.mem_flatMap]
    rcases h with ⟨x, hx, hi⟩ | ⟨x, hx, hi⟩
    · exact .inl ⟨x, hx, one _ _ hi⟩
    · exact .inr ⟨x, hx, one _ _ hi⟩

/-- What an instruction did, what it read and what it changed. -/
structure Fra (P : Program) (n : Nat) (li : LI) (s : St) (d : D) (T : List (Nat × Ent) → List (Nat × Ent)) (rd mu : List Nat) : Prop where
  loc : Loc (Fp n li.op.ck mu) T
  pre : ∀ id ∈ rd, lk s.hp id ≠ none ∧ id ∈ rdI s.sl s.hp li.op
  mu : ∀ id ∈ mu, id ∈ rd ∧ id ∈ muI s.sl li.op
  go (sl2 : List (Nat × D)) (hp2 : List (Nat × Ent)) (nx2 : Nat) : (∀ t ∈ li.reads, lk sl2 t = lk s.sl t) → (∀ id ∈ rd, lk hp2 id = lk s.hp id) → stepP P n li ⟨sl2, hp2, nx2⟩ (· = ⟨putd li.dst d sl2, T hp2, nx2⟩)

theorem stepP_frame {li : LI} {K : St → Prop} (hdet : li.op.det = true) (hk : stepP P n li s K) : ∃ d T rd mu, K ⟨putd li.dst d s.sl, T s.hp, s.nx⟩ ∧ Fra P n li s d T rd mu := by
  obtain ⟨dst, op, g⟩ := li
  have act : actP P n ⟨dst, op, g⟩ s K → (∀ (sl2 : List (Nat × D)) (hp2 : List (Nat × Ent)) (nx2 : Nat) (K' : St → Prop), (∀ t ∈ LI.reads ⟨dst, op, g⟩, lk sl2 t = lk s.sl t) → actP P n ⟨dst, op, g⟩ ⟨sl2, hp2, nx2⟩ K' → stepP P n ⟨dst, op, g⟩ ⟨sl2, hp2, nx2⟩ K') →
      ∃ d T rd mu, K ⟨putd dst d s.sl, T s.hp, s.nx⟩ ∧ Fra P n ⟨dst, op, g⟩ s d T rd mu := fun hk hg => by
    obtain ⟨d, T, h1, h2, h3, h4⟩ := actP_frame hdet hk
    exact ⟨d, T, _, _, h1, h2, fun id hid => ⟨h3 id hid, hid⟩, fun id hid => ⟨mu_rd id hid, hid⟩, fun sl2 hp2 nx2 hs hh => hg _ _ _ _ hs (h4 sl2 hp2 nx2 (ev_reads hs) hh)⟩
  have skip : K ⟨putd dst .undef s.sl, s.hp, s.nx⟩ → (∀ (sl2 : List (Nat × D)) (hp2 : List (Nat × Ent)) (nx2 : Nat) (K' : St → Prop), (∀ t ∈ LI.reads ⟨dst, op, g⟩, lk sl2 t = lk s.sl t) → K' ⟨putd dst .undef sl2, hp2, nx2⟩ → stepP P n ⟨dst, op, g⟩ ⟨sl2, hp2, nx2⟩ K') →
      ∃ d T rd mu, K ⟨putd dst d s.sl, T s.hp, s.nx⟩ ∧ Fra P n ⟨dst, op, g⟩ s d T rd mu := fun hk hg =>
    ⟨.undef, fun l => l, [], [], hk, Loc.id, by simp, by simp, fun sl2 hp2 nx2 hs _ => hg _ _ _ _ hs rfl⟩
  cases g with
  | none => exact act hk fun sl2 hp2 nx2 K' _ h => h
  | some tw =>
    obtain ⟨t, w⟩ := tw
    have ht : t ∈ LI.reads ⟨dst, op, some (t, w)⟩ := by simp [LI.reads]
    have bc : ∀ {o : Option D} {p q r : Prop}, brang o p q r → (∃ c : Bool, o = some (.bool c) ∧ (c = true → p) ∧ (c = false → q)) ∨ (o = some .undef ∧ r) := by
      intro o p q r hb
      unfold brang at hb
      split at hb
      · exact .inl ⟨_, rfl, hb.1, hb.2⟩
      · exact .inr ⟨rfl, hb⟩
      · exact hb.elim
    cases w with
    | true =>
      simp only [stepP] at hk
      rcases bc hk with ⟨c, hc, h1, h2⟩ | ⟨hc, h0⟩
      · cases c
        · refine skip (h2 rfl) fun sl2 hp2 nx2 K' hs h => ?_
          simp only [stepP, hs t ht, hc, brang]
          simp [h]
        · refine act (h1 rfl) fun sl2 hp2 nx2 K' hs h => ?_
          simp only [stepP, hs t ht, hc, brang]
          simp [h]
      · refine skip h0 fun sl2 hp2 nx2 K' hs h => ?_
        simp only [stepP, hs t ht, hc, brang]
        exact h
    | false =>
      simp only [stepP] at hk
      rcases bc hk with ⟨c, hc, h1, h2⟩ | ⟨hc, h0⟩
      · cases c
        · refine act (h2 rfl) fun sl2 hp2 nx2 K' hs h => ?_
          simp only [stepP, hs t ht, hc, brang]
          simp [h]
        · refine skip (h1 rfl) fun sl2 hp2 nx2 K' hs h => ?_
          simp only [stepP, hs t ht, hc, brang]
          simp [h]
      · refine skip h0 fun sl2 hp2 nx2 K' hs h => ?_
        simp only [stepP, hs t ht, hc, brang]
        exact h
end
end Go.Am
