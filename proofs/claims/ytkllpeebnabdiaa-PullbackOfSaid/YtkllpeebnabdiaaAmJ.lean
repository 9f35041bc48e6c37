/- Reading for good; slices that are built, made, cut. -/
import Derived.Test.YtkllpeebnabdiaaAmI
namespace Go.Am
open Go

section
variable {P : Program} {B : Base} {κ : Nat → Option KI} {hp hp' : List (Nat × Ent)} {F : Nat → Prop} {w : World} {sl : List (Nat × D)} {tm : Array Value} {df : List Deferred} {n : Nat} {d : D}

/-- The entry's elements can be read while the blocks `I` are only read. -/
def Rd (w : World) (I : Nat → Prop) (κ : Nat → Option KI) (hp : List (Nat × Ent)) (id : Nat) : Prop :=
  ∀ sz xs, lk hp id = some (.arr sz xs) ∨ lk hp id = some (.imm sz xs) → xs.length ≤ maxL ∧ ((κ id = some (.nil sz) ∧ xs = []) ∨ ∃ b tot us, κ id = some (.arr b sz tot) ∧ I b ∧ Mem w b 0 us ∧ PE w I sz xs us)

theorem lst_part {I I0 : Nat → Prop} {id lo len sz : Nat} {xs : List D} {v : Value} (hx : xs.length ≤ maxL) (hr : (κ id = some (.nil sz) ∧ xs = []) ∨ ∃ b tot us, κ id = some (.arr b sz tot) ∧ I b ∧ Mem w b 0 us ∧ PE w I sz xs us)
    (hv : MR w I0 κ (.sl id lo len) v) (hl : lo + len ≤ xs.length) : DR w I (.lst sz ((xs.drop lo).take len)) v [] := by
  have hlen : ((xs.drop lo).take len).length = len := by simp; omega
  simp only [MR] at hv
  simp only [DR, hlen]
  refine ⟨trivial, by omega, ?_⟩
  rcases hr with ⟨h1, rfl⟩ | ⟨b, tot, us, h1, hb, hM, hP⟩
  · rw [h1] at hv
    rcases hv with ⟨_, _, hv, rfl, rfl⟩ | ⟨_, _, _, _, _, hv, _⟩
    · exact .inl ⟨hv, by simp⟩
    · cases hv
  · rw [h1] at hv
    rcases hv with ⟨_, hv, _⟩ | ⟨b', sz', tot', off, cap, hv, rfl, h2, h3, h4, h5⟩
    · cases hv
    · simp only [Option.some.injEq, KI.arr.injEq] at hv
      obtain ⟨rfl, rfl, rfl⟩ := hv
      right
      by_cases h0 : 0 < len ∨ lo = 0
      · have hoff := h5 h0
        obtain ⟨u1, u2, rfl, p1, p2⟩ := hP.take lo
        obtain ⟨u3, u4, rfl, p3, p4⟩ := p2.take len
        have hm3 := (Mem.append.1 (Mem.append.1 hM).2).1
        have hl1 := p1.length
        rw [List.length_take, Nat.min_eq_left (by omega)] at hl1
        rw [hl1, Nat.zero_add, ← hoff] at hm3
        exact ⟨b, off, cap, u3, rfl, h2, h3, hb, hm3, p3⟩
      · have : len = 0 := by omega
        subst this
        exact ⟨b, off, cap, [], rfl, h2, h3, hb, Mem.nil, by simp [PE]⟩

theorem lend0_sound {I I0 : Nat → Prop} (hk : Keep w w I0 I) {e : D} {v : Value} (hr : ∀ id ∈ d.ids0, Rd w I κ hp id) (hv : MR w I0 κ d v) (h : lend0 hp d = some e) : DR w I e v [] := by
  cases d <;> simp only [lend0, reduceCtorEq, Option.some.injEq] at h
  case int => subst h; simpa [MR, DR] using hv
  case bool => subst h; simpa [MR, DR] using hv
  case nl =>
    simp only [MR] at hv
    split at h <;> cases h <;> simp [DR, hv, maxL]
  case lst => subst h; simp only [MR] at hv; exact hv.mono hk _ _ _ (by simp)
  case sl id lo len =>
    have key : ∀ sz xs, lk hp id = some (.arr sz xs) ∨ lk hp id = some (.imm sz xs) → (if lo = 0 ∧ len = xs.length then some (.lst sz xs) else if lo + len ≤ xs.length then some (D.lst sz ((xs.drop lo).take len)) else none) = some e → DR w I e v [] := by
      intro sz xs hl h
      obtain ⟨h1, h2⟩ := hr id (by simp [D.ids0]) sz xs hl
      split at h
      · rename_i hc
        simp only [Option.some.injEq] at h
        subst h
        have := lst_part h1 h2 hv (by omega)
        rw [hc.1, hc.2] at this
        simpa using this
      · split at h
        · simp only [Option.some.injEq] at h
          subst h
          exact lst_part h1 h2 hv (by assumption)
        · cases h
    split at h
    · rename_i hl; exact key _ _ (.inl hl) h
    · rename_i hl; exact key _ _ (.inr hl) h
    · cases h

theorem lend0s_sound {I I0 : Nat → Prop} (hk : Keep w w I0 I) : ∀ {cs es : List D} {vs : List Value}, (∀ c ∈ cs, ∀ id ∈ c.ids0, Rd w I κ hp id) → MRs w I0 κ cs vs → (∀ u ∈ vs, u.oneCell' = true) → allO (lend0 hp) cs = some es → PC w I es vs
  | [], es, vs, _, hm, _, h => by
    simp only [allO, Option.some.injEq] at h
    subst h
    simpa [MRs, PC] using hm
  | c :: cs, es, vs, hr, hm, ho, h => by
    simp only [allO] at h
    split at h
    · rename_i e es' he hes
      simp only [Option.some.injEq] at h
      subst h
      simp only [MRs] at hm
      obtain ⟨v, vs', rfl, hv, hm⟩ := hm
      simp only [PC]
      exact ⟨v, vs', rfl, ho v (by simp), lend0_sound hk (fun id hi => hr c (by simp) id hi) hv he, lend0s_sound hk (fun c hc => hr c (by simp [hc])) hm (fun u hu => ho u (by simp [hu])) hes⟩
    · cases h

theorem pur_sound {I I0 : Nat → Prop} (hk : Keep w w I0 I) {e : D} {v : Value} (hr : ∀ id ∈ d.ids, Rd w I κ hp id) (hv : MR w I0 κ d v) (h : pur hp d = some e) : PC w I e.cells v.cells.toList := by
  have one : ∀ e : D, DR w I e v [] → v.oneCell' = true → e.cells = [e] → PC w I e.cells v.cells.toList := fun e hd h1 hc => by
    rw [hc, show v.cells = #[v] from by cases v <;> simp [Value.oneCell'] at h1 <;> rfl]
    simp only [PC]
    exact ⟨v, [], rfl, h1, hd, rfl⟩
  have hlst : ∀ sz xs, DR w I (.lst sz xs) v [] → v.oneCell' = true := fun sz xs hd => by
    simp only [DR] at hd
    rcases hd.2.2 with ⟨rfl, _⟩ | ⟨b, off, cap, us, rfl, _⟩ <;> rfl
  cases d <;> simp only [pur] at h
  case agg cs =>
    cases hc : allO (lend0 hp) cs with
    | none => simp [hc] at h
    | some l =>
      simp only [hc, Option.map_some, Option.some.injEq] at h
      subst h
      simp only [MR] at hv
      obtain ⟨vs, rfl, h1, h2⟩ := hv
      exact lend0s_sound hk (fun c hc id hi => hr id (by simp only [D.ids, List.mem_flatMap]; exact ⟨c, hc, hi⟩)) h2 h1 hc
  case int k m =>
    have hd := lend0_sound hk (fun id hi => hr id (by simpa [D.ids] using hi)) hv h
    simp only [lend0, Option.some.injEq] at h
    subst h
    exact one _ hd (by simp only [DR] at hd; rw [hd.1]; rfl) rfl
  case bool b =>
    have hd := lend0_sound hk (fun id hi => hr id (by simpa [D.ids] using hi)) hv h
    simp only [lend0, Option.some.injEq] at h
    subst h
    exact one _ hd (by simp only [DR] at hd; rw [hd.1]; rfl) rfl
  case nl b =>
    have hd := lend0_sound hk (fun id hi => hr id (by simpa [D.ids] using hi)) hv h
    simp only [MR] at hv
    simp only [lend0] at h
    split at h <;> cases h <;> exact one _ hd (by rw [hv]; rfl) rfl
  case lst b =>
    have hd := lend0_sound hk (fun id hi => hr id (by simpa [D.ids] using hi)) hv h
    simp only [lend0, Option.some.injEq] at h
    subst h
    exact one _ hd (hlst _ _ hd) rfl
  case sl id lo len =>
    have hd := lend0_sound hk (fun id hi => hr id (by simpa [D.ids] using hi)) hv h
    have he : ∃ sz xs, e = .lst sz xs := by
      simp only [lend0] at h
      split at h <;> (try cases h)
      all_goals
        split at h
        · simp only [Option.some.injEq] at h; exact ⟨_, _, h.symm⟩
        · split at h
          · simp only [Option.some.injEq] at h; exact ⟨_, _, h.symm⟩
          · cases h
    obtain ⟨sz, xs, rfl⟩ := he
    exact one _ hd (hlst _ _ hd) rfl
  all_goals simp [lend0] at h

theorem lk_freeze (l : List Nat) : ∀ (hp : List (Nat × Ent)) (id : Nat) (e : Ent), lk hp id = some e → lk (freezeIds l hp) id = some (if id ∈ l then e.frozen else e) := by
  induction l with
  | nil => intro hp id e h; simpa [freezeIds] using h
  | cons i l ih =>
    intro hp id e h
    have ff : e.frozen.frozen = e.frozen := by cases e <;> rfl
    simp only [freezeIds]
    cases hi : lk hp i with
    | none =>
      simp only []
      rw [ih hp id e h]
      have : id ≠ i := fun e => by rw [e, hi] at h; cases h
      simp [this]
    | some e' =>
      simp only []
      by_cases hii : id = i
      · subst hii
        rw [h] at hi
        cases hi
        rw [ih _ id e.frozen (by rw [lk_up]; simp)]
        simp [ff]
      · rw [ih _ id e (by rw [lk_up, if_neg hii]; exact h)]
        simp [hii]

/-- What has been frozen can be read. -/
theorem rd_freeze {l : List Nat} (h : RH B κ (freezeIds l hp) F w) {id : Nat} (hi : id ∈ l) : Rd w (Im B κ (freezeIds l hp) w) κ hp id := by
  intro sz xs hl
  have : lk (freezeIds l hp) id = some (.imm sz xs) := by
    rcases hl with hl | hl <;> rw [lk_freeze l hp id _ hl] <;> simp [hi, Ent.frozen]
  have := h.ent id _ this
  simpa only [ER] using this

theorem flatten_replicate {α : Type} (l : List α) : ∀ (m i : Nat), i < m * l.length → (List.replicate m l).flatten[i]? = l[i % l.length]?
  | 0, i, h => by simp at h
  | m + 1, i, h => by
    simp only [List.replicate_succ, List.flatten_cons]
    by_cases hi : i < l.length
    · rw [List.getElem?_append_left hi, Nat.mod_eq_of_lt hi]
    · rw [List.getElem?_append_right (by omega), flatten_replicate l m _ (by rw [Nat.succ_mul] at h; omega)]
      congr 1
      rw [← Nat.mod_eq_sub_mod (by omega)]

theorem madeCells_list (z : Array Value) (m : Nat) : (madeCells z (m * z.size)).toList = (List.replicate m z.toList).flatten := by
  apply List.ext_getElem?
  intro i
  by_cases hi : i < m * z.size
  · rw [flatten_replicate _ _ _ (by simpa using hi)]
    have h0 : 0 < z.size := by
      rcases Nat.eq_zero_or_pos z.size with h | h
      · rw [h] at hi; simp at hi
      · exact h
    have hm : i % z.size < z.size := Nat.mod_lt _ h0
    simp [madeCells, hi, hm]
  · have h1 : (madeCells z (m * z.size)).toList.length ≤ i := by simp [madeCells]; omega
    have h2 : (List.replicate m z.toList).flatten.length ≤ i := by simp; omega
    rw [List.getElem?_eq_none h1, List.getElem?_eq_none h2]

theorem zElem_sound {I : Nat → Prop} {t : TypeId} {z : D} {s : Nat} (h : zElem P t = some z) (ho : okElem s z = true) : ∃ v, (zeroValue t).run P w = .ok v w ∧ (P.info? t).bind (·.zero) = some v ∧ P1 w I z v.cells.toList ∧ v.cells.toList.length = s := by
  unfold zElem at h
  split at h
  · rename_i zz ag hz ha
    split at h
    · rename_i l hl
      obtain ⟨v, hv, hv2, hm⟩ := zOf_sound (w := w) hz
      obtain ⟨g1, g2⟩ := matchZs_sound (w := w) (I := I) (κ := fun _ => none) hm
      refine ⟨v, hv, hv2, ?_⟩
      have hpc : PC w I l v.cells.toList := lend0s_sound (κ := fun _ => none) (hp := []) (I0 := I) ⟨fun _ h => h, fun _ _ => rfl⟩ (fun c _ id _ sz xs hl => by simp [lk] at hl) g1 g2 hl
      have hcells : z.cells = l := by
        cases ag
        · have := ofCells_one h rfl
          subst this
          cases z <;> simp [okElem] at ho <;> try rfl
          exfalso
          simp only [PC, DR] at hpc
          obtain ⟨u, us', _, h1, ⟨vs, rfl, _⟩, _⟩ := hpc
          simp [Value.oneCell'] at h1
        · simp only [ofCells, if_true, Option.some.injEq] at h
          subst h; rfl
      rw [← hcells] at hpc
      exact P1.of_cells ho hpc
    · cases h
  · cases h

theorem buildSlGo_sound {I : Nat → Prop} (hk : Keep w w (Im B κ hp w) I) (hs : RS B κ hp w sl tm) {sz : Nat} : ∀ {ps : List (Nat × Operand)} {l : List (Nat × X)} {es es' : List D} {f : List Nat} {us : List Value},
    cPs ps = some l → buildSlGo sl hp sz l es = some (es', f) → (∀ id ∈ f, Rd w I κ hp id) → PE w I sz es us →
    ∃ us', Instr.fill (fun i => some (i * sz, sz)) us.toArray (ps.map fun p => (p.1, Act.eval ⟨tm, df⟩ p.2)) = some us'.toArray ∧ PE w I sz es' us' := by
  intro ps
  induction ps with
  | nil =>
    intro l es es' f us h1 h2 _ hP
    simp only [cPs, Option.some.injEq] at h1
    subst h1
    simp only [buildSlGo, Option.some.injEq, Prod.mk.injEq] at h2
    obtain ⟨rfl, rfl⟩ := h2
    exact ⟨us, by simp [Instr.fill], hP⟩
  | cons p ps ih =>
    obtain ⟨i, xo⟩ := p
    intro l es es' f us h1 h2 hr hP
    simp only [cPs] at h1
    split at h1
    · rename_i x l' hx hl
      simp only [Option.some.injEq] at h1
      subst h1
      simp only [buildSlGo] at h2
      split at h2
      · rename_i d hd
        split at h2
        · rename_i e he
          split at h2
          · rename_i hc
            cases hb : buildSlGo sl hp sz l' (es.set i e) with
            | none => simp [hb] at h2
            | some q =>
              obtain ⟨q1, q2⟩ := q
              simp only [hb, Option.map_some, Option.some.injEq, Prod.mk.injEq] at h2
              obtain ⟨rfl, rfl⟩ := h2
              have hpc := pur_sound hk (fun id hi => hr id (by simp [hi])) (ev_sound (df := df) hs hx hd) he
              obtain ⟨g1, g2⟩ := P1.of_cells hc.1 hpc
              have hei : es[i]? = some es[i] := List.getElem?_eq_getElem hc.2
              have hP' := hP.set hei g1 g2
              obtain ⟨us', e1, e2⟩ := ih hl hb (fun id hi => hr id (by simp [hi])) hP'
              refine ⟨us', ?_, e2⟩
              have hul := hP.length
              have hle : i * sz + sz ≤ us.length := by
                rw [hul, ← Nat.succ_mul]; exact Nat.mul_le_mul_right _ hc.2
              simp only [List.map_cons, Instr.fill]
              have hb : ¬ ((Act.eval ⟨tm, df⟩ xo).cells.size ≠ sz ∨ i * sz + (Act.eval ⟨tm, df⟩ xo).cells.size > us.toArray.size) := by
                simp only [List.size_toArray]; simp at g2; omega
              rw [if_neg (by simpa using hb)]
              rw [← e1]
              congr 1
              have := fill_splice (Act.eval ⟨tm, df⟩ xo).cells.toList (i * sz) us (by rw [g2]; exact hle)
              rw [← Array.foldl_toList, Array.toList_zipIdx]
              rw [this, g2]
          · cases h2
        · cases h2
      · cases h2
    · cases h1

theorem buildSlGo_len {sz : Nat} : ∀ {l : List (Nat × X)} {es es' : List D} {f : List Nat}, buildSlGo sl hp sz l es = some (es', f) → es'.length = es.length
  | [], es, es', f, h => by simp only [buildSlGo, Option.some.injEq, Prod.mk.injEq] at h; rw [h.1]
  | (i, x) :: l, es, es', f, h => by
    simp only [buildSlGo] at h
    split at h
    · split at h
      · rename_i e _
        split at h
        · cases hq : buildSlGo sl hp sz l (es.set i e) with
          | none => simp [hq] at h
          | some q =>
            simp only [hq, Option.map_some, Option.some.injEq, Prod.mk.injEq] at h
            rw [← h.1, buildSlGo_len hq]; simp
        · cases h
      · cases h
    · cases h

theorem fits_inv {m by_ : Nat} (h : fits m by_ = true) : m * by_ ≤ 140737488355328 ∧ m ≤ maxL := by
  simpa [fits] using h

/-- A new row. -/
theorem newArr {hp1 : List (Nat × Ent)} (h : RH B κ hp1 F w) (hF : ∀ k, k < 64 → F (n + k)) {sz m cap : Nat} {es : List D} {cur : Array Value} {ty : TypeId} {w' : World}
    (hw : w'.heap = w.heap.push (.cells cur ty)) (h1 : w'.os = w.os) (h2 : w'.tape = w.tape) (h3 : w'.output = w.output)
    {us : List Value} (hu : ∀ (j : Nat) (u : Value), us[j]? = some u → cur[j]? = some u) (hP : PE w (Im B κ hp1 w) sz es us) (hm : m = es.length) (hml : m ≤ maxL) (hmc : m ≤ cap) (hcl : cap ≤ maxLen) (hcs : cap * sz ≤ cur.size) {r : Result Next}
    (hr : r = .ok (.value (.slice (some ⟨w.heap.size, 0, none⟩) m cap)) w') (hx : Nxt B κ κ hp hp1 w w) :
    Res P B κ hp (up hp1 n (.arr sz es)) (Fr F n) w r (.sl n 0 m) := by
  have h0 := hF 0 (by omega)
  obtain ⟨g1, g2⟩ := h.new (w' := w') (F' := Fr F n) (m := n) (ki := .arr w.heap.size sz cur.size) (ent := .arr sz es) hw h1 h2 h3 rfl h0 (Fr.ne (k := 0) (by omega)) (fun keep hg => by
    simp only [ER]
    refine ⟨by omega, .inr ⟨_, _, cur, ty, us, updK_same, hg, Nat.le_refl _, Mem.of_cells hg (fun j u hj => by simpa using hu j u hj), PE.mono keep _ _ _ hP⟩⟩)
  exact ⟨_, _, _, .inl hr, g1, hx.trans g2, by simp only [MR]; exact .inr ⟨_, _, _, 0, cap, updK_same, rfl, hmc, hcl, by omega, fun _ => by omega⟩⟩

theorem res_buildSl (h : RH B κ hp F w) (hs : RS B κ hp w sl tm) (hF : ∀ k, k < 64 → F (n + k)) {o : Oper} {t e : TypeId} {m : Nat} {ps : Array (Nat × Operand)} (ho : o.op = .buildSlice t m ps) (hu : P.underlying t = some (.slice e)) {s by_ : Nat} (hz : szOf P e = some s) (hs0 : s ≠ 0) (hsm : m * s ≤ 65536)
    {z : D} (hze : zElem P e = some z) (hoe : okElem s z = true) {l : List (Nat × X)} (hl : cPs ps.toList = some l) (he : eff n sl hp (.buildSl s by_ z m l) = some (d, hp')) :
    Res P B κ hp hp' (Fr F n) w ((execOp (Act.eval ⟨tm, df⟩) o).run P w) d := by
  simp only [eff] at he
  split at he
  · rename_i hfit
    obtain ⟨f1, f2⟩ := fits_inv hfit
    cases hb : buildSlGo sl hp s l (List.replicate m z) with
    | none => simp [hb] at he
    | some q =>
      obtain ⟨es, f⟩ := q
      simp only [hb, Option.map_some, Option.some.injEq, Prod.mk.injEq] at he
      obtain ⟨rfl, rfl⟩ := he
      obtain ⟨k1, k2⟩ := h.freezes f
      obtain ⟨v, hv, hv2, g1, g2⟩ := zElem_sound (w := w) (I := Im B κ (freezeIds f hp) w) hze hoe
      have hP0 : PE w (Im B κ (freezeIds f hp) w) s (List.replicate m z) (List.replicate m v.cells.toList).flatten := PE.replicate g1 g2 m
      obtain ⟨us, e1, e2⟩ := buildSlGo_sound (df := df) k2.keep hs hl hb (fun id hi => rd_freeze k1 hi) hP0
      have hesl : es.length = m := by
        rw [buildSlGo_len hb]; simp
      have hus : us.length = m * s := by rw [e2.length, hesl]
      refine newArr k1 hF (cur := us.toArray) (ty := e) (w' := { w with heap := w.heap.push (.cells us.toArray e) }) (cap := m) (us := us) rfl rfl rfl rfl (fun j u hj => by simpa using hj) e2 hesl.symm f2 (Nat.le_refl _) (by simp only [maxL] at f2; simp only [maxLen]; omega) (by simp [hus]) ?_ k2
      have hsz : v.cells.size = s := by simpa using g2
      have hcells : (madeCells v.cells (m * s)) = ((List.replicate m v.cells.toList).flatten).toArray := by
        apply Array.ext'
        have := madeCells_list v.cells m
        rw [hsz] at this
        simpa using this
      have hle : ¬ (m * s > 2 ^ 24) := by omega
      have hfill : Instr.fill (fun i => some (i * s, s)) (madeCells v.cells (m * s)) (ps.toList.map fun p => (p.1, Act.eval ⟨tm, df⟩ p.2)) = some us.toArray := by rw [hcells]; exact e1
      have hfill2 : Instr.fill (fun i => some (i * s, s)) ((Array.range (m * s)).map (fun x => v.cells[x % v.cells.size]!)) (ps.map fun p => (p.1, Act.eval ⟨tm, df⟩ p.2)).toList = some us.toArray := by
        simpa [madeCells] using hfill
      by_cases hm0 : m * s = 0
      · have hm00 : m = 0 := by rcases Nat.mul_eq_zero.1 hm0 with h | h; exact h; exact absurd h hs0
        subst hm00
        have hr0 : Array.range 0 = #[] := rfl
        have hfill3 : Instr.fill (fun i => some (i * s, s)) #[] (ps.map fun p => (p.1, Act.eval ⟨tm, df⟩ p.2)).toList = some us.toArray := by simpa [hr0] using hfill2
        have hfill3' : Instr.fill (fun i => some (i * s, s)) #[] (List.map (fun p => (p.1, Act.eval ⟨tm, df⟩ p.2)) ps.toList) = some us.toArray := by simpa using hfill3
        simp [execOp, ho, Instr.buildSlice, run_underlying hu, run_szOf hz, newRow, hfill3', hr0]
      · have hfill2' : Instr.fill (fun i => some (i * s, s)) ((Array.range (m * s)).map (fun x => v.cells[x % v.cells.size]!)) (List.map (fun p => (p.1, Act.eval ⟨tm, df⟩ p.2)) ps.toList) = some us.toArray := by simpa using hfill2
        have hle' : ¬ (16777216 < m * s) := by omega
        simp [execOp, ho, Instr.buildSlice, run_underlying hu, run_szOf hz, hm0, hle', hv, newRow, hfill2']
  · cases he
end
end Go.Am
