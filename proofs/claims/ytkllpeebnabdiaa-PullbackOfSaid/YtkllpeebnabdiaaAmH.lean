/- The operations that read, make and write memory. -/
import Derived.Test.YtkllpeebnabdiaaAmG
namespace Go.Am
open Go

section
variable {P : Program} {B : Base} {κ : Nat → Option KI} {hp hp' : List (Nat × Ent)} {F : Nat → Prop} {w : World} {sl : List (Nat × D)} {tm : Array Value} {df : List Deferred} {n : Nat} {d : D}

/-- The numbers that are free behind an operation that began with `n` to `n + 63`. -/
def Fr (F : Nat → Prop) (n : Nat) : Nat → Prop := fun id => F id ∧ (id < n ∨ n + 64 ≤ id)
theorem Fr.sub (id : Nat) (h : Fr F n id) : F id := h.1
theorem Fr.ne {k : Nat} (hk : k < 64) (id : Nat) (h : Fr F n id) : F id ∧ id ≠ n + k := ⟨h.1, by have := h.2; omega⟩

theorem run_szOf {t : TypeId} {s : Nat} (h : szOf P t = some s) : (Go.sizeOf t).run P w = .ok s w := by
  unfold szOf at h
  cases hi : P.info? t with
  | none => simp [hi] at h
  | some i => simp [hi] at h; simp [Go.sizeOf, typeInfo, hi, h]
theorem run_isAg {t : TypeId} {ag : Bool} (h : isAg P t = some ag) : (Go.isAgg t).run P w = .ok ag w := by
  unfold isAg at h
  cases hd : P.underlying t with
  | none => simp [hd] at h
  | some d =>
    simp only [Go.isAgg, Sem.run_bind, run_underlying hd, Result.andThen_ok]
    cases d <;> simp [hd] at h <;> subst h <;> simp
theorem addr_add (b off j : Nat) : (⟨b, off, none⟩ : Addr).add j = ⟨b, off + j, none⟩ := by unfold Addr.add; split <;> simp_all

theorem run_loadVar_mem {t : TypeId} {ag : Bool} {m b off : Nat} (ha : isAg P t = some ag) (hz : szOf P t = some m) {us : List Value} (hm : Mem w b off us) (hl : us.length = m) (h1 : ag = false → m = 1) :
    (Go.loadVar t ⟨b, off, none⟩).run P w = .ok (if ag then .agg us.toArray else us.headD undef) w := by
  cases ag
  · have hm1 := h1 rfl
    subst hm1
    obtain ⟨u, rfl⟩ : ∃ u, us = [u] := by match us, hl with | [u], _ => exact ⟨u, rfl⟩
    have := hm 0 u rfl
    simp only [Nat.add_zero] at this
    simp [Go.loadVar, run_isAg ha, this]
  · have := run_loadCells_list (P := P) w ⟨b, off, none⟩ us (fun j v hj => by rw [addr_add]; exact hm j v hj)
    rw [hl] at this
    simp [Go.loadVar, run_isAg ha, run_szOf hz, this]

theorem ofCells_one {ag : Bool} {cs : List D} (h : ofCells ag cs = some d) (hf : ag = false) : cs = [d] := by
  subst hf
  match cs, h with
  | [c], h => simp [ofCells] at h; rw [h]

/-- What was loaded is what the machine says. -/
theorem load_MR {I : Nat → Prop} {ag : Bool} {cs : List D} {us : List Value} (hm : MRs w I κ cs us) (h1 : ∀ u ∈ us, u.oneCell' = true) (h : ofCells ag cs = some d) :
    (ag = false → us.length = 1) ∧ MR w I κ d (if ag then .agg us.toArray else us.headD undef) := by
  cases ag
  · have := ofCells_one h rfl
    subst this
    simp only [MRs] at hm
    obtain ⟨v, vs', rfl, hd, rfl⟩ := hm
    exact ⟨fun _ => rfl, by simpa using hd⟩
  · simp only [ofCells, if_true, Option.some.injEq] at h
    subst h
    exact ⟨by simp, by simp only [MR, if_true]; exact ⟨_, rfl, h1, hm⟩⟩

theorem cellsO_MR {I : Nat → Prop} {v : Value} {cs : List D} (h : MR w I κ d v) (hc : cellsO d = some cs) : MRs w I κ cs v.cells.toList ∧ ∀ u ∈ v.cells.toList, u.oneCell' = true := by
  have one : ∀ v : Value, v.oneCell' = true → v.cells = #[v] := fun v hv => by cases v <;> simp [Value.oneCell'] at hv <;> rfl
  have key : ∀ v : Value, v.oneCell' = true → MR w I κ d v → MRs w I κ [d] v.cells.toList ∧ ∀ u ∈ v.cells.toList, u.oneCell' = true := fun v hv hm => by
    rw [one v hv]; simp [MRs, hv, hm]
  cases d <;> simp only [cellsO, Option.some.injEq, reduceCtorEq] at hc <;> subst hc
  case agg cs =>
    simp only [MR] at h
    obtain ⟨vs, rfl, h1, h2⟩ := h
    exact ⟨h2, h1⟩
  case int => exact key v (by simp only [MR] at h; subst h; rfl) h
  case bool => exact key v (by simp only [MR] at h; subst h; rfl) h
  case nl => exact key v (by simp only [MR] at h; subst h; rfl) h
  case lst => exact key v (by simp only [MR, DR] at h; rcases h.2.2 with ⟨rfl, _⟩ | ⟨b, off, cap, us, rfl, _⟩ <;> rfl) h
  case ref => exact key v (by simp only [MR, DR] at h; obtain ⟨_, b, off, us, rfl, _⟩ := h; rfl) h
  case clo => exact key v (by have h' := h; simp only [MR] at h'; obtain ⟨vs, rfl, _⟩ := h'; rfl) h
  case sl => exact key v (by have h' := h; simp only [MR] at h'; rcases h' with ⟨_, _, rfl, _⟩ | ⟨_, _, _, _, _, _, rfl, _⟩ <;> rfl) h
  case pt => exact key v (by have h' := h; simp only [MR] at h'; obtain ⟨_, _, rfl⟩ := h'; rfl) h
  case pe => exact key v (by have h' := h; simp only [MR] at h'; obtain ⟨_, _, _, _, rfl⟩ := h'; rfl) h

theorem matchZs_sound {I : Nat → Prop} : ∀ {z : List D} {vs : List Value}, matchZs z vs = true → MRs w I κ z vs ∧ ∀ u ∈ vs, u.oneCell' = true
  | [], [], _ => by simp [MRs]
  | [], _ :: _, h => by simp [matchZs] at h
  | _ :: _, [], h => by simp [matchZs] at h
  | d :: ds, v :: vs, h => by
    simp only [matchZs, Bool.and_eq_true] at h
    obtain ⟨g1, g2⟩ := matchZs_sound h.2
    have hd : MR w I κ d v ∧ v.oneCell' = true := by
      have h0 := h.1
      unfold matchZ at h0
      split at h0
      · simp only [Bool.and_eq_true, beq_iff_eq] at h0; obtain ⟨rfl, rfl⟩ := h0; exact ⟨by simp [MR], rfl⟩
      · simp only [beq_iff_eq] at h0; subst h0; exact ⟨by simp [MR], rfl⟩
      · exact ⟨by simp [MR], rfl⟩
      · cases h0
    simp only [MRs]
    refine ⟨⟨v, vs, rfl, hd.1, g1⟩, ?_⟩
    intro u hu
    rcases List.mem_cons.1 hu with rfl | hu
    · exact hd.2
    · exact g2 u hu

theorem zOf_sound {t : TypeId} {z : List D} (h : zOf P t = some z) : ∃ v, (zeroValue t).run P w = .ok v w ∧ (P.info? t).bind (·.zero) = some v ∧ matchZs z v.cells.toList = true := by
  unfold zOf at h
  split at h
  · rename_i z' v hz hv
    split at h
    · rename_i hm
      simp only [Option.some.injEq] at h
      subst h
      refine ⟨v, ?_, hv, hm⟩
      cases hi : P.info? t with
      | none => simp [hi] at hv
      | some i => simp [hi] at hv; simp [zeroValue, typeInfo, hi, hv]
    · cases h
  · cases h

/-- A new block of cells. -/
theorem newBox (h : RH B κ hp F w) (hF : ∀ k, k < 64 → F (n + k)) {cs : List D} {cur : Array Value} {ty : TypeId} (hm : MRs w (Im B κ hp w) κ cs cur.toList) (h1 : ∀ u ∈ cur.toList, u.oneCell' = true) {r : Result Next}
    (hr : r = .ok (.value (.pointer (some ⟨w.heap.size, 0, none⟩))) { w with heap := w.heap.push (.cells cur ty) }) :
    Res P B κ hp (up hp n (.box cs)) (Fr F n) w r (.pt n 0) := by
  have h0 := hF 0 (by omega)
  obtain ⟨g1, g2⟩ := h.new (w' := { w with heap := w.heap.push (.cells cur ty) }) (F' := Fr F n) (m := n) (ki := .box w.heap.size) (ent := .box cs) rfl rfl rfl rfl rfl h0 (Fr.ne (k := 0) (by omega)) (fun keep hg => by
    simp only [ER]
    exact ⟨_, cur, ty, updK_same, hg, h1, hm.mono keep (h.kle h0 _)⟩)
  exact ⟨_, _, _, .inl hr, g1, g2, by simp only [MR]; exact ⟨_, updK_same, rfl⟩⟩

theorem res_alloc (h : RH B κ hp F w) (hF : ∀ k, k < 64 → F (n + k)) {o : Oper} {e : TypeId} (ho : o.op = .alloc e) {z : List D} (hz : zOf P e = some z) {ρ : Operand → Value} :
    Res P B κ hp (up hp n (.box z)) (Fr F n) w ((execOp ρ o).run P w) (.pt n 0) := by
  obtain ⟨v, hv, _, hm⟩ := zOf_sound (w := w) hz
  obtain ⟨g1, g2⟩ := matchZs_sound (w := w) (I := Im B κ hp w) (κ := κ) hm
  refine newBox h hF (cur := v.cells) (ty := e) g1 g2 ?_
  simp [execOp, ho, Instr.alloc, hv, newVar, newRow]

theorem res_bx (h : RH B κ hp F w) (hs : RS B κ hp w sl tm) (hF : ∀ k, k < 64 → F (n + k)) {o : Oper} {e : TypeId} {xo : Operand} (ho : o.op = .box e xo) {x : X} (hx : cX xo = some x) {cs : List D} (he : (ev sl x).bind cellsO = some cs) :
    Res P B κ hp (up hp n (.box cs)) (Fr F n) w ((execOp (Act.eval ⟨tm, df⟩) o).run P w) (.pt n 0) := by
  cases hd : ev sl x with
  | none => simp [hd] at he
  | some d =>
    simp only [hd, Option.bind_some] at he
    obtain ⟨g1, g2⟩ := cellsO_MR (ev_sound (df := df) hs hx hd) he
    refine newBox h hF (cur := (Act.eval ⟨tm, df⟩ xo).cells) (ty := e) g1 g2 ?_
    simp [execOp, ho, Instr.box, newVar, newRow]

theorem subCells_inv {ag : Bool} {off m : Nat} {cs : List D} (h : subCells ag off m cs = some d) : off + m ≤ cs.length ∧ ofCells ag ((cs.drop off).take m) = some d := by
  unfold subCells at h
  split at h
  · exact ⟨by assumption, h⟩
  · cases h

/-- The block of an entry. -/
theorem RH.box (h : RH B κ hp F w) {id : Nat} {cs : List D} (he : lk hp id = some (.box cs)) : ∃ b cur ty, κ id = some (.box b) ∧ OB κ hp id b ∧ w.heap[b]? = some (.cells cur ty (0, 0)) ∧ (∀ u ∈ cur.toList, u.oneCell' = true) ∧ MRs w (Im B κ hp w) κ cs cur.toList := by
  have := h.ent id _ he
  simp only [ER] at this
  obtain ⟨b, cur, ty, h1, h2, h3, h4⟩ := this
  exact ⟨b, cur, ty, h1, ⟨_, _, he, rfl, h1, rfl⟩, h2, h3, h4⟩

theorem Mem.sub {b off m : Nat} {us : List Value} {o : Nat} (h : Mem w b o us) : Mem w b (o + off) ((us.drop off).take m) := by
  intro j u hj
  rw [List.getElem?_take] at hj
  split at hj
  · rw [List.getElem?_drop] at hj
    have := h _ _ hj
    rwa [← Nat.add_assoc] at this
  · cases hj

theorem res_load (h : RH B κ hp F w) (hs : RS B κ hp w sl tm) {o : Oper} {t : TypeId} {xo : Operand} (ho : o.op = .load t xo) {x : X} (hx : cX xo = some x) {ag : Bool} (ha : isAg P t = some ag) {m : Nat} (hz : szOf P t = some m)
    (he : eff n sl hp (.load ag m x) = some (d, hp')) : Res P B κ hp hp' (Fr F n) w ((execOp (Act.eval ⟨tm, df⟩) o).run P w) d := by
  simp only [eff] at he
  -- enough: the address, and what lies there
  have key : ∀ (b off : Nat) (us : List Value) (cs : List D), Act.eval ⟨tm, df⟩ xo = .pointer (some ⟨b, off, none⟩) → Mem w b off us → us.length = m → MRs w (Im B κ hp w) κ cs us → (∀ u ∈ us, u.oneCell' = true) → ofCells ag cs = some d →
      Res P B κ hp hp (Fr F n) w ((execOp (Act.eval ⟨tm, df⟩) o).run P w) d := by
    intro b off us cs hv hmem hl hms h1 hof
    obtain ⟨g1, g2⟩ := load_MR hms h1 hof
    refine Res.pure h Fr.sub (v := if ag then .agg us.toArray else us.headD undef) ?_ g2
    have := run_loadVar_mem (P := P) ha hz hmem hl (fun e => by rw [← hl]; exact g1 e)
    simp [execOp, ho, Instr.loadAt, Instr.sureAddr, hv, this]
  cases hd : ev sl x with
  | none => simp [hd] at he
  | some dx =>
    have hv := ev_sound (df := df) hs hx hd
    cases dx <;> simp only [hd, reduceCtorEq] at he
    case ref cs =>
      simp only [MR, DR] at hv
      obtain ⟨_, b, off, us, hv, hb, hmem, hpc⟩ := hv
      cases hc : subCells ag 0 m cs with
      | none => simp [hc] at he
      | some d' =>
        simp only [hc, Option.map_some, Option.some.injEq, Prod.mk.injEq] at he
        obtain ⟨rfl, rfl⟩ := he
        obtain ⟨h1, h2⟩ := subCells_inv hc
        simp only [Nat.zero_add, List.drop_zero] at h1 h2
        have hpc' := hpc.take m
        refine key b off (us.take m) (cs.take m) hv (by have := Mem.sub (off := 0) (m := m) hmem; simpa using this) (by rw [hpc'.length]; simp; omega) (MRs.of_PC hpc') hpc'.one h2
    case pt id off =>
      cases hl : lk hp id with
      | none => simp [hl] at he
      | some e =>
        cases e <;> simp only [hl, reduceCtorEq] at he
        rename_i cs
        obtain ⟨b, cur, ty, hk, _, hg, h1, hms⟩ := h.box hl
        simp only [MR, hk, Option.some.injEq, KI.box.injEq] at hv
        obtain ⟨b', rfl, hv⟩ := hv
        cases hc : subCells ag off m cs with
        | none => simp [hc] at he
        | some d' =>
          simp only [hc, Option.map_some, Option.some.injEq, Prod.mk.injEq] at he
          obtain ⟨rfl, rfl⟩ := he
          obtain ⟨g1, g2⟩ := subCells_inv hc
          have hms' := ((hms.take off).2.take m).1
          refine key _ off ((cur.toList.drop off).take m) _ hv (Mem.of_cells hg (fun j u hj => ?_)) (by rw [hms'.length]; simp; omega) hms' (fun u hu => h1 u (List.mem_of_mem_drop (List.mem_of_mem_take hu))) g2
          rw [List.getElem?_take] at hj
          split at hj
          · rw [List.getElem?_drop] at hj; simpa using hj
          · cases hj
    case pe id i off =>
      have fin : ∀ (sz : Nat) (xs : List D) (b : Nat) (us : List Value) (hP : PE w (Im B κ hp w) sz xs us) (hM : Mem w b 0 us) (hv : Act.eval ⟨tm, df⟩ xo = .pointer (some ⟨b, i * sz + off, none⟩)) (e : D) (_ : xs[i]? = some e) (hc : subCells ag off m e.cells = some d) (hh : hp = hp'),
          Res P B κ hp hp' (Fr F n) w ((execOp (Act.eval ⟨tm, df⟩) o).run P w) d := by
        intro sz xs b us hP hM hv e hxe hc hh
        subst hh
        obtain ⟨a, u, z, rfl, ha, hu, h1, _, _⟩ := hP.get hxe
        have hpc := h1.cells
        obtain ⟨g1, g2⟩ := subCells_inv hc
        have hpc' := (hpc.drop off).take m
        have hM' : Mem w b (i * sz) u := by
          have := (Mem.append.1 (Mem.append.1 hM).2).1
          rw [ha] at this; simpa using this
        refine key b (i * sz + off) ((u.drop off).take m) _ hv (Mem.sub hM') (by rw [hpc'.length]; simp; omega) (MRs.of_PC hpc') hpc'.one g2
      simp only [MR] at hv
      obtain ⟨b, sz, tot, hk, hv⟩ := hv
      cases hl : lk hp id with
      | none => simp [hl] at he
      | some e =>
        have hent := h.ent id e hl
        cases e <;> simp only [hl, reduceCtorEq] at he
        · rename_i sz' xs
          cases hxe : xs[i]? with
          | none => simp [hxe] at he
          | some e =>
            cases hc : subCells ag off m e.cells with
            | none => simp [hxe, hc] at he
            | some d' =>
              simp only [hxe, hc, Option.map_some, Option.some.injEq, Prod.mk.injEq] at he
              obtain ⟨rfl, rfl⟩ := he
              simp only [ER, hk, Option.some.injEq, reduceCtorEq, false_and, false_or, KI.arr.injEq] at hent
              obtain ⟨_, b', tot', cur, ty, us, ⟨rfl, rfl, rfl⟩, _, _, hM, hP⟩ := hent
              exact fin _ xs _ us hP hM hv e hxe hc rfl
        · rename_i sz' xs
          cases hxe : xs[i]? with
          | none => simp [hxe] at he
          | some e =>
            cases hc : subCells ag off m e.cells with
            | none => simp [hxe, hc] at he
            | some d' =>
              simp only [hxe, hc, Option.map_some, Option.some.injEq, Prod.mk.injEq] at he
              obtain ⟨rfl, rfl⟩ := he
              simp only [ER, hk, Option.some.injEq, reduceCtorEq, false_and, false_or, KI.arr.injEq] at hent
              obtain ⟨_, b', tot', us, ⟨rfl, rfl, rfl⟩, _, hM, hP⟩ := hent
              exact fin _ xs _ us hP hM hv e hxe hc rfl

theorem fill_splice : ∀ (vs : List Value) (off : Nat) (cs : List Value), off + vs.length ≤ cs.length →
    ((vs.zipIdx 0).foldl (fun cs (x : Value × Nat) => cs.setIfInBounds (off + x.2) x.1) cs.toArray) = (cs.take off ++ (vs ++ cs.drop (off + vs.length))).toArray := by
  have key : ∀ (vs : List Value) (k off : Nat) (cs : List Value), off + k + vs.length ≤ cs.length →
      ((vs.zipIdx k).foldl (fun cs (x : Value × Nat) => cs.setIfInBounds (off + x.2) x.1) cs.toArray) = (cs.take (off + k) ++ (vs ++ cs.drop (off + k + vs.length))).toArray := by
    intro vs
    induction vs with
    | nil => intro k off cs h; simp
    | cons v vs ih =>
      intro k off cs h
      simp only [List.length_cons] at h
      simp only [List.zipIdx_cons, List.foldl_cons, List.setIfInBounds_toArray]
      rw [ih (k + 1) off (cs.set (off + k) v) (by simp; omega)]
      congr 1
      rw [show off + (k + 1) = off + k + 1 from by omega, List.take_add_one]
      simp only [List.take_set, List.getElem?_set, List.drop_set]
      have h1 : off + k < cs.length := by omega
      have h2 : (cs.take (off + k)).set (off + k) v = cs.take (off + k) := List.set_eq_of_length_le (by simp; omega)
      have h3 : ¬ (off + k ≥ off + k + 1 + vs.length) := by omega
      simp [h1, h2]
      rw [if_pos (by omega)]
      rw [show off + k + 1 + vs.length = off + k + (vs.length + 1) from by omega]
  intro vs off cs h
  have := key vs 0 off cs (by omega)
  simpa using this

/-- What `build` puts together. -/
theorem buildGo_sound (hs : RS B κ hp w sl tm) {t : TypeId} {places : Array (Nat × Nat)} (hpl : ∀ i off m ag, fieldOf P t i = some (off, m, ag) → places[i]? = some (off, m)) :
    ∀ {ps : List (Nat × Operand)} {l1 : List (Nat × X)} {l2 : List (Nat × Nat × X)} {z cs : List D} {vs : List Value},
    cPs ps = some l1 → cFs P t l1 = some l2 → buildGo sl l2 z = some cs → MRs w (Im B κ hp w) κ z vs → (∀ u ∈ vs, u.oneCell' = true) →
    ∃ us, Instr.fill (places[·]?) vs.toArray (ps.map fun p => (p.1, Act.eval ⟨tm, df⟩ p.2)) = some us.toArray ∧ MRs w (Im B κ hp w) κ cs us ∧ ∀ u ∈ us, u.oneCell' = true := by
  intro ps
  induction ps with
  | nil =>
    intro l1 l2 z cs vs h1 h2 h3 hm ho
    simp only [cPs, Option.some.injEq] at h1
    subst h1
    simp only [cFs, Option.some.injEq] at h2
    subst h2
    simp only [buildGo, Option.some.injEq] at h3
    subst h3
    exact ⟨vs, by simp [Instr.fill], hm, ho⟩
  | cons p ps ih =>
    obtain ⟨i, xo⟩ := p
    intro l1 l2 z cs vs h1 h2 h3 hm ho
    simp only [cPs] at h1
    split at h1
    · rename_i x l hx hl
      simp only [Option.some.injEq] at h1
      subst h1
      simp only [cFs] at h2
      split at h2
      · rename_i off m ag l' hf hl'
        simp only [Option.some.injEq] at h2
        subst h2
        simp only [buildGo] at h3
        split at h3
        · rename_i q hq
          split at h3
          · rename_i hc
            cases hd : ev sl x with
            | none => simp [hd] at hq
            | some d =>
              simp only [hd, Option.bind_some] at hq
              obtain ⟨g1, g2⟩ := cellsO_MR (ev_sound (df := df) hs hx hd) hq
              have hlen : (Act.eval ⟨tm, df⟩ xo).cells.size = m := by have := g1.length; simp at this; omega
              have hvl := hm.length
              have hms : MRs w (Im B κ hp w) κ (splice z off q) (vs.take off ++ (Act.eval ⟨tm, df⟩ xo).cells.toList ++ vs.drop (off + m)) := by
                unfold splice
                rw [hc.1]
                exact MRs.append.2 ⟨_, _, rfl, MRs.append.2 ⟨_, _, rfl, (hm.take off).1, g1⟩, (hm.take (off + m)).2⟩
              obtain ⟨us, e1, e2, e3⟩ := ih hl hl' h3 hms (fun u hu => by
                rcases List.mem_append.1 hu with hu | hu
                · rcases List.mem_append.1 hu with hu | hu
                  · exact ho u (List.mem_of_mem_take hu)
                  · exact g2 u hu
                · exact ho u (List.mem_of_mem_drop hu))
              refine ⟨us, ?_, e2, e3⟩
              simp only [List.map_cons, Instr.fill, hpl i off m ag hf]
              have hb : ¬ ((Act.eval ⟨tm, df⟩ xo).cells.size ≠ m ∨ off + (Act.eval ⟨tm, df⟩ xo).cells.size > vs.toArray.size) := by
                simp only [List.size_toArray]; omega
              rw [if_neg (by simpa using hb)]
              rw [← e1]
              congr 1
              have := fill_splice (Act.eval ⟨tm, df⟩ xo).cells.toList off vs (by simp; omega)
              rw [← Array.foldl_toList, Array.toList_zipIdx]
              rw [this]
              simp [hlen]
          · cases h3
        · cases h3
      · cases h2
    · cases h1
end
end Go.Am
