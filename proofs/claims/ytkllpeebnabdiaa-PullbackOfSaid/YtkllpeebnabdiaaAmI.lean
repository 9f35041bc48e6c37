/- More operations. -/
import Derived.Test.YtkllpeebnabdiaaAmH
import Derived.Laws.Tables
import Derived.Laws.Slices
namespace Go.Am
open Go

section
variable {P : Program} {B : Base} {κ : Nat → Option KI} {hp hp' : List (Nat × Ent)} {F : Nat → Prop} {w : World} {sl : List (Nat × D)} {tm : Array Value} {df : List Deferred} {n : Nat} {d : D}

theorem mapM_get {α β : Type} {f : α → Option β} : ∀ {l : List α} {m : List β}, l.mapM f = some m → ∀ {i : Nat} {a : α}, l[i]? = some a → ∃ b, f a = some b ∧ m[i]? = some b
  | [], m, h, i, a, ha => by simp at ha
  | x :: l, m, h, i, a, ha => by
    simp only [List.mapM_cons, Option.bind_eq_bind, Option.pure_def] at h
    cases hx : f x with
    | none => simp [hx] at h
    | some b =>
      cases hl : l.mapM f with
      | none => simp [hx, hl] at h
      | some m' =>
        simp [hx, hl] at h
        subst h
        cases i with
        | zero => simp at ha; subst ha; exact ⟨b, hx, rfl⟩
        | succ i => simpa using mapM_get hl (by simpa using ha)

theorem fieldOf_inv {t : TypeId} {i off m : Nat} {ag : Bool} (h : fieldOf P t i = some (off, m, ag)) : ∃ fs f, P.underlying t = some (.struct fs) ∧ fs[i]? = some f ∧ f.offset = off ∧ szOf P f.type = some m ∧ isAg P f.type = some ag ∧ m ≠ 0 := by
  unfold fieldOf at h
  split at h
  · rename_i fs hfs
    split at h
    · rename_i f hf
      split at h
      · rename_i m' ag' h1 h2
        split at h
        · cases h
        · rename_i h0
          simp only [Option.some.injEq, Prod.mk.injEq] at h
          obtain ⟨rfl, rfl, rfl⟩ := h
          exact ⟨fs, f, hfs, hf, rfl, h1, h2, h0⟩
      · cases h
    · cases h
  · cases h

theorem res_build (h : RH B κ hp F w) (hs : RS B κ hp w sl tm) {o : Oper} {t : TypeId} {ps : Array (Nat × Operand)} (ho : o.op = .build t ps) {fs : Array Field} (hu : P.underlying t = some (.struct fs)) {pls : List (Nat × Nat)} (hpl : placesOf P fs = some pls)
    {z : List D} (hz : zOf P t = some z) {l : List (Nat × Nat × X)} (hl : (cPs ps.toList).bind (cFs P t) = some l) (he : eff n sl hp (.build z l) = some (d, hp')) :
    Res P B κ hp hp' (Fr F n) w ((execOp (Act.eval ⟨tm, df⟩) o).run P w) d := by
  simp only [eff] at he
  cases hb : buildGo sl l z with
  | none => simp [hb] at he
  | some cs =>
    simp only [hb, Option.map_some, Option.some.injEq, Prod.mk.injEq] at he
    obtain ⟨rfl, rfl⟩ := he
    cases hl1 : cPs ps.toList with
    | none => simp [hl1] at hl
    | some l1 =>
      simp only [hl1, Option.bind_some] at hl
      obtain ⟨v, _, hv, hm⟩ := zOf_sound (w := w) hz
      obtain ⟨g1, g2⟩ := matchZs_sound (w := w) (I := Im B κ hp w) (κ := κ) hm
      obtain ⟨us, e1, e2, e3⟩ := buildGo_sound (df := df) hs (places := pls.toArray) (fun i off m ag hf => by
        obtain ⟨fs', f, h1, h2, h3, h4, _, _⟩ := fieldOf_inv hf
        rw [hu] at h1; cases h1
        obtain ⟨b, hb1, hb2⟩ := mapM_get hpl (show fs.toList[i]? = some f by simpa using h2)
        unfold szOf at h4
        cases hi : P.info? f.type with
        | none => simp [hi] at h4
        | some ti =>
          simp [hi] at h4 hb1
          subst hb1
          simpa [h3, h4] using hb2) hl1 hl hb g1 g2
      refine Res.pure h Fr.sub (v := .agg us.toArray) ?_ (by simp only [MR]; exact ⟨_, rfl, by simpa using e3, by simpa using e2⟩)
      have hbt : P.built t (ps.map fun (i, x) => (i, Act.eval ⟨tm, df⟩ x)).toList = some us.toArray := by
        unfold Program.built
        cases hit : P.info? t with
        | none => simp [hit] at hv
        | some it =>
          cases hzz : it.zero with
          | none => simp [hit, hzz] at hv
          | some z' =>
            simp [hit, hzz] at hv
            subst hv
            unfold placesOf at hpl
            simp only [hu, hzz, hpl]
            simpa using e1
      simp [execOp, ho, run_build w t _ _ hbt]

theorem res_fad (h : RH B κ hp F w) (hs : RS B κ hp w sl tm) {o : Oper} {t : TypeId} {xo : Operand} {i : Nat} (ho : o.op = .fieldAddr t xo i) {x : X} (hx : cX xo = some x) {off m : Nat} {ag : Bool} (hf : fieldOf P t i = some (off, m, ag))
    (he : eff n sl hp (.fad off x) = some (d, hp')) : Res P B κ hp hp' (Fr F n) w ((execOp (Act.eval ⟨tm, df⟩) o).run P w) d := by
  simp only [eff] at he
  obtain ⟨fs, f, h1, h2, h3, h4, _, h5⟩ := fieldOf_inv hf
  have run : ∀ b o', Act.eval ⟨tm, df⟩ xo = .pointer (some ⟨b, o', none⟩) → (execOp (Act.eval ⟨tm, df⟩) o).run P w = .ok (.value (.pointer (some ⟨b, o' + off, none⟩))) w := by
    intro b o' hv
    simp [execOp, ho, Instr.fieldAt, run_underlying h1, h2, Instr.sureAddr, hv, fieldPlace, run_szOf h4, h5, h3, addr_add]
  cases hd : ev sl x with
  | none => simp [hd] at he
  | some dx =>
    have hv := ev_sound (df := df) hs hx hd
    cases dx <;> simp only [hd, reduceCtorEq] at he
    case ref cs =>
      split at he
      · rename_i hlen
        simp only [Option.some.injEq, Prod.mk.injEq] at he
        obtain ⟨rfl, rfl⟩ := he
        simp only [MR, DR] at hv
        obtain ⟨_, b, o', us, hv, hb, hmem, hpc⟩ := hv
        refine Res.pure h Fr.sub (run b o' hv) ?_
        simp only [MR, DR]
        refine ⟨trivial, b, o' + off, us.drop off, rfl, hb, ?_, hpc.drop off⟩
        have := Mem.sub (off := off) (m := us.length) hmem
        rwa [List.take_of_length_le (by simp)] at this
      · cases he
    case pt id o' =>
      simp only [Option.some.injEq, Prod.mk.injEq] at he
      obtain ⟨rfl, rfl⟩ := he
      simp only [MR] at hv
      obtain ⟨b, hk, hv⟩ := hv
      exact Res.pure h Fr.sub (run b o' hv) (by simp only [MR]; exact ⟨b, hk, rfl⟩)
    case pe id j o' =>
      simp only [Option.some.injEq, Prod.mk.injEq] at he
      obtain ⟨rfl, rfl⟩ := he
      simp only [MR] at hv
      obtain ⟨b, sz, tot, hk, hv⟩ := hv
      exact Res.pure h Fr.sub (run b _ hv) (by simp only [MR]; exact ⟨b, sz, tot, hk, by rw [Nat.add_assoc]⟩)

/-- A part of a struct or an array. -/
theorem part_sound {I : Nat → Prop} {t : TypeId} {ag : Bool} {m off : Nat} (ha : isAg P t = some ag) (hz : szOf P t = some m) {cs : List D} {v : Value} (hv : MR w I κ (.agg cs) v) (hc : subCells ag off m cs = some d) :
    ∃ vs u, v = .agg vs ∧ (Go.part t vs off).run P w = .ok u w ∧ MR w I κ d u := by
  simp only [MR] at hv
  obtain ⟨vs, rfl, h1, h2⟩ := hv
  obtain ⟨g1, g2⟩ := subCells_inv hc
  have hl := h2.length
  have hms := ((h2.take off).2.take m).1
  obtain ⟨k1, k2⟩ := load_MR hms (fun u hu => h1 u (List.mem_of_mem_drop (List.mem_of_mem_take hu))) g2
  refine ⟨vs, _, rfl, ?_, k2⟩
  cases ag
  · have hm1 := k1 rfl
    have hlen : 1 ≤ m := by
      rcases Nat.eq_zero_or_pos m with h0 | h0
      · subst h0; simp at hm1
      · exact h0
    have hlt : off < vs.size := by simp at hl; omega
    have : ((vs.toList.drop off).take m).headD undef = vs[off] := by
      rw [List.drop_eq_getElem_cons (by simpa using hlt)]
      obtain ⟨m', rfl⟩ : ∃ m', m = m' + 1 := ⟨m - 1, by omega⟩
      simp
    simp only [Bool.false_eq_true, if_false, this]
    simp [Go.part, run_isAg ha, hlt]
  · simp only [Go.part, Sem.run_bind, run_isAg ha, Result.andThen_ok, if_true, run_szOf hz, Sem.run_pure]
    congr 2
    apply Array.ext'
    simp [List.extract_eq_take_drop]

theorem res_fld (h : RH B κ hp F w) (hs : RS B κ hp w sl tm) {o : Oper} {t : TypeId} {xo : Operand} {i : Nat} (ho : o.op = .field t xo i) {x : X} (hx : cX xo = some x) {off m : Nat} {ag : Bool} (hf : fieldOf P t i = some (off, m, ag))
    (he : eff n sl hp (.fld ag off m x) = some (d, hp')) : Res P B κ hp hp' (Fr F n) w ((execOp (Act.eval ⟨tm, df⟩) o).run P w) d := by
  simp only [eff] at he
  obtain ⟨fs, f, h1, h2, h3, h4, h6, h5⟩ := fieldOf_inv hf
  cases hd : ev sl x with
  | none => simp [hd] at he
  | some dx =>
    have hv := ev_sound (df := df) hs hx hd
    cases dx <;> simp only [hd, reduceCtorEq] at he
    rename_i cs
    cases hc : subCells ag off m cs with
    | none => simp [hc] at he
    | some d' =>
      simp only [hc, Option.map_some, Option.some.injEq, Prod.mk.injEq] at he
      obtain ⟨rfl, rfl⟩ := he
      obtain ⟨vs, u, e1, e2, e3⟩ := part_sound h6 h4 hv hc
      refine Res.pure h Fr.sub (v := u) ?_ e3
      simp [execOp, ho, Instr.field, run_underlying h1, h2, e1, asAgg, h3, e2]

theorem asI_inv {x : D} {j : Int} (h : asI x = some j) : x = .int .i64 j := by
  unfold asI at h
  split at h
  · simp only [Option.some.injEq] at h; rw [h]
  · cases h

theorem res_idx (h : RH B κ hp F w) (hs : RS B κ hp w sl tm) {o : Oper} {t : TypeId} {xo io : Operand} (ho : o.op = .index t xo io) {x i : X} (hx : cX xo = some x) (hi : cX io = some i) {m : Nat} {e : TypeId} (hu : P.underlying t = some (.array m e)) {sz : Nat} {ag : Bool} (hz : szOf P e = some sz) (ha : isAg P e = some ag)
    (he : eff n sl hp (.idx ag m sz x i) = some (d, hp')) : Res P B κ hp hp' (Fr F n) w ((execOp (Act.eval ⟨tm, df⟩) o).run P w) d := by
  simp only [eff] at he
  cases hd : ev sl x with
  | none => simp [hd] at he
  | some dx =>
    cases hj : (ev sl i).bind asI with
    | none => cases dx <;> simp [hd, hj] at he
    | some j =>
      have hv := ev_sound (df := df) hs hx hd
      cases hdi : ev sl i with
      | none => simp [hdi] at hj
      | some di =>
        simp only [hdi, Option.bind_some] at hj
        have hvi := ev_sound (df := df) hs hi hdi
        rw [asI_inv hj, MR.int] at hvi
        rw [hdi] at he
        cases dx <;> simp only [hd, hj, Option.bind_some, reduceCtorEq] at he
        rename_i cs
        split at he
        · rename_i hb
          cases hc : subCells ag (j.toNat * sz) sz cs with
          | none => simp [hc] at he
          | some d' =>
            simp only [hc, Option.map_some, Option.some.injEq, Prod.mk.injEq] at he
            obtain ⟨rfl, rfl⟩ := he
            obtain ⟨vs, u, e1, e2, e3⟩ := part_sound ha hz hv hc
            refine Res.pure h Fr.sub (v := u) ?_ e3
            simp [execOp, ho, Instr.index, asIntOf, hvi, run_underlying hu, e1, hb, run_szOf hz, e2]
        · cases he

theorem RH.entSz (h : RH B κ hp F w) {id sz b sz' tot : Nat} (he : Am.entSz hp id = some sz) (hk : κ id = some (.arr b sz' tot)) : sz' = sz := by
  unfold Am.entSz at he
  split at he
  · rename_i hl
    have := h.ent id _ hl
    simp only [Option.some.injEq] at he
    subst he
    simp only [ER, hk, Option.some.injEq, reduceCtorEq, false_and, false_or, KI.arr.injEq] at this
    obtain ⟨_, _, _, _, _, _, ⟨_, h, _⟩, _⟩ := this
    exact h
  · rename_i hl
    have := h.ent id _ hl
    simp only [Option.some.injEq] at he
    subst he
    simp only [ER, hk, Option.some.injEq, reduceCtorEq, false_and, false_or, KI.arr.injEq] at this
    obtain ⟨_, _, _, _, ⟨_, h, _⟩, _⟩ := this
    exact h
  · cases he

theorem res_iad (h : RH B κ hp F w) (hs : RS B κ hp w sl tm) {o : Oper} {t : TypeId} {xo io : Operand} (ho : o.op = .indexAddr t xo io) {x i : X} (hx : cX xo = some x) (hi : cX io = some i) {e : TypeId} (hu : P.underlying t = some (.slice e)) {sz : Nat} (hz : szOf P e = some sz)
    (he : eff n sl hp (.iad sz x i) = some (d, hp')) : Res P B κ hp hp' (Fr F n) w ((execOp (Act.eval ⟨tm, df⟩) o).run P w) d := by
  simp only [eff] at he
  cases hd : ev sl x with
  | none => simp [hd] at he
  | some dx =>
    cases hj : (ev sl i).bind asI with
    | none => cases dx <;> simp [hd, hj] at he
    | some j =>
      have hv := ev_sound (df := df) hs hx hd
      cases hdi : ev sl i with
      | none => simp [hdi] at hj
      | some di =>
        simp only [hdi, Option.bind_some] at hj
        have hvi := ev_sound (df := df) hs hi hdi
        rw [asI_inv hj, MR.int] at hvi
        rw [hdi] at he
        have run : ∀ b off len cap, Act.eval ⟨tm, df⟩ xo = .slice (some ⟨b, off, none⟩) len cap → 0 ≤ j ∧ j < len → (execOp (Act.eval ⟨tm, df⟩) o).run P w = .ok (.value (.pointer (some ⟨b, off + j.toNat * sz, none⟩))) w := by
          intro b off len cap hv hj
          simp [execOp, ho, Instr.indexAt, asIntOf, hvi, run_underlying hu, hv, hj, run_szOf hz, addr_add]
        cases dx <;> simp only [hd, hj, Option.bind_some, reduceCtorEq] at he
        case lst sz' xs =>
          split at he
          · rename_i hb
            cases hxe : xs[j.toNat]? with
            | none => simp [hxe] at he
            | some el =>
              simp only [hxe, Option.some.injEq, Prod.mk.injEq] at he
              obtain ⟨rfl, rfl⟩ := he
              have hjl := (List.getElem?_eq_some_iff.1 hxe).1
              simp only [MR, DR] at hv
              rcases hv.2.2 with ⟨_, rfl⟩ | ⟨b, off, cap, us, hv, _, _, hb2, hM, hP⟩
              · simp at hxe
              · refine Res.pure h Fr.sub (run b off _ cap hv ⟨hb.1, by omega⟩) ?_
                obtain ⟨a, u, z, rfl, ha, hu', h1, _, _⟩ := hP.get hxe
                have hM' := (Mem.append.1 (Mem.append.1 hM).2).1
                rw [ha, hb.2] at hM'
                simp only [MR, DR]
                exact ⟨trivial, b, _, u, rfl, hb2, hM', h1.cells⟩
          · cases he
        case sl id lo len =>
          split at he
          · rename_i hb
            simp only [Option.some.injEq, Prod.mk.injEq] at he
            obtain ⟨rfl, rfl⟩ := he
            simp only [MR] at hv
            rcases hv with ⟨_, _, _, _, rfl⟩ | ⟨b, sz', tot, off, cap, hk, hv, h1, h2, h3, h4⟩
            · omega
            · have hsz : sz' = sz := h.entSz hb.2.2 hk
              refine Res.pure h Fr.sub (run b off _ cap hv ⟨hb.1, hb.2.1⟩) ?_
              simp only [MR]
              refine ⟨b, sz', tot, hk, ?_⟩
              rw [h4 (.inl (by omega)), hsz, Nat.add_zero, Nat.add_mul]
          · cases he

theorem res_iaa (h : RH B κ hp F w) (hs : RS B κ hp w sl tm) {o : Oper} {t : TypeId} {xo io : Operand} (ho : o.op = .indexAddr t xo io) {x i : X} (hx : cX xo = some x) (hi : cX io = some i) {m : Nat} {e : TypeId} (hu : P.underlying t = some (.array m e)) {sz : Nat} (hz : szOf P e = some sz)
    (he : eff n sl hp (.iaa m sz x i) = some (d, hp')) : Res P B κ hp hp' (Fr F n) w ((execOp (Act.eval ⟨tm, df⟩) o).run P w) d := by
  simp only [eff] at he
  cases hd : ev sl x with
  | none => simp [hd] at he
  | some dx =>
    cases hj : (ev sl i).bind asI with
    | none => cases dx <;> simp [hd, hj] at he
    | some j =>
      have hv := ev_sound (df := df) hs hx hd
      cases hdi : ev sl i with
      | none => simp [hdi] at hj
      | some di =>
        simp only [hdi, Option.bind_some] at hj
        have hvi := ev_sound (df := df) hs hi hdi
        rw [asI_inv hj, MR.int] at hvi
        rw [hdi] at he
        have run : ∀ b off, Act.eval ⟨tm, df⟩ xo = .pointer (some ⟨b, off, none⟩) → 0 ≤ j ∧ j < m → (execOp (Act.eval ⟨tm, df⟩) o).run P w = .ok (.value (.pointer (some ⟨b, off + j.toNat * sz, none⟩))) w := by
          intro b off hv hj
          simp [execOp, ho, Instr.indexAt, asIntOf, hvi, run_underlying hu, hv, Instr.sureAddr, hj, run_szOf hz, addr_add]
        cases dx <;> simp only [hd, hj, Option.bind_some, reduceCtorEq] at he
        case ref cs =>
          split at he
          · rename_i hb
            simp only [Option.some.injEq, Prod.mk.injEq] at he
            obtain ⟨rfl, rfl⟩ := he
            simp only [MR, DR] at hv
            obtain ⟨_, b, off, us, hv, hb2, hM, hpc⟩ := hv
            refine Res.pure h Fr.sub (run b off hv ⟨hb.1, hb.2.1⟩) ?_
            simp only [MR, DR]
            refine ⟨trivial, b, _, us.drop (j.toNat * sz), rfl, hb2, ?_, hpc.drop _⟩
            have := Mem.sub (off := j.toNat * sz) (m := us.length) hM
            rwa [List.take_of_length_le (by simp)] at this
          · cases he
        case pt id off =>
          split at he
          · rename_i hb
            simp only [Option.some.injEq, Prod.mk.injEq] at he
            obtain ⟨rfl, rfl⟩ := he
            simp only [MR] at hv
            obtain ⟨b, hk, hv⟩ := hv
            exact Res.pure h Fr.sub (run b off hv hb) (by simp only [MR]; exact ⟨b, hk, rfl⟩)
          · cases he

theorem res_len (h : RH B κ hp F w) (hs : RS B κ hp w sl tm) {o : Oper} {c : Call} (ho : o.op = .call c) (hc : c.callee = .builtin .len) {t : TypeId} (ht : c.argTypes.toList = [t]) {xo : Operand} (ha : c.args.toList = [xo]) {x : X} (hx : cX xo = some x) {e : TypeId} (hu : P.underlying t = some (.slice e))
    (he : eff n sl hp (.len x) = some (d, hp')) : Res P B κ hp hp' (Fr F n) w ((execOp (Act.eval ⟨tm, df⟩) o).run P w) d := by
  simp only [eff] at he
  have ht' : c.argTypes = #[t] := by apply Array.ext'; simpa using ht
  have ha' : c.args = #[xo] := by apply Array.ext'; simpa using ha
  have run : ∀ a len cap, Act.eval ⟨tm, df⟩ xo = .slice a len cap → (execOp (Act.eval ⟨tm, df⟩) o).run P w = .ok (.value (.int .i64 len)) w := by
    intro a len cap hv
    simp [execOp, ho, resolve, hc, ha', ht', invoke, builtin, Builtin.len_, run_underlying hu, hv, goInt]
  cases hd : ev sl x with
  | none => simp [hd] at he
  | some dx =>
    have hv := ev_sound (df := df) hs hx hd
    cases dx <;> simp only [hd, Option.some.injEq, Prod.mk.injEq, reduceCtorEq] at he
    all_goals obtain ⟨rfl, rfl⟩ := he
    case nl => simp only [MR] at hv; exact Res.pure h Fr.sub (run _ _ _ hv) (by simp [MR])
    case lst =>
      simp only [MR, DR] at hv
      rcases hv.2.2 with ⟨hv2, rfl⟩ | ⟨b, off, cap, us, hv2, _⟩
      · exact Res.pure h Fr.sub (run _ _ _ hv2) (by simp [MR])
      · exact Res.pure h Fr.sub (run _ _ _ hv2) (by simp [MR])
    case sl =>
      simp only [MR] at hv
      rcases hv with ⟨_, _, hv, _, rfl⟩ | ⟨b, sz', tot, off, cap, hk, hv, _⟩
      · exact Res.pure h Fr.sub (run _ _ _ hv) (by simp [MR])
      · exact Res.pure h Fr.sub (run _ _ _ hv) (by simp [MR])

theorem evs_sound (hs : RS B κ hp w sl tm) : ∀ {xo : List Operand} {xs : List X} {ds : List D}, allO cX xo = some xs → allO (ev sl) xs = some ds → MRs w (Im B κ hp w) κ ds (xo.map (Act.eval ⟨tm, df⟩))
  | [], xs, ds, h1, h2 => by
    simp only [allO, Option.some.injEq] at h1
    subst h1
    simp only [allO, Option.some.injEq] at h2
    subst h2
    simp [MRs]
  | a :: l, xs, ds, h1, h2 => by
    simp only [allO] at h1
    split at h1
    · rename_i b m hb hm
      simp only [Option.some.injEq] at h1
      subst h1
      simp only [allO] at h2
      split at h2
      · rename_i d ds' hd hds
        simp only [Option.some.injEq] at h2
        subst h2
        simp only [List.map_cons, MRs]
        exact ⟨_, _, rfl, ev_sound hs hb hd, evs_sound hs hm hds⟩
      · cases h2
    · cases h1

theorem foldMin_sound {I : Nat → Prop} : ∀ {l : List D} {vs : List Value} {a : D} {va : Value}, MR w I κ a va → MRs w I κ l vs → foldO minI a l = some d → ∃ v, (vs.foldlM Builtin.min2 va).run P w = .ok v w ∧ MR w I κ d v
  | [], vs, a, va, ha, hl, h => by
    simp only [MRs] at hl
    subst hl
    simp only [foldO, Option.some.injEq] at h
    subst h
    exact ⟨va, by simp, ha⟩
  | b :: l, vs, a, va, ha, hl, h => by
    simp only [MRs] at hl
    obtain ⟨vb, vs', rfl, hb, hl⟩ := hl
    simp only [foldO] at h
    split at h
    · rename_i c hc
      unfold minI at hc
      split at hc
      · rename_i k x k' y
        split at hc
        · rename_i hk
          subst hk
          simp only [Option.some.injEq] at hc
          subst hc
          simp only [MR.int] at ha hb
          subst ha; subst hb
          obtain ⟨v, h1, h2⟩ := foldMin_sound (a := .int k (if y < x then y else x)) (va := .int k (if y < x then y else x)) (by simp [MR]) hl h
          exact ⟨v, by simpa [List.foldlM_cons, Builtin.min2] using h1, h2⟩
        · cases hc
      · cases hc
    · cases h
theorem foldMax_sound {I : Nat → Prop} : ∀ {l : List D} {vs : List Value} {a : D} {va : Value}, MR w I κ a va → MRs w I κ l vs → foldO maxI a l = some d → ∃ v, (vs.foldlM Builtin.max2 va).run P w = .ok v w ∧ MR w I κ d v
  | [], vs, a, va, ha, hl, h => by
    simp only [MRs] at hl
    subst hl
    simp only [foldO, Option.some.injEq] at h
    subst h
    exact ⟨va, by simp, ha⟩
  | b :: l, vs, a, va, ha, hl, h => by
    simp only [MRs] at hl
    obtain ⟨vb, vs', rfl, hb, hl⟩ := hl
    simp only [foldO] at h
    split at h
    · rename_i c hc
      unfold maxI at hc
      split at hc
      · rename_i k x k' y
        split at hc
        · rename_i hk
          subst hk
          simp only [Option.some.injEq] at hc
          subst hc
          simp only [MR.int] at ha hb
          subst ha; subst hb
          obtain ⟨v, h1, h2⟩ := foldMax_sound (a := .int k (if x < y then y else x)) (va := .int k (if x < y then y else x)) (by simp [MR]) hl h
          exact ⟨v, by simpa [List.foldlM_cons, Builtin.max2] using h1, h2⟩
        · cases hc
      · cases hc
    · cases h

theorem res_mn (h : RH B κ hp F w) (hs : RS B κ hp w sl tm) {o : Oper} {c : Call} (ho : o.op = .call c) (hc : c.callee = .builtin .min) {xs : List X} (hx : allO cX c.args.toList = some xs)
    (he : eff n sl hp (.mn xs) = some (d, hp')) : Res P B κ hp hp' (Fr F n) w ((execOp (Act.eval ⟨tm, df⟩) o).run P w) d := by
  simp only [eff] at he
  cases hds : allO (ev sl) xs with
  | none => simp [hds] at he
  | some ds =>
    have hms := evs_sound (df := df) hs hx hds
    cases ds with
    | nil => simp [hds] at he
    | cons a l =>
      cases hf : foldO minI a l with
      | none => simp [hds, hf] at he
      | some d' =>
        simp only [hds, hf, Option.map_some, Option.some.injEq, Prod.mk.injEq] at he
        obtain ⟨rfl, rfl⟩ := he
        simp only [MRs] at hms
        obtain ⟨va, vs, hvs, ha, hl⟩ := hms
        obtain ⟨v, h1, h2⟩ := foldMin_sound (P := P) ha hl hf
        refine Res.pure h Fr.sub (v := v) ?_ h2
        simp [execOp, ho, resolve, hc, invoke, builtin, Builtin.min_, hvs, h1]
theorem res_mx (h : RH B κ hp F w) (hs : RS B κ hp w sl tm) {o : Oper} {c : Call} (ho : o.op = .call c) (hc : c.callee = .builtin .max) {xs : List X} (hx : allO cX c.args.toList = some xs)
    (he : eff n sl hp (.mx xs) = some (d, hp')) : Res P B κ hp hp' (Fr F n) w ((execOp (Act.eval ⟨tm, df⟩) o).run P w) d := by
  simp only [eff] at he
  cases hds : allO (ev sl) xs with
  | none => simp [hds] at he
  | some ds =>
    have hms := evs_sound (df := df) hs hx hds
    cases ds with
    | nil => simp [hds] at he
    | cons a l =>
      cases hf : foldO maxI a l with
      | none => simp [hds, hf] at he
      | some d' =>
        simp only [hds, hf, Option.map_some, Option.some.injEq, Prod.mk.injEq] at he
        obtain ⟨rfl, rfl⟩ := he
        simp only [MRs] at hms
        obtain ⟨va, vs, hvs, ha, hl⟩ := hms
        obtain ⟨v, h1, h2⟩ := foldMax_sound (P := P) ha hl hf
        refine Res.pure h Fr.sub (v := v) ?_ h2
        simp [execOp, ho, resolve, hc, invoke, builtin, Builtin.max_, hvs, h1]

theorem res_ext (h : RH B κ hp F w) (hs : RS B κ hp w sl tm) {o : Oper} {xo : Operand} {i : Nat} (ho : o.op = .extract xo i) {x : X} (hx : cX xo = some x)
    (he : eff n sl hp (.ext x i) = some (d, hp')) : Res P B κ hp hp' (Fr F n) w ((execOp (Act.eval ⟨tm, df⟩) o).run P w) d := by
  simp only [eff] at he
  cases hd : ev sl x with
  | none => simp [hd] at he
  | some dx =>
    have hv := ev_sound (df := df) hs hx hd
    cases dx <;> simp only [hd, reduceCtorEq] at he
    rename_i ds
    cases hi : ds[i]? with
    | none => simp [hi] at he
    | some d' =>
      simp only [hi, Option.some.injEq, Prod.mk.injEq] at he
      obtain ⟨rfl, rfl⟩ := he
      simp only [MR] at hv
      obtain ⟨vs, hv, hms⟩ := hv
      obtain ⟨v, h1, h2⟩ := hms.get hi
      have h1' : vs[i]? = some v := by simpa using h1
      refine Res.pure h Fr.sub (v := v) ?_ h2
      simp [execOp, ho, Instr.extract, hv, h1']

theorem res_mkf (h : RH B κ hp F w) (hs : RS B κ hp w sl tm) {o : Oper} {f : Nat} {first caps : Array Operand} (ho : o.op = .makeFunc (.func f) first caps) (hf : first.isEmpty = true) {xs : List X} (hx : allO cX caps.toList = some xs)
    (he : eff n sl hp (.mkf f xs) = some (d, hp')) : Res P B κ hp hp' (Fr F n) w ((execOp (Act.eval ⟨tm, df⟩) o).run P w) d := by
  simp only [eff] at he
  cases hds : allO (ev sl) xs with
  | none => simp [hds] at he
  | some ds =>
    simp only [hds, Option.map_some, Option.some.injEq, Prod.mk.injEq] at he
    obtain ⟨rfl, rfl⟩ := he
    have hms := evs_sound (df := df) hs hx hds
    have hf' : first = #[] := by simpa using hf
    refine Res.pure h Fr.sub (v := .func (.func f) #[] (caps.map (Act.eval ⟨tm, df⟩))) ?_ (by simp only [MR]; exact ⟨_, rfl, by simpa using hms⟩)
    simp [execOp, ho, Instr.makeFunc, hf']
end
end Go.Am
