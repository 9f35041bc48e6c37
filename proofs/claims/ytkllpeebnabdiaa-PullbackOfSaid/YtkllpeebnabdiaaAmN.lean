/- Every operation of the machine that calls nothing is sound. -/
import Derived.Test.YtkllpeebnabdiaaAmM
import Derived.Lib.AppendZerosOnto
namespace Go.Am
open Go

section
variable {P : Program} {B : Base} {κ : Nat → Option KI} {hp hp' : List (Nat × Ent)} {F : Nat → Prop} {w : World} {sl : List (Nat × D)} {tm : Array Value} {df : List Deferred} {n : Nat} {d : D}

theorem res_cap (h : RH B κ hp F w) (hs : RS B κ hp w sl tm) {o : Oper} {c : Call} (ho : o.op = .call c) (hc : c.callee = .builtin .cap) {t : TypeId} (ht : c.argTypes.toList = [t]) {xo : Operand} (ha : c.args.toList = [xo]) {x : X} (hx : cX xo = some x) {e : TypeId} (hu : P.underlying t = some (.slice e))
    (he : eff n sl hp (.cap x) = some (d, hp')) : Res P B κ hp hp' (Fr F n) w ((execOp (Act.eval ⟨tm, df⟩) o).run P w) d := by
  simp only [eff] at he
  have ht' : c.argTypes = #[t] := by apply Array.ext'; simpa using ht
  have ha' : c.args = #[xo] := by apply Array.ext'; simpa using ha
  have run : ∀ a len cap, Act.eval ⟨tm, df⟩ xo = .slice a len cap → (execOp (Act.eval ⟨tm, df⟩) o).run P w = .ok (.value (.int .i64 cap)) w := by
    intro a len cap hv
    simp [execOp, ho, resolve, hc, ha', ht', invoke, builtin, Builtin.cap_, run_underlying hu, hv, goInt]
  cases hd : ev sl x with
  | none => simp [hd] at he
  | some dx =>
    have hv := ev_sound (df := df) hs hx hd
    cases dx <;> simp only [hd, Option.some.injEq, Prod.mk.injEq, reduceCtorEq] at he
    case nl =>
      obtain ⟨rfl, rfl⟩ := he
      simp only [MR] at hv
      exact Res.pure h Fr.sub (run _ _ _ hv) (by simp [MR])
theorem res_appz (h : RH B κ hp F w) (hs : RS B κ hp w sl tm) (hF : ∀ k, k < 64 → F (n + k)) {o : Oper} {c : Call} (ho : o.op = .call c) (hc : c.callee = .builtin .append) {t u : TypeId} (hat : c.argTypes.toList = [t, u]) {xo yo : Operand} (ha : c.args.toList = [xo, yo])
    {e : TypeId} {kn : IntKind} (ht : P.underlying t = some (.slice e)) (hu : P.underlying u = some (.int kn)) {s : Nat} (hz : szOf P e = some s) (hs0 : s ≠ 0) {i : TypeInfo} (hi : P.info? e = some i)
    {z : D} (hze : zElem P e = some z) (hoe : okElem s z = true) {x y : X} (hx : cX xo = some x) (hy : cX yo = some y) (he : eff n sl hp (.appz s i.bytes z x y) = some (d, hp')) :
    Res P B κ hp hp' (Fr F n) w ((execOp (Act.eval ⟨tm, df⟩) o).run P w) d := by
  have hsz : i.size = s := by simpa [szOf, hi] using hz
  have hat' : c.argTypes = #[t, u] := by apply Array.ext'; simpa using hat
  have ha' : c.args = #[xo, yo] := by apply Array.ext'; simpa using ha
  have hrun : (execOp (Act.eval ⟨tm, df⟩) o).run P w = ((Builtin.append_ #[t, u] o.type #[Act.eval ⟨tm, df⟩ xo, Act.eval ⟨tm, df⟩ yo]).run P w).andThen fun v w' => .ok (.value v) w' := by
    simp [execOp, ho, resolve, hc, ha', hat', invoke, builtin]
  rw [hrun]
  simp only [eff] at he
  split at he
  · rename_i sz' m hdx hdy
    split at he
    · rename_i hcnd
      obtain ⟨c1, c2⟩ := hcnd
      simp only [Option.some.injEq, Prod.mk.injEq] at he
      obtain ⟨rfl, rfl⟩ := he
      cases hdy' : ev sl y with
      | none => simp [hdy'] at hdy
      | some dy =>
        simp only [hdy', Option.bind_some] at hdy
        have hvx := ev_sound (df := df) hs hx hdx
        have hvy := ev_sound (df := df) hs hy hdy'
        rw [asI_inv hdy, MR.int] at hvy
        simp only [MR] at hvx
        obtain ⟨f1, f2⟩ := fits_inv c2
        obtain ⟨v, hzv, hzz, g1, g2⟩ := zElem_sound (w := w) (I := Im B κ hp w) hze hoe
        have hzero : i.zero = some v := by simpa [hi] using hzz
        have hP := PE.replicate g1 g2 m.toNat
        have hvs : v.cells.size = s := by simpa using g2
        have hmy : (Value.int .i64 m) = .int .i64 (m.toNat : Int) := by rw [Int.toNat_of_nonneg (by omega)]
        have hnx : Builtin.nextslicecap (0 + m.toNat) 0 * i.bytes ≤ 281474976710656 := growslice_fits (by omega) (by rw [Nat.zero_add]; exact f1)
        rw [hvx, hvy, hmy, Go.Lib.run_append_grow_zeros w t u o.type e i v .i64 kn ht hu hi hzero none 0 0 [] (run_firstCells_none w.drew i.size 0 0 0) m.toNat (by omega) (by omega) (by omega) (by simp only [maxL] at f2; omega) (by omega) hnx]
        simp only [Result.andThen_ok]
        have hge := grownCap_ge w (0 + m.toNat) 0 e
        have hle := grownCap_le_max (w := w) (need := 0 + m.toNat) (old := 0) (e := e) (by omega)
        have hzl : (Builtin.zeroCells v.cells m.toNat).toList = (List.replicate m.toNat v.cells.toList).flatten := madeCells_list v.cells m.toNat
        simp only [Nat.zero_add] at hge hle ⊢
        refine newArr h hF (cur := #[] ++ Builtin.zeroCells v.cells m.toNat ++ Builtin.zeroCells v.cells (grownCap w m.toNat 0 e - m.toNat)) (w' := w.drew.alloc (.cells (#[] ++ Builtin.zeroCells v.cells m.toNat ++ Builtin.zeroCells v.cells (grownCap w m.toNat 0 e - m.toNat)) e))
          (us := (List.replicate m.toNat v.cells.toList).flatten) (cap := grownCap w m.toNat 0 e) (ty := e) rfl rfl rfl rfl (fun j u hj => ?_) hP (by simp) f2 hge hle ?_ rfl (Nxt.refl _ _ _ _)
        · rw [← hzl] at hj
          have hlt := (List.getElem?_eq_some_iff.1 hj).1
          rw [← Array.getElem?_toList]
          simp only [Array.toList_append, List.nil_append]
          rw [List.getElem?_append_left (by simpa using hlt)]
          exact hj
        · simp only [Array.size_append, List.size_toArray, List.length_nil, size_zeroCells, hvs]
          have : m.toNat * s + (grownCap w m.toNat 0 e - m.toNat) * s = grownCap w m.toNat 0 e * s := by
            rw [← Nat.add_mul]
            congr 1
            omega
          omega
    · cases he
  · cases he

theorem res_nilc (h : RH B κ hp F w) (hs : RS B κ hp w sl tm) {o : Oper} {xo : Operand} (ho : o.op = .nilCheck xo) {x : X} (hx : cX xo = some x)
    (he : eff n sl hp (.fad 0 x) = some (d, hp')) : Res P B κ hp hp' (Fr F n) w ((execOp (Act.eval ⟨tm, df⟩) o).run P w) d := by
  simp only [eff] at he
  have run : ∀ a, Act.eval ⟨tm, df⟩ xo = .pointer (some a) → (execOp (Act.eval ⟨tm, df⟩) o).run P w = .ok (.value (.pointer (some a))) w := by
    intro a hv
    simp [execOp, ho, hv]
  cases hd : ev sl x with
  | none => simp [hd] at he
  | some dx =>
    have hv := ev_sound (df := df) hs hx hd
    cases dx <;> simp only [hd, reduceCtorEq] at he
    case ref cs =>
      split at he
      · simp only [Option.some.injEq, Prod.mk.injEq] at he
        obtain ⟨rfl, rfl⟩ := he
        have hv2 := hv
        simp only [MR, DR] at hv2
        obtain ⟨_, b, o', us, hv2, _⟩ := hv2
        refine Res.pure h Fr.sub (run _ hv2) ?_
        rw [hv2] at hv
        exact hv
      · cases he
    case pt id o' =>
      simp only [Option.some.injEq, Prod.mk.injEq] at he
      obtain ⟨rfl, rfl⟩ := he
      have hv2 := hv
      simp only [MR] at hv2
      obtain ⟨b, hk, hv2⟩ := hv2
      rw [hv2] at hv
      exact Res.pure h Fr.sub (run _ hv2) hv
    case pe id j o' =>
      simp only [Option.some.injEq, Prod.mk.injEq] at he
      obtain ⟨rfl, rfl⟩ := he
      have hv2 := hv
      simp only [MR] at hv2
      obtain ⟨b, sz, tot, hk, hv2⟩ := hv2
      rw [hv2] at hv
      exact Res.pure h Fr.sub (run _ hv2) hv

theorem res_clr (h : RH B κ hp F w) (hs : RS B κ hp w sl tm) {o : Oper} {c : Call} (ho : o.op = .call c) (hc : c.callee = .builtin .clear) {t : TypeId} (ht : c.argTypes.toList = [t]) {xo : Operand} (ha : c.args.toList = [xo]) {x : X} (hx : cX xo = some x) {e : TypeId} (hu : P.underlying t = some (.slice e))
    {s : Nat} (hz : szOf P e = some s) (hs0 : s ≠ 0) {z : D} (hze : zElem P e = some z) (hoe : okElem s z = true)
    (he : eff n sl hp (.clr s x) = some (d, hp')) : Res P B κ hp hp' (Fr F n) w ((execOp (Act.eval ⟨tm, df⟩) o).run P w) d := by
  have ht' : c.argTypes = #[t] := by apply Array.ext'; simpa using ht
  have ha' : c.args = #[xo] := by apply Array.ext'; simpa using ha
  have hrun : (execOp (Act.eval ⟨tm, df⟩) o).run P w = ((Builtin.clear_ #[t] o.type #[Act.eval ⟨tm, df⟩ xo]).run P w).andThen fun v w' => .ok (.value v) w' := by
    simp [execOp, ho, resolve, hc, ha', ht', invoke, builtin]
  rw [hrun]
  simp only [eff] at he
  have hnb : ∀ b : Bool, (Value.tuple #[]) ≠ .bool b := fun b e => by cases e
  split at he
  · rename_i sz' hdx
    simp only [Option.some.injEq, Prod.mk.injEq] at he
    obtain ⟨rfl, rfl⟩ := he
    have hvx := ev_sound (df := df) hs hx hdx
    simp only [MR] at hvx
    have hr : (Builtin.clear_ #[t] o.type #[Act.eval ⟨tm, df⟩ xo]).run P w = .ok (.tuple #[]) w := by
      rw [hvx]; simp [Builtin.clear_, run_underlying hu]
    rw [hr]
    exact Res.pure h Fr.sub rfl (by simp only [MR]; exact hnb)
  · rename_i id lo len hdx
    split at he
    case h_2 => cases he
    rename_i sz' xs hl
    split at he
    case isFalse => cases he
    rename_i hcnd
    obtain ⟨rfl, c1, c2⟩ := hcnd
    simp only [Option.some.injEq, Prod.mk.injEq] at he
    obtain ⟨rfl, rfl⟩ := he
    have hvx := ev_sound (df := df) hs hx hdx
    simp only [MR] at hvx
    have hent := h.ent id _ hl
    simp only [ER] at hent
    have noop : xs.length = lo → (Builtin.clear_ #[t] o.type #[Act.eval ⟨tm, df⟩ xo]).run P w = .ok (.tuple #[]) w → Res P B κ hp (up hp id (.arr sz' (xs.take lo))) (Fr F n) w (((Builtin.clear_ #[t] o.type #[Act.eval ⟨tm, df⟩ xo]).run P w).andThen fun v w' => .ok (.value v) w') .undef := fun hlen hr => by
      have hlk : ∀ i, lk (up hp id (.arr sz' (xs.take lo))) i = lk hp i := fun i => by
        rw [lk_up]
        split
        · rename_i hi; subst hi; rw [hl, List.take_of_length_le (by omega)]
        · rfl
      have hob : ∀ i b, OB κ (up hp id (.arr sz' (xs.take lo))) i b ↔ OB κ hp i b := fun i b => by simp only [OB, hlk]
      obtain ⟨k1, k2⟩ := h.next (κ' := κ) (hp' := up hp id (.arr sz' (xs.take lo))) (F' := Fr F n) (w' := w) (fun _ _ h => h) (Stp.refl _ _) (fun b ⟨i, ho⟩ => .inl ⟨i, (hob _ _).1 ho⟩) (fun i hi => h.fr i (Fr.sub i hi)) (fun b ⟨i, ho⟩ => (h.own b ⟨i, (hob _ _).1 ho⟩).2) (fun _ i e he => .inl ⟨by rw [hlk] at he; exact he, fun _ _ _ _ _ => rfl⟩) (fun i i' b h1 h2 => h.inj i i' b ((hob _ _).1 h1) ((hob _ _).1 h2))
      rw [hr]
      exact ⟨κ, .tuple #[], w, .inl rfl, k1, k2, by simp only [MR]; exact hnb⟩
    rcases hvx with ⟨sz2, m1, hv, _, rfl⟩ | ⟨b, sz2, tot, off, cap, m1, hv, m2, m3, m4, m5⟩
    · exact noop (by omega) (by rw [hv]; simp [Builtin.clear_, run_underlying hu])
    · by_cases h0 : len = 0
      · subst h0
        exact noop (by omega) (by rw [hv]; simp [Builtin.clear_, run_underlying hu])
      · have hoff := m5 (.inl (by omega))
        rcases hent.2 with ⟨g1, _⟩ | ⟨b2, tot2, cur, ty, us, g1, g2, g3, g4, g5⟩
        · rw [m1] at g1; cases g1
        · rw [m1] at g1
          simp only [Option.some.injEq, KI.arr.injEq] at g1
          obtain ⟨rfl, rfl, rfl⟩ := g1
          obtain ⟨v, hzv, _, p1, p2⟩ := zElem_sound (w := w) (I := Im B κ hp w) hze hoe
          have hzl : (Builtin.zeroCells v.cells len).toList = (List.replicate len v.cells.toList).flatten := madeCells_list v.cells len
          have hzn : (Builtin.zeroCells v.cells len).toList.length = len * sz2 := by
            rw [hzl]; simp at p2 ⊢; rw [p2]
          have hone : ∀ u ∈ (Builtin.zeroCells v.cells len).toList, u.oneCell' = true := by
            intro u hu
            rw [hzl, List.mem_flatten] at hu
            obtain ⟨l, hl, hu⟩ := hu
            rw [List.eq_of_mem_replicate hl] at hu
            exact p1.one u hu
          have hle : off + len * sz2 ≤ cur.size := by
            have : len * sz2 ≤ cap * sz2 := Nat.mul_le_mul_right _ m2
            omega
          have hst0 := run_storeCells_at P b off ty (Builtin.zeroCells v.cells len).toList 0 cur w g2 (by omega) hone
          simp only [Nat.add_zero, hzn] at hst0
          obtain ⟨m, rfl⟩ : ∃ m, len = m + 1 := ⟨len - 1, by omega⟩
          have hr : (Builtin.clear_ #[t] o.type #[Act.eval ⟨tm, df⟩ xo]).run P w = .ok (.tuple #[]) (w.setRow b (cur.toList.take off ++ (Builtin.zeroCells v.cells (m + 1)).toList ++ cur.toList.drop (off + (m + 1) * sz2)).toArray) := by
            rw [hv]
            simp [Builtin.clear_, run_underlying hu, hzv]
            simp at hst0
            rw [hst0]
            rfl
          rw [hr]
          have hob : OB κ hp id b := ⟨_, _, hl, rfl, m1, rfl⟩
          have hst := setRow_Stp w b (cur.toList.take off ++ (Builtin.zeroCells v.cells (m + 1)).toList ++ cur.toList.drop (off + (m + 1) * sz2)).toArray g2 (by simp only [List.size_toArray, List.length_append, List.length_take, List.length_drop, Array.length_toList, hzn] at hzn ⊢; omega)
          obtain ⟨k1, k2⟩ := h.change (F' := Fr F n) hob hst Fr.sub (ent := .arr sz2 (xs.take lo)) (fun keep => by
            obtain ⟨u, u', rfl, q1, q2⟩ := g5.take lo
            have hul : u.length = off := by rw [q1.length, List.length_take, hoff]; congr 1; omega
            simp only [ER]
            refine ⟨by have := hent.1; simp; omega, .inr ⟨b, tot, _, ty, u, m1, setRow_heap w b cur _ ty _ g2, ?_, ?_, PE.mono keep _ _ _ q1⟩⟩
            · simp only [List.size_toArray, List.length_append, List.length_take, List.length_drop, Array.length_toList, hzn] at hzn ⊢; omega
            · refine Mem.set (setRow_heap w b cur _ ty _ g2) (fun j uu hj => ?_)
              have hlt := (List.getElem?_eq_some_iff.1 hj).1
              have hc := Mem.cells g2 (Mem.append.1 g4).1 j uu hj
              simp only [Nat.zero_add] at hc
              rw [← Array.getElem?_toList]
              simp only [List.append_assoc]
              rw [List.getElem?_append_left (by rw [List.length_take, Array.length_toList]; omega), List.getElem?_take, if_pos (by omega)]
              simpa using hc)
          exact ⟨κ, .tuple #[], _, .inl rfl, k1, k2, by simp only [MR]; exact hnb⟩
  · cases he

set_option maxHeartbeats 1000000 in
theorem eff_sound (h : RH B κ hp F w) (hs : RS B κ hp w sl tm) (hF : ∀ k, k < 64 → F (n + k)) {md : Nat → List Md} {o : Oper} {lop : LOp} (hc : cOp P md o = some lop) (he : eff n sl hp lop = some (d, hp')) :
    Res P B κ hp hp' (Fr F n) w ((execOp (Act.eval ⟨tm, df⟩) o).run P w) d := by
  unfold cOp at hc
  split at hc
  case h_1 x hop =>
    cases hx : cX x with
    | none => simp [hx] at hc
    | some y => simp only [hx, Option.map_some, Option.some.injEq] at hc; subst hc; exact res_mov h hs (.inl hop) hx he
  case h_2 hop =>
    cases hz : (elemOfT P o.type).bind (szOf P) with
    | none => simp [hz] at hc
    | some y => simp only [hz, Option.map_some, Option.some.injEq] at hc; subst hc; exact res_nl h hop he
  case h_3 x hop _ =>
    cases hx : cX x with
    | none => simp [hx] at hc
    | some y => simp only [hx, Option.map_some, Option.some.injEq] at hc; subst hc; exact res_mov h hs (.inr ‹_›) hx he
  case h_4 c a b hop =>
    split at hc
    · rename_i h1 h2 h3; simp only [Option.some.injEq] at hc; subst hc; exact res_pick h hs hop h1 h2 h3 he
    · cases hc
  case h_5 e hop =>
    cases hz : zOf P e with
    | none => simp [hz] at hc
    | some z =>
      simp only [hz, Option.map_some, Option.some.injEq] at hc; subst hc
      simp only [eff, Option.some.injEq, Prod.mk.injEq] at he
      obtain ⟨rfl, rfl⟩ := he
      exact res_alloc h hF hop hz
  case h_6 e x hop =>
    cases hx : cX x with
    | none => simp [hx] at hc
    | some y =>
      simp only [hx, Option.map_some, Option.some.injEq] at hc; subst hc
      simp only [eff] at he
      cases hd : (ev sl y).bind cellsO with
      | none => simp [hd] at he
      | some cs =>
        simp only [hd, Option.map_some, Option.some.injEq, Prod.mk.injEq] at he
        obtain ⟨rfl, rfl⟩ := he
        exact res_bx h hs hF hop hx hd
  case h_7 t ps hop =>
    split at hc
    · rename_i fs hu
      split at hc
      · rename_i pls z l h1 h2 h3; simp only [Option.some.injEq] at hc; subst hc; exact res_build h hs hop hu h1 h2 h3 he
      · cases hc
    · cases hc
  case h_8 t m ps hop =>
    unfold elemOfT at hc
    split at hc
    · rename_i e hu
      split at hu
      · rename_i e' hu'
        simp only [Option.some.injEq] at hu
        subst hu
        split at hc
        · rename_i s i z l h1 h2 h3 h4
          split at hc
          · cases hc
          · rename_i hcond
            simp only [Option.some.injEq] at hc; subst hc
            simp only [not_or, Nat.not_lt] at hcond
            exact res_buildSl h hs hF hop hu' h1 hcond.1 hcond.2.1 h3 (by simpa using hcond.2.2) h4 he
        · cases hc
      · cases hu
    · cases hc
  case h_9 t a hop =>
    split at hc
    · rename_i h1 h2 h3
      split at hc
      · cases hc
      · simp only [Option.some.injEq] at hc; subst hc; exact res_load h hs hop h3 h1 h2 he
    · cases hc
  case h_10 t a v hop =>
    split at hc
    · rename_i h1 h2 h3
      split at hc
      · cases hc
      · rename_i h0; simp only [Option.some.injEq] at hc; subst hc; exact res_store h hs hop h2 h3 h1 h0 he
    · cases hc
  case h_11 op t x y u hop =>
    unfold cBin at hc
    split at hc
    · rename_i h1 h2 h3; simp only [Option.some.injEq] at hc; subst hc; exact res_bin h hs hop h2 h3 he
    · rename_i h1 h2 h3
      split at hc
      · simp only [Option.some.injEq] at hc; subst hc; exact res_eqB (neg := false) h hs hop h2 h3 h1 he
      · simp only [Option.some.injEq] at hc; subst hc; exact res_eqB (neg := true) h hs hop h2 h3 h1 he
      · cases hc
    · rename_i h1 h2 h3
      split at hc
      · rename_i hm; simp only [Option.some.injEq] at hc; subst hc; exact res_eqA (neg := false) h hs hop h2 h3 hm he
      · rename_i hm; simp only [Option.some.injEq] at hc; subst hc; exact res_eqA (neg := true) h hs hop h2 h3 hm he
      · cases hc
    · split at hc
      · simp only [Option.some.injEq] at hc; subst hc; simp [eff] at he
      · simp only [Option.some.injEq] at hc; subst hc; simp [eff] at he
      · cases hc
    · cases hc
  case h_12 t x hop =>
    cases hx : cX x with
    | none => simp [hx] at hc
    | some y => simp only [hx, Option.map_some, Option.some.injEq] at hc; subst hc; exact res_not h hs hop hx he
  case h_13 s t x hop =>
    split at hc
    · rename_i h1 h2 h3; simp only [Option.some.injEq] at hc; subst hc; exact res_conv h hs hop h3 h1 h2 he
    · cases hc
  case h_14 f first caps hop =>
    split at hc
    · rename_i hf
      cases hx : allO cX caps.toList with
      | none => simp [hx] at hc
      | some l => simp only [hx, Option.map_some, Option.some.injEq] at hc; subst hc; exact res_mkf h hs hop hf hx he
    · cases hc
  case h_15 t l c hop =>
    split at hc
    · rename_i hsame
      unfold elemOfT at hc
      split at hc
      · rename_i e hu
        split at hu
        · rename_i e' hu'
          simp only [Option.some.injEq] at hu
          subst hu
          split at hc
          · rename_i s i z l h1 h2 h3 h4
            split at hc
            · cases hc
            · rename_i hcond
              simp only [Option.some.injEq] at hc; subst hc
              simp only [not_or] at hcond
              exact res_makeSl h hs hF hop hsame hu' h1 h2 h3 (by simpa using hcond.2) h4 he
          · cases hc
        · cases hu
      · cases hc
    · cases hc
  case h_16 t x lo hi hop =>
    split at hc
    · rename_i s x' lo' hi' h1 h2 h3 h4
      simp only [Option.some.injEq] at hc; subst hc
      cases hu : elemOfT P t with
      | none => simp [hu] at h1
      | some e =>
        simp only [hu, Option.bind_some] at h1
        unfold elemOfT at hu
        split at hu
        · rename_i e' hu'
          simp only [Option.some.injEq] at hu; subst hu
          exact res_slc h hs hop hu' h1 h2 h3 h4 he
        · cases hu
    · cases hc
  case h_17 t x f hop =>
    split at hc
    · rename_i h1 h2; simp only [Option.some.injEq] at hc; subst hc; exact res_fad h hs hop h2 h1 he
    · cases hc
  case h_18 t x f hop =>
    split at hc
    · rename_i h1 h2; simp only [Option.some.injEq] at hc; subst hc; exact res_fld h hs hop h2 h1 he
    · cases hc
  case h_19 t x i hop =>
    split at hc
    · rename_i e x' i' h1 h2 h3
      cases hz : szOf P e with
      | none => simp [hz] at hc
      | some s =>
        simp only [hz, Option.bind_some] at hc
        split at hc
        · cases hc
        · simp only [Option.some.injEq] at hc; subst hc; exact res_iad h hs hop h2 h3 h1 hz he
    · rename_i m e x' i' h1 h2 h3
      cases hz : szOf P e with
      | none => simp [hz] at hc
      | some s =>
        simp only [hz, Option.bind_some] at hc
        split at hc
        · cases hc
        · simp only [Option.some.injEq] at hc; subst hc; exact res_iaa h hs hop h2 h3 h1 hz he
    · cases hc
  case h_20 t x i hop =>
    split at hc
    · rename_i m e x' i' h1 h2 h3
      split at hc
      · rename_i h4 h5
        split at hc
        · cases hc
        · simp only [Option.some.injEq] at hc; subst hc; exact res_idx h hs hop h2 h3 h1 h4 h5 he
      · cases hc
    · cases hc
  case h_21 x i hop =>
    cases hx : cX x with
    | none => simp [hx] at hc
    | some y => simp only [hx, Option.map_some, Option.some.injEq] at hc; subst hc; exact res_ext h hs hop hx he
  case h_22 c hop =>
    split at hc
    · rename_i hcl
      split at hc
      · rename_i t u x y hat hargs
        split at hc
        · rename_i e e' hu1 hu2
          unfold elemOfT at hu1
          split at hu1
          · rename_i e'' hu1'
            simp only [Option.some.injEq] at hu1; subst hu1
            split at hc
            · rename_i s i x' y' h1 h2 h3 h4
              split at hc
              · cases hc
              · rename_i hcond
                simp only [Option.some.injEq] at hc; subst hc
                simp only [not_or, ne_eq, Decidable.not_not] at hcond
                obtain ⟨_, _, c3, c4⟩ := hcond
                cases hzz : i.zero with
                | none => simp [hzz] at c3
                | some z =>
                  simp only [hzz, Option.map_some, Option.some.injEq] at c4
                  exact res_app h hs hF hop hcl hat hargs hu1' hu2 h1 h2 hzz c4 h3 h4 he
            · cases hc
          · cases hu1
        · rename_i e k hu1 hu2
          unfold elemOfT at hu1
          split at hu1
          · rename_i e'' hu1'
            simp only [Option.some.injEq] at hu1; subst hu1
            split at hc
            · rename_i s i z x' y' h1 h2 h3 h4 h5
              split at hc
              · cases hc
              · rename_i hcond
                simp only [Option.some.injEq] at hc; subst hc
                simp only [not_or, Decidable.not_not] at hcond
                exact res_appz h hs hF hop hcl hat hargs hu1' hu2 h1 hcond.1 h2 h3 hcond.2.2 h4 h5 he
            · cases hc
          · cases hu1
        · cases hc
      · cases hc
    · rename_i hcl
      split at hc
      · rename_i t x hat hargs
        split at hc
        · rename_i e hu
          cases hx : cX x with
          | none => simp [hx] at hc
          | some y => simp only [hx, Option.map_some, Option.some.injEq] at hc; subst hc; exact res_len h hs hop hcl hat hargs hx hu he
        · cases hc
      · cases hc
    · rename_i hcl
      split at hc
      · rename_i t x hat hargs
        split at hc
        · rename_i e hu
          cases hx : cX x with
          | none => simp [hx] at hc
          | some y => simp only [hx, Option.map_some, Option.some.injEq] at hc; subst hc; exact res_cap h hs hop hcl hat hargs hx hu he
        · cases hc
      · cases hc
    · rename_i hcl
      split at hc
      · rename_i t x hat hargs
        split at hc
        · rename_i e hu
          unfold elemOfT at hu
          split at hu
          · rename_i e'' hu'
            simp only [Option.some.injEq] at hu; subst hu
            split at hc
            · rename_i s z x' h1 h2 h3
              split at hc
              · cases hc
              · rename_i hcond
                simp only [Option.some.injEq] at hc; subst hc
                simp only [not_or, Decidable.not_not] at hcond
                exact res_clr h hs hop hcl hat hargs h3 hu' h1 hcond.1 h2 hcond.2 he
            · cases hc
          · cases hu
        · cases hc
      · cases hc
    · rename_i hcl
      cases hx : allO cX c.args.toList with
      | none => simp [hx] at hc
      | some y => simp only [hx, Option.map_some, Option.some.injEq] at hc; subst hc; exact res_mn h hs hop hcl hx he
    · rename_i hcl
      cases hx : allO cX c.args.toList with
      | none => simp [hx] at hc
      | some y => simp only [hx, Option.map_some, Option.some.injEq] at hc; subst hc; exact res_mx h hs hop hcl hx he
    · cases hx : allO cX c.args.toList with
      | none => simp [hx] at hc
      | some y => simp only [hx, Option.map_some, Option.some.injEq] at hc; subst hc; simp [eff] at he
    · split at hc
      · simp only [Option.some.injEq] at hc; subst hc; simp [eff] at he
      · cases hc
    · cases hc
  case h_23 x hop =>
    cases hx : cX x with
    | none => simp [hx] at hc
    | some y => simp only [hx, Option.map_some, Option.some.injEq] at hc; subst hc; exact res_nilc h hs hop hx he
  case h_24 => cases hc
end
end Go.Am
