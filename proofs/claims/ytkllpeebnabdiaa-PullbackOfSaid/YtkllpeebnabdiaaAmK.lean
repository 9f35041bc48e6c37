/- Slices that are made, cut, stored into and appended to. -/
import Derived.Test.YtkllpeebnabdiaaAmJ
namespace Go.Am
open Go

section
variable {P : Program} {B : Base} {κ : Nat → Option KI} {hp hp' : List (Nat × Ent)} {F : Nat → Prop} {w : World} {sl : List (Nat × D)} {tm : Array Value} {df : List Deferred} {n : Nat} {d : D}

theorem run_v {s : Sem Value} {v : Value} {w' : World} (h : s.run P w = .ok v w') : (do return Next.value (← s) : Sem Next).run P w = .ok (.value v) w' := by
  rw [Sem.run_bind, h]; rfl

theorem res_mov (h : RH B κ hp F w) (hs : RS B κ hp w sl tm) {o : Oper} {xo : Operand} (ho : o.op = .move xo ∨ o.op = .assign xo) {x : X} (hx : cX xo = some x)
    (he : eff n sl hp (.mov x) = some (d, hp')) : Res P B κ hp hp' (Fr F n) w ((execOp (Act.eval ⟨tm, df⟩) o).run P w) d := by
  simp only [eff] at he
  cases hd : ev sl x with
  | none => simp [hd] at he
  | some dx =>
    simp only [hd, Option.map_some, Option.some.injEq, Prod.mk.injEq] at he
    obtain ⟨rfl, rfl⟩ := he
    refine Res.pure h Fr.sub (v := Act.eval ⟨tm, df⟩ xo) ?_ (ev_sound hs hx hd)
    rcases ho with ho | ho <;> simp [execOp, ho]

theorem res_nl (h : RH B κ hp F w) {o : Oper} (ho : o.op = .assign (.const (.slice none 0 0))) {s : Nat}
    (he : eff n sl hp (.mov (.k (.nl s))) = some (d, hp')) : Res P B κ hp hp' (Fr F n) w ((execOp (Act.eval ⟨tm, df⟩) o).run P w) d := by
  simp only [eff, ev, Option.map_some, Option.some.injEq, Prod.mk.injEq] at he
  obtain ⟨rfl, rfl⟩ := he
  exact Res.pure h Fr.sub (v := .slice none 0 0) (by simp [execOp, ho, Act.eval]) (by simp [MR])

theorem res_pick (h : RH B κ hp F w) (hs : RS B κ hp w sl tm) {o : Oper} {co ao bo : Operand} (ho : o.op = .pick co ao bo) {c a b : X} (hc : cX co = some c) (ha : cX ao = some a) (hb : cX bo = some b)
    (he : eff n sl hp (.pick c a b) = some (d, hp')) : Res P B κ hp hp' (Fr F n) w ((execOp (Act.eval ⟨tm, df⟩) o).run P w) d := by
  simp only [eff] at he
  split at he
  · rename_i hcv
    have hv := ev_sound (df := df) hs hc hcv
    rw [MR.bool] at hv
    cases hd : ev sl a with
    | none => simp [hd] at he
    | some dx =>
      simp only [hd, Option.map_some, Option.some.injEq, Prod.mk.injEq] at he
      obtain ⟨rfl, rfl⟩ := he
      refine Res.pure h Fr.sub (v := Act.eval ⟨tm, df⟩ ao) ?_ (ev_sound hs ha hd)
      simp [execOp, ho, hv, asBool]
  · rename_i hcv
    have hv := ev_sound (df := df) hs hc hcv
    rw [MR.bool] at hv
    cases hd : ev sl b with
    | none => simp [hd] at he
    | some dx =>
      simp only [hd, Option.map_some, Option.some.injEq, Prod.mk.injEq] at he
      obtain ⟨rfl, rfl⟩ := he
      refine Res.pure h Fr.sub (v := Act.eval ⟨tm, df⟩ bo) ?_ (ev_sound hs hb hd)
      simp [execOp, ho, hv, asBool]
  · cases he

theorem res_not (h : RH B κ hp F w) (hs : RS B κ hp w sl tm) {o : Oper} {t : TypeId} {xo : Operand} (ho : o.op = .unOp .not t xo) {x : X} (hx : cX xo = some x)
    (he : eff n sl hp (.not x) = some (d, hp')) : Res P B κ hp hp' (Fr F n) w ((execOp (Act.eval ⟨tm, df⟩) o).run P w) d := by
  simp only [eff] at he
  split at he
  · rename_i b hd
    have hv := ev_sound (df := df) hs hx hd
    rw [MR.bool] at hv
    simp only [Option.some.injEq, Prod.mk.injEq] at he
    obtain ⟨rfl, rfl⟩ := he
    refine Res.pure h Fr.sub (v := .bool (!b)) ?_ (by simp [MR])
    simp [execOp, ho, hv, Op.unary]
  · cases he

theorem res_conv (h : RH B κ hp F w) (hs : RS B κ hp w sl tm) {o : Oper} {s t : TypeId} {xo : Operand} (ho : o.op = .convert s t xo) {x : X} (hx : cX xo = some x) {k0 k : IntKind} (hu0 : P.underlying s = some (.int k0)) (hu : P.underlying t = some (.int k))
    (he : eff n sl hp (.conv k x) = some (d, hp')) : Res P B κ hp hp' (Fr F n) w ((execOp (Act.eval ⟨tm, df⟩) o).run P w) d := by
  simp only [eff] at he
  split at he
  · rename_i k1 m hd
    have hv := ev_sound (df := df) hs hx hd
    rw [MR.int] at hv
    simp only [Option.some.injEq, Prod.mk.injEq] at he
    obtain ⟨rfl, rfl⟩ := he
    refine Res.pure h Fr.sub (v := .int k (k.wrap m)) ?_ (by simp [MR])
    simp [execOp, ho, hv, convert, run_underlying hu0, run_underlying hu, Conv.intToInt]
  · cases he

theorem res_bin (h : RH B κ hp F w) (hs : RS B κ hp w sl tm) {o : Oper} {op : BinOp} {t u : TypeId} {xo yo : Operand} (ho : o.op = .binOp op t xo yo u) {x y : X} (hx : cX xo = some x) (hy : cX yo = some y)
    (he : eff n sl hp (.bin op x y) = some (d, hp')) : Res P B κ hp hp' (Fr F n) w ((execOp (Act.eval ⟨tm, df⟩) o).run P w) d := by
  simp only [eff] at he
  split at he
  · rename_i a b ha hb
    cases hbd : binD op a b with
    | none => simp [hbd] at he
    | some d' =>
      simp only [hbd, Option.map_some, Option.some.injEq, Prod.mk.injEq] at he
      obtain ⟨rfl, rfl⟩ := he
      obtain ⟨v, h1, h2⟩ := binD_sound (P := P) (op := op) (t := t) (x := xo) (y := yo) (ev_sound (df := df) hs hx ha) (ev_sound (df := df) hs hy hb) hbd
      refine Res.pure h Fr.sub (v := v) ?_ (h2 _)
      simp only [execOp, ho]
      exact run_v h1
  · cases he

theorem res_eqB (h : RH B κ hp F w) (hs : RS B κ hp w sl tm) {o : Oper} {neg : Bool} {t u : TypeId} {xo yo : Operand} (ho : o.op = .binOp (if neg then .neq else .eql) t xo yo u) {x y : X} (hx : cX xo = some x) (hy : cX yo = some y) (ht : P.underlying t = some .bool)
    (he : eff n sl hp (.eqB neg x y) = some (d, hp')) : Res P B κ hp hp' (Fr F n) w ((execOp (Act.eval ⟨tm, df⟩) o).run P w) d := by
  simp only [eff] at he
  split at he
  · rename_i a b ha hb
    cases hbd : eqBD neg a b with
    | none => simp [hbd] at he
    | some d' =>
      simp only [hbd, Option.map_some, Option.some.injEq, Prod.mk.injEq] at he
      obtain ⟨rfl, rfl⟩ := he
      obtain ⟨v, h1, h2⟩ := eqBD_sound (P := P) (t := t) ht (x := xo) (y := yo) (ev_sound (df := df) hs hx ha) (ev_sound (df := df) hs hy hb) hbd
      refine Res.pure h Fr.sub (v := v) ?_ (h2 _)
      simp only [execOp, ho]
      exact run_v h1
  · cases he

theorem res_eqA (h : RH B κ hp F w) (hs : RS B κ hp w sl tm) {o : Oper} {neg : Bool} {t u : TypeId} {xo yo : Operand} (ho : o.op = .binOp (if neg then .neq else .eql) t xo yo u) {x y : X} (hx : cX xo = some x) (hy : cX yo = some y) {m : Nat} (ht : allInts P t = some m)
    (he : eff n sl hp (.eqA m neg x y) = some (d, hp')) : Res P B κ hp hp' (Fr F n) w ((execOp (Act.eval ⟨tm, df⟩) o).run P w) d := by
  simp only [eff] at he
  split at he
  · rename_i a b ha hb
    split at he
    · rename_i hl
      cases hc : eqCells a b with
      | none => simp [hc] at he
      | some c =>
        simp only [hc, Option.map_some, Option.some.injEq, Prod.mk.injEq] at he
        obtain ⟨rfl, rfl⟩ := he
        obtain ⟨v, h1, h2⟩ := eqA_sound (neg := neg) (P := P) (t := t) ht (x := xo) (y := yo) (ev_sound (df := df) hs hx ha) (ev_sound (df := df) hs hy hb) hc hl
        refine Res.pure h Fr.sub (v := v) ?_ (h2 _)
        simp only [execOp, ho]
        exact run_v h1
    · cases he
  · cases he

theorem res_makeSl (h : RH B κ hp F w) (hs : RS B κ hp w sl tm) (hF : ∀ k, k < 64 → F (n + k)) {o : Oper} {t e : TypeId} {lo co : Operand} (ho : o.op = .makeSlice t lo co) (hsame : sameX lo co = true) (hu : P.underlying t = some (.slice e)) {s : Nat} (hz : szOf P e = some s) {i : TypeInfo} (hi : P.info? e = some i)
    {z : D} (hze : zElem P e = some z) (hoe : okElem s z = true) {l : X} (hl : cX lo = some l) (he : eff n sl hp (.makeSl s i.bytes z l) = some (d, hp')) :
    Res P B κ hp hp' (Fr F n) w ((execOp (Act.eval ⟨tm, df⟩) o).run P w) d := by
  simp only [eff] at he
  cases hd : ev sl l with
  | none => simp [hd] at he
  | some dl =>
    cases hj : asI dl with
    | none => simp [hd, hj] at he
    | some m =>
      simp only [hd, Option.bind_some, hj] at he
      split at he
      · rename_i hc
        simp only [Option.some.injEq, Prod.mk.injEq] at he
        obtain ⟨rfl, rfl⟩ := he
        have hv := ev_sound (df := df) hs hl hd
        rw [asI_inv hj, MR.int] at hv
        have hv2 : Act.eval ⟨tm, df⟩ co = .int .i64 m := by
          rw [← hv]
          unfold sameX at hsame
          split at hsame <;> simp at hsame <;> subst hsame <;> rfl
        obtain ⟨f1, f2⟩ := fits_inv hc.2
        obtain ⟨v, hzv, hzz, g1, g2⟩ := zElem_sound (w := w) (I := Im B κ hp w) hze hoe
        have hzero : i.zero = some v := by simpa [hi] using hzz
        have hsz : i.size = s := by simpa [szOf, hi] using hz
        have hP := PE.replicate g1 g2 m.toNat
        have hvs : v.cells.size = s := by simpa using g2
        have hb : (i.bytes : Int) * m ≤ 281474976710656 := by
          have h1 : ((i.bytes * m.toNat : Nat) : Int) ≤ 281474976710656 := by rw [Nat.mul_comm]; omega
          rw [Int.natCast_mul, Int.toNat_of_nonneg hc.1] at h1
          exact h1
        have hm63 : m ≤ 9223372036854775807 := by simp only [maxL] at f2; omega
        have hr := run_make (P := P) w t e i v hu hi hzero .i64 .i64 m m hc.1 (Int.le_refl _) hb hm63
        have hml : (madeCells v.cells (m.toNat * i.size)).toList = (List.replicate m.toNat v.cells.toList).flatten := by
          rw [hsz, ← hvs]; exact madeCells_list _ _
        refine newArr h hF (cur := madeCells v.cells (m.toNat * i.size)) (ty := e) (w' := w.alloc (.cells (madeCells v.cells (m.toNat * i.size)) e)) (cap := m.toNat) (us := (List.replicate m.toNat v.cells.toList).flatten) rfl rfl rfl rfl (fun j u hj => by
          rw [← hml] at hj; simpa using hj) hP (by simp) f2 (Nat.le_refl _) (by simp only [maxL] at f2; simp only [maxLen]; omega) (by rw [size_madeCells, hsz]; exact Nat.le_refl _) ?_ (Nxt.refl _ _ _ _)
        simp only [execOp, ho, hv, hv2, Sem.run_bind, hr, Result.andThen_ok, Sem.run_pure]
      · cases he

theorem optI_sound (hs : RS B κ hp w sl tm) {xo : Option Operand} {x : Option X} (hx : cOpt xo = some x) {d0 j : Int} (hj : optI sl d0 x = some j) :
    (xo = none ∧ j = d0) ∨ ∃ x0, xo = some x0 ∧ Act.eval ⟨tm, df⟩ x0 = .int .i64 j := by
  cases xo with
  | none => simp only [cOpt, Option.some.injEq] at hx; subst hx; simp only [optI, Option.some.injEq] at hj; exact .inl ⟨rfl, hj.symm⟩
  | some x0 =>
    simp only [cOpt] at hx
    cases hc : cX x0 with
    | none => simp [hc] at hx
    | some y =>
      simp only [hc, Option.map_some, Option.some.injEq] at hx
      subst hx
      simp only [optI] at hj
      cases hd : ev sl y with
      | none => simp [hd] at hj
      | some dy =>
        simp only [hd, Option.bind_some] at hj
        have hv := ev_sound (df := df) hs hc hd
        rw [asI_inv hj, MR.int] at hv
        exact .inr ⟨x0, rfl, hv⟩

/-- A slice of a slice. -/
theorem run_slc {o : Oper} {t e : TypeId} {xo : Operand} {lo hi : Option Operand} {ρ : Operand → Value} (ho : o.op = .slice t xo lo hi none) (hu : P.underlying t = some (.slice e)) {s : Nat} (hz : szOf P e = some s) {a : Option Addr} {len cap : Nat} (hv : ρ xo = .slice a len cap)
    {l u : Int} (hl : (lo = none ∧ l = 0) ∨ ∃ x0, lo = some x0 ∧ ρ x0 = .int .i64 l) (hh : (hi = none ∧ u = len) ∨ ∃ x0, hi = some x0 ∧ ρ x0 = .int .i64 u) (h0 : 0 ≤ l) (h1 : l ≤ u) (h2 : u ≤ len) (h3 : len ≤ cap) :
    (execOp ρ o).run P w = .ok (.value (.slice (if cap = l.toNat then a else a.map (·.add (l.toNat * s))) (u.toNat - l.toNat) (cap - l.toNat))) w := by
  have e1 : (Instr.sliceBounds true len cap (lo.map ρ) (hi.map ρ) none).run P w = .ok (l.toNat, u.toNat, cap) w := by
    rcases hl with ⟨rfl, rfl⟩ | ⟨x0, rfl, hx0⟩ <;> rcases hh with ⟨rfl, rfl⟩ | ⟨y0, rfl, hy0⟩
    · simp [Instr.sliceBounds]
    · have : 0 ≤ u ∧ u ≤ (cap : Int) := by omega
      simp [Instr.sliceBounds, Instr.sliceBound, hy0, asIntOf, this]
    · have : 0 ≤ l ∧ l ≤ (len : Int) := by omega
      simp [Instr.sliceBounds, Instr.sliceBound, hx0, asIntOf, this]
    · have g1 : 0 ≤ u ∧ u ≤ (cap : Int) := by omega
      have g2 : 0 ≤ l ∧ l ≤ u := by omega
      simp only [Instr.sliceBounds, Instr.sliceBound, hx0, hy0, Option.map_some, asIntOf]
      have g3 : ((u.toNat : Nat) : Int) = u := by omega
      simp [g1, g2, g3]
  simp [execOp, ho, Instr.sliceAt, Instr.slice, run_underlying hu, hv, e1, run_szOf hz]

theorem res_slc (h : RH B κ hp F w) (hs : RS B κ hp w sl tm) {o : Oper} {t e : TypeId} {xo : Operand} {lo hi : Option Operand} (ho : o.op = .slice t xo lo hi none) (hu : P.underlying t = some (.slice e)) {s : Nat} (hz : szOf P e = some s) {x : X} (hx : cX xo = some x) {lx hx' : Option X} (hlo : cOpt lo = some lx) (hhi : cOpt hi = some hx')
    (he : eff n sl hp (.slc s x lx hx') = some (d, hp')) : Res P B κ hp hp' (Fr F n) w ((execOp (Act.eval ⟨tm, df⟩) o).run P w) d := by
  simp only [eff] at he
  cases hd : ev sl x with
  | none => simp [hd] at he
  | some dx =>
    have hv := ev_sound (df := df) hs hx hd
    cases hl : optI sl 0 lx with
    | none => cases dx <;> simp only [hd, hl, reduceCtorEq] at he
    | some l =>
      have hlv := optI_sound (df := df) hs hlo hl
      cases dx <;> simp only [hd, hl, reduceCtorEq] at he
      case nl sz' =>
        split at he
        · rename_i u hh
          have hhv := optI_sound (df := df) hs hhi hh
          split at he
          · rename_i hc
            obtain ⟨rfl, rfl⟩ := hc
            simp only [Option.some.injEq, Prod.mk.injEq] at he
            obtain ⟨rfl, rfl⟩ := he
            simp only [MR] at hv
            have := run_slc (w := w) ho hu hz hv hlv hhv (Int.le_refl _) (Int.le_refl _) (Int.le_refl _) (Nat.le_refl _)
            refine Res.pure h Fr.sub this ?_
            simp only [MR]
            simp
          · cases he
        · cases he
      case lst sz' xs =>
        split at he
        · rename_i u hh
          have hhv := optI_sound (df := df) hs hhi hh
          split at he
          · rename_i hc
            obtain ⟨c1, c2, c3, rfl⟩ := hc
            simp only [Option.some.injEq, Prod.mk.injEq] at he
            obtain ⟨rfl, rfl⟩ := he
            simp only [MR, DR] at hv
            obtain ⟨_, hmax, hv⟩ := hv
            have hlen : ((xs.take u.toNat).drop l.toNat).length = u.toNat - l.toNat := by simp; omega
            rcases hv with ⟨hv, rfl⟩ | ⟨b, off, cap, us, hv, hlc, hcl, hb, hM, hP⟩
            · have := run_slc (w := w) ho hu hz hv hlv hhv c1 c2 c3 (Nat.le_refl _)
              refine Res.pure h Fr.sub this ?_
              simp only [MR, DR]
              refine ⟨trivial, by simp [maxL], .inl ⟨?_, by simp⟩⟩
              have : l.toNat = 0 := by simp at c3; omega
              have : u.toNat = 0 := by simp at c3; omega
              simp [*]
            · have := run_slc (w := w) ho hu hz hv hlv hhv c1 c2 c3 hlc
              refine Res.pure h Fr.sub this ?_
              simp only [MR, DR, hlen]
              refine ⟨trivial, by omega, .inr ?_⟩
              obtain ⟨u1, u2, rfl, p1, p2⟩ := hP.take u.toNat
              obtain ⟨u3, u4, rfl, p3, p4⟩ := p1.take l.toNat
              have hm4 := (Mem.append.1 (Mem.append.1 hM).1).2
              have hl3 := p3.length
              by_cases hcl2 : cap = l.toNat
              · refine ⟨b, off, cap - l.toNat, [], by simp [hcl2], by omega, by omega, hb, Mem.nil, ?_⟩
                have : (xs.take u.toNat).drop l.toNat = [] := List.eq_nil_of_length_eq_zero (by rw [hlen]; omega)
                rw [this]; simp [PE]
              · refine ⟨b, off + l.toNat * sz', cap - l.toNat, u4, by simp [hcl2, addr_add], by omega, by omega, hb, ?_, p4⟩
                have e0 : u3.length = l.toNat * sz' := by rw [hl3]; congr 1; simp; omega
                rw [e0] at hm4; exact hm4
          · cases he
        · cases he
      case sl id lo0 len =>
        split at he
        · rename_i u hh
          have hhv := optI_sound (df := df) hs hhi hh
          split at he
          · rename_i hc
            obtain ⟨c1, c2, c3, c4⟩ := hc
            simp only [Option.some.injEq, Prod.mk.injEq] at he
            obtain ⟨rfl, rfl⟩ := he
            simp only [MR] at hv
            rcases hv with ⟨sz0, hk, hv, rfl, rfl⟩ | ⟨b, sz', tot, off, cap, hk, hv, g1, g2, g3, g4⟩
            · have := run_slc (w := w) ho hu hz hv hlv hhv c1 c2 c3 (Nat.le_refl _)
              refine Res.pure h Fr.sub this ?_
              simp only [MR]
              have h1 : l.toNat = 0 := by omega
              have h2 : u.toNat = 0 := by omega
              exact .inl ⟨sz0, hk, by simp [h1, h2], by omega, by omega⟩
            · have hsz : sz' = s := h.entSz c4 hk
              subst hsz
              have := run_slc (w := w) ho hu hz hv hlv hhv c1 c2 c3 g1
              refine Res.pure h Fr.sub this ?_
              simp only [MR]
              right
              by_cases hcl2 : cap = l.toNat
              · refine ⟨b, sz', tot, off, cap - l.toNat, hk, by simp [hcl2], by omega, by omega, ?_, fun h0 => ?_⟩
                · have : cap - l.toNat = 0 := by omega
                  rw [this]; simp
                  have := Nat.le_add_right off (cap * sz'); omega
                · rcases h0 with h0 | h0
                  · omega
                  · have h1 : l.toNat = 0 := by omega
                    have h2 : lo0 = 0 := by omega
                    rw [h1, h2]; simp; exact (by have := g4 (.inr h2); rw [h2] at this; simpa using this)
              · refine ⟨b, sz', tot, off + l.toNat * sz', cap - l.toNat, hk, by simp [hcl2, addr_add], by omega, by omega, ?_, fun h0 => ?_⟩
                · have e1 : l.toNat * sz' + (cap - l.toNat) * sz' = cap * sz' := by rw [← Nat.add_mul]; congr 1; omega
                  omega
                · have h0' : 0 < len ∨ lo0 = 0 := by rcases h0 with h0 | h0 <;> omega
                  rw [g4 h0', Nat.add_mul]
          · cases he
        · cases he
end
end Go.Am
