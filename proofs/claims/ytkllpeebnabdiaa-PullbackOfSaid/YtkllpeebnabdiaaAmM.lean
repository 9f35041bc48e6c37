/- append. -/
import Derived.Test.YtkllpeebnabdiaaAmL
namespace Go.Am
open Go

section
variable {P : Program} {B : Base} {κ : Nat → Option KI} {hp hp' : List (Nat × Ent)} {F : Nat → Prop} {w : World} {sl : List (Nat × D)} {tm : Array Value} {df : List Deferred} {n : Nat} {d : D}

/-- `m` elements that lie somewhere, as values. -/
def Src (P : Program) (w : World) (size m : Nat) (vy : Value) (news : List Value) : Prop :=
  (Builtin.lenOf vy).run P w = .ok m w ∧ news.length = m * size ∧ (∀ u ∈ news, u.oneCell' = true) ∧ (Builtin.firstCells size m vy).run P w = .ok news.toArray w ∧ (Builtin.firstCells size m vy).run P w.drew = .ok news.toArray w.drew

section
variable {t u ty e e' : TypeId} {i : TypeInfo} {z : Value} (ht : P.underlying t = some (.slice e)) (hu : P.underlying u = some (.slice e')) (hi : P.info? e = some i) (hz : i.zero = some z)
include ht hu hi

theorem run_app_in {g sLen sCap m : Nat} {cur : Array Value} {t0 : TypeId} (hg : w.heap[g]? = some (.cells cur t0 (0, 0))) {vy : Value} {news : List Value} (hs : Src P w i.size m vy news) (hroom : sLen + m ≤ sCap) (hfit : sLen * i.size + news.length ≤ cur.size) :
    (Builtin.append_ #[t, u] ty #[.slice (some ⟨g, 0, none⟩) sLen sCap, vy]).run P w =
      .ok (.slice (some ⟨g, 0, none⟩) (sLen + m) sCap) (w.setRow g (cur.toList.take (sLen * i.size) ++ news ++ cur.toList.drop (sLen * i.size + news.length)).toArray) := by
  obtain ⟨h1, h2, h3, h4, _⟩ := hs
  have hst := run_storeCells_at P g (sLen * i.size) t0 news 0 cur w hg (by simpa using hfit) h3
  simp only [Nat.add_zero] at hst
  simp [Builtin.append_, run_underlying ht, run_underlying hu, sizeOf, typeInfo, hi, h1, hroom, h4, addr_add, hst]

theorem run_app_zero {vy : Value} {news : List Value} (hs : Src P w i.size 0 vy news) : (Builtin.append_ #[t, u] ty #[.slice none 0 0, vy]).run P w = .ok (.slice none 0 0) w := by
  obtain ⟨h1, h2, h3, h4, _⟩ := hs
  simp [Builtin.append_, run_underlying ht, run_underlying hu, sizeOf, typeInfo, hi, h1, h4]

include hz in
theorem run_app_grow {base : Option Addr} {sLen sCap m : Nat} {olds : List Value} (ho : (Builtin.firstCells i.size sLen (.slice base sLen sCap)).run P w.drew = .ok olds.toArray w.drew) {vy : Value} {news : List Value} (hs : Src P w i.size m vy news)
    (hg : sCap < sLen + m) (h63 : ((sLen + m : Nat) : Int) ≤ 9223372036854775807) (hfit : Builtin.nextslicecap (sLen + m) sCap * i.bytes ≤ 281474976710656) :
    (Builtin.append_ #[t, u] ty #[.slice base sLen sCap, vy]).run P w =
      .ok (.slice (some ⟨w.heap.size, 0, none⟩) (sLen + m) (grownCap w (sLen + m) sCap e))
        (w.drew.alloc (.cells (olds.toArray ++ news.toArray ++ Builtin.zeroCells z.cells (grownCap w (sLen + m) sCap e - (sLen + m))) e)) := by
  obtain ⟨h1, h2, h3, _, h4⟩ := hs
  have hn : ¬ (sLen + m ≤ sCap) := by omega
  have h63' : ¬ (9223372036854775807 < ((sLen : Int) + (m : Int))) := by omega
  have h48' : ¬ (281474976710656 < Builtin.nextslicecap (sLen + m) sCap * i.bytes) := by omega
  simp [Builtin.append_, run_underlying ht, run_underlying hu, sizeOf, typeInfo, zeroValue, hi, hz, h1, hn, h63', h48', Question.forced, h4, ho, newRow, grownCap]
  congr 2
  apply Array.ext'
  simp [List.append_assoc]
end

theorem Src.of_nil {size : Nat} : Src P w size 0 (.slice none 0 0) [] :=
  ⟨by simp [Builtin.lenOf], by simp, by simp, by simp [Builtin.firstCells], by simp [Builtin.firstCells]⟩
theorem Src.of_mem {size m b off cap : Nat} {us : List Value} (hM : Mem w b off us) (hl : us.length = m * size) (h1 : ∀ u ∈ us, u.oneCell' = true) : Src P w size m (.slice (some ⟨b, off, none⟩) m cap) us := by
  refine ⟨by simp [Builtin.lenOf], hl, h1, ?_, ?_⟩
  · have := run_loadCells_list (P := P) w ⟨b, off, none⟩ us (fun j v hj => by rw [addr_add]; exact hM j v hj)
    rw [hl] at this
    simp [Builtin.firstCells, this]
  · have := run_loadCells_list (P := P) w.drew ⟨b, off, none⟩ us (fun j v hj => by rw [addr_add]; exact hM j v hj)
    rw [hl] at this
    simp [Builtin.firstCells, this]

/-- The elements of a slice that is appended. -/
theorem rdS_sound (h : RH B κ hp F w) {sz : Nat} {dy : D} {vy : Value} {ys : List D} (hv : MR w (Im B κ hp w) κ dy vy) (hr : rdS hp sz dy = some ys) :
    ys.length ≤ maxL ∧ ∃ us, PE w (Im B κ hp w) sz ys us ∧ Src P w sz ys.length vy us := by
  have nilc : ∀ {vy : Value}, vy = .slice none 0 0 → ([] : List D).length ≤ maxL ∧ ∃ us, PE w (Im B κ hp w) sz [] us ∧ Src P w sz ([] : List D).length vy us := fun hv => by
    subst hv; exact ⟨Nat.zero_le _, [], by simp [PE], Src.of_nil⟩
  cases dy <;> simp only [rdS, reduceCtorEq] at hr
  case nl =>
    simp only [Option.some.injEq] at hr; subst hr
    simp only [MR] at hv
    exact nilc hv
  case lst sz' xs =>
    split at hr
    · rename_i hs
      subst hs
      simp only [Option.some.injEq] at hr; subst hr
      simp only [MR, DR] at hv
      obtain ⟨_, h1, hv⟩ := hv
      rcases hv with ⟨hv, rfl⟩ | ⟨b, off, cap, us, rfl, _, _, _, hM, hP⟩
      · exact nilc hv
      · exact ⟨h1, us, hP, Src.of_mem hM hP.length hP.one⟩
    · cases hr
  case sl id lo len =>
    have key : ∀ (sz' : Nat) (xs : List D), sz' = sz → lo + len ≤ xs.length → xs.length ≤ maxL → ((κ id = some (.nil sz') ∧ xs = []) ∨ ∃ b tot us, κ id = some (.arr b sz' tot) ∧ Mem w b 0 us ∧ PE w (Im B κ hp w) sz' xs us) → ys = (xs.drop lo).take len →
        ys.length ≤ maxL ∧ ∃ us, PE w (Im B κ hp w) sz ys us ∧ Src P w sz ys.length vy us := by
      intro sz' xs hs hl hmax hent hys
      subst hs; subst hys
      have hlen : ((xs.drop lo).take len).length = len := by simp; omega
      simp only [MR] at hv
      rcases hent with ⟨hk, rfl⟩ | ⟨b, tot, us, hk, hM, hP⟩
      · rw [hk] at hv
        rcases hv with ⟨_, _, hv, rfl, rfl⟩ | ⟨_, _, _, _, _, hv, _⟩
        · simpa using nilc hv
        · cases hv
      · rw [hk] at hv
        rcases hv with ⟨_, hv, _⟩ | ⟨b', sz'', tot', off, cap, hv, rfl, h2, h3, h4, h5⟩
        · cases hv
        · simp only [Option.some.injEq, KI.arr.injEq] at hv
          obtain ⟨rfl, rfl, rfl⟩ := hv
          rw [hlen]
          refine ⟨by omega, ?_⟩
          by_cases h0 : 0 < len ∨ lo = 0
          · have hoff := h5 h0
            obtain ⟨u1, u2, rfl, p1, p2⟩ := hP.take lo
            obtain ⟨u3, u4, rfl, p3, p4⟩ := p2.take len
            have hm3 := (Mem.append.1 (Mem.append.1 hM).2).1
            have hl1 := p1.length
            rw [List.length_take, Nat.min_eq_left (by omega)] at hl1
            rw [hl1, Nat.zero_add, ← hoff] at hm3
            have hl3 := p3.length
            rw [hlen] at hl3
            exact ⟨u3, p3, Src.of_mem hm3 hl3 p3.one⟩
          · have : len = 0 := by omega
            subst this
            exact ⟨[], by simp [PE], Src.of_mem Mem.nil (by simp) (by simp)⟩
    have key2 : ∀ (sz' : Nat) (xs : List D), xs.length ≤ maxL → ((κ id = some (.nil sz') ∧ xs = []) ∨ ∃ b tot us, κ id = some (.arr b sz' tot) ∧ Mem w b 0 us ∧ PE w (Im B κ hp w) sz' xs us) →
        (if sz' = sz then (if lo = 0 ∧ len = xs.length then some xs else if lo + len ≤ xs.length then some ((xs.drop lo).take len) else none) else none) = some ys →
        ys.length ≤ maxL ∧ ∃ us, PE w (Im B κ hp w) sz ys us ∧ Src P w sz ys.length vy us := by
      intro sz' xs hmax hent hr
      split at hr
      · rename_i hs
        split at hr
        · rename_i hc
          simp only [Option.some.injEq] at hr
          exact key sz' xs hs (by omega) hmax hent (by rw [← hr, hc.1, hc.2]; simp)
        · split at hr
          · simp only [Option.some.injEq] at hr
            exact key sz' xs hs (by assumption) hmax hent hr.symm
          · cases hr
      · cases hr
    split at hr
    · rename_i hl
      have hent := h.ent id _ hl
      simp only [ER] at hent
      exact key2 _ _ hent.1 (hent.2.imp (fun h => h) fun ⟨b, tot, cur, ty, us, k1, _, _, k4, k5⟩ => ⟨b, tot, us, k1, k4, k5⟩) hr
    · rename_i hl
      have hent := h.ent id _ hl
      simp only [ER] at hent
      exact key2 _ _ hent.1 (hent.2.imp (fun h => h) fun ⟨b, tot, us, k1, _, k4, k5⟩ => ⟨b, tot, us, k1, k4, k5⟩) hr
    · cases hr

theorem grownCap_le_max {need old : Nat} {e : TypeId} (h : need ≤ maxL) : grownCap w need old e ≤ maxLen := grownCap_le_maxLen w need old e (by simp only [maxL] at h; simp only [maxLen]; omega)

theorem res_app (h : RH B κ hp F w) (hs : RS B κ hp w sl tm) (hF : ∀ k, k < 64 → F (n + k)) {o : Oper} {c : Call} (ho : o.op = .call c) (hc : c.callee = .builtin .append) {t u : TypeId} (hat : c.argTypes.toList = [t, u]) {xo yo : Operand} (ha : c.args.toList = [xo, yo])
    {e e' : TypeId} (ht : P.underlying t = some (.slice e)) (hu : P.underlying u = some (.slice e')) {s : Nat} (hz : szOf P e = some s) {i : TypeInfo} (hi : P.info? e = some i) {z : Value} (hzz : i.zero = some z) (hzc : z.cells.size = s)
    {x y : X} (hx : cX xo = some x) (hy : cX yo = some y) (he : eff n sl hp (.app s i.bytes x y) = some (d, hp')) :
    Res P B κ hp hp' (Fr F n) w ((execOp (Act.eval ⟨tm, df⟩) o).run P w) d := by
  have hsz : i.size = s := by simpa [szOf, hi] using hz
  have hat' : c.argTypes = #[t, u] := by apply Array.ext'; simpa using hat
  have ha' : c.args = #[xo, yo] := by apply Array.ext'; simpa using ha
  have hrun : (execOp (Act.eval ⟨tm, df⟩) o).run P w = ((Builtin.append_ #[t, u] o.type #[Act.eval ⟨tm, df⟩ xo, Act.eval ⟨tm, df⟩ yo]).run P w).andThen fun v w' => .ok (.value v) w' := by
    simp [execOp, ho, resolve, hc, ha', hat', invoke, builtin]
  rw [hrun]
  simp only [eff] at he
  cases hdx : ev sl x with
  | none => simp [hdx] at he
  | some dx =>
    cases hyy : (ev sl y).bind (rdS hp s) with
    | none => cases dx <;> simp [hdx, hyy] at he
    | some ys =>
      cases hdy : ev sl y with
      | none => simp [hdy] at hyy
      | some dy =>
        simp only [hdy, Option.bind_some] at hyy
        have hvx := ev_sound (df := df) hs hx hdx
        have hvy := ev_sound (df := df) hs hy hdy
        obtain ⟨hymax, us, hP, hsrc⟩ := rdS_sound (P := P) h hvy hyy
        rw [← hsz] at hsrc
        -- a new row
        have grow : ∀ (hp1 : List (Nat × Ent)) (base : Option Addr) (sLen sCap : Nat) (olds : List Value) (xs : List D), RH B κ hp1 F w → Nxt B κ κ hp hp1 w w → Act.eval ⟨tm, df⟩ xo = .slice base sLen sCap → PE w (Im B κ hp w) s xs olds → xs.length = sLen →
            (Builtin.firstCells i.size sLen (.slice base sLen sCap)).run P w.drew = .ok olds.toArray w.drew → sCap < sLen + ys.length → fits (sLen + ys.length) i.bytes = true → d = .sl n 0 (sLen + ys.length) → hp' = up hp1 n (.arr s (xs ++ ys)) →
            Res P B κ hp hp' (Fr F n) w (((Builtin.append_ #[t, u] o.type #[Act.eval ⟨tm, df⟩ xo, Act.eval ⟨tm, df⟩ yo]).run P w).andThen fun v w' => .ok (.value v) w') d := by
          intro hp1 base sLen sCap olds xs k1 k2 hvx hPx hxl hf hlt hfit hd hh
          subst hd; subst hh
          obtain ⟨f1, f2⟩ := fits_inv hfit
          have hnx : Builtin.nextslicecap (sLen + ys.length) sCap * i.bytes ≤ 281474976710656 := growslice_fits hlt f1
          rw [hvx, run_app_grow (ty := o.type) ht hu hi hzz hf hsrc hlt (by simp only [maxL] at f2; omega) hnx]
          simp only [Result.andThen_ok]
          have hge := grownCap_ge w (sLen + ys.length) sCap e
          have hle := grownCap_le_max (w := w) (old := sCap) (e := e) f2
          have hPxy : PE w (Im B κ hp1 w) s (xs ++ ys) (olds ++ us) := PE.append.2 ⟨_, _, rfl, PE.mono k2.keep _ _ _ hPx, PE.mono k2.keep _ _ _ hP⟩
          have hlo := hPx.length
          have hlu := hP.length
          refine newArr k1 hF (cur := olds.toArray ++ us.toArray ++ Builtin.zeroCells z.cells (grownCap w (sLen + ys.length) sCap e - (sLen + ys.length))) (ty := e) (w' := w.drew.alloc (.cells (olds.toArray ++ us.toArray ++ Builtin.zeroCells z.cells (grownCap w (sLen + ys.length) sCap e - (sLen + ys.length))) e)) rfl rfl rfl rfl (us := olds ++ us) (fun j u hj => ?_) hPxy (by simp [hxl]) f2 hge hle ?_ rfl k2
          · have hlt := (List.getElem?_eq_some_iff.1 hj).1
            rw [← Array.getElem?_toList]
            simp only [Array.toList_append]
            rw [List.getElem?_append_left (by simpa using hlt)]
            exact hj
          · simp only [Array.size_append, List.size_toArray, size_zeroCells, hzc, hlo, hlu, hxl, ← Nat.add_mul]
            apply Nat.le_of_eq
            congr 1
            omega
        cases dx <;> simp only [hdx, hdy, Option.bind_some, hyy, reduceCtorEq] at he
        case nl =>
          split at he
          · rename_i hfit
            simp only [Option.some.injEq, Prod.mk.injEq] at he
            obtain ⟨rfl, rfl⟩ := he
            simp only [MR] at hvx
            by_cases hy0 : ys = []
            · subst hy0
              have hh := h.newNil (m := n) (F' := Fr F n) (hF 0 (by omega)) (Fr.ne (k := 0) (by omega)) s
              rw [hvx, run_app_zero (ty := o.type) ht hu hi hsrc]
              exact ⟨_, _, _, .inl rfl, hh.1, hh.2, by simp only [MR]; exact .inl ⟨s, updK_same, by simp⟩⟩
            · have hpos : 0 < ys.length := by cases ys <;> simp at hy0 ⊢
              exact grow hp none 0 0 [] [] h (Nxt.refl _ _ _ _) hvx (by simp [PE]) rfl (by simp [Builtin.firstCells]) (by omega) (by simpa using hfit) (by simp) (by simp)
          · cases he
        case sl id lo len =>
          split at he
          · rename_i sz' xs hl
            split at he
            · rename_i hcond
              obtain ⟨rfl, rfl, hfit⟩ := hcond
              -- the elements that stay
              obtain ⟨xs', hxs', hlen, hd, hh⟩ : ∃ xs', xs' = xs.take len ∧ xs'.length = len ∧ d = .sl n 0 (len + ys.length) ∧ hp' = up (rm hp id) n (.arr sz' (xs' ++ ys)) := by
                split at he
                · rename_i hl
                  simp only [Option.some.injEq, Prod.mk.injEq] at he
                  exact ⟨xs, by rw [hl]; simp, hl.symm, he.1.symm, he.2.symm⟩
                · split at he
                  · rename_i hl
                    simp only [Option.some.injEq, Prod.mk.injEq] at he
                    exact ⟨xs.take len, rfl, by simp; omega, he.1.symm, he.2.symm⟩
                  · cases he
              have hlx : len ≤ xs.length := by rw [hxs'] at hlen; simp at hlen; omega
              have hent := h.ent id _ hl
              simp only [ER] at hent
              obtain ⟨k1, k2⟩ := h.forget id
              simp only [MR] at hvx
              rcases hent with ⟨hmax, ⟨hk, rfl⟩ | ⟨b, tot, cur, ty0, vs, hk, hg, htot, hM, hPx⟩⟩
              · rw [hk] at hvx
                rcases hvx with ⟨_, _, hvx, _, rfl⟩ | ⟨_, _, _, _, _, hvx, _⟩
                · simp at hxs'
                  subst hxs'
                  by_cases hy0 : ys = []
                  · subst hy0
                    have hh2 := k1.newNil (m := n) (F' := Fr F n) (hF 0 (by omega)) (Fr.ne (k := 0) (by omega)) sz'
                    rw [hvx, run_app_zero (ty := o.type) ht hu hi hsrc]
                    subst hd; subst hh
                    exact ⟨_, _, _, .inl rfl, hh2.1, k2.trans hh2.2, by simp only [MR]; exact .inl ⟨sz', updK_same, by simp⟩⟩
                  · have hpos : 0 < ys.length := by cases ys <;> simp at hy0 ⊢
                    exact grow (rm hp id) none 0 0 [] [] k1 k2 hvx (by simp [PE]) rfl (by simp [Builtin.firstCells]) (by omega) hfit hd hh
                · cases hvx
              · rw [hk] at hvx
                rcases hvx with ⟨_, hvx, _⟩ | ⟨b', sz'', tot', off, cap, hvx, hv, g1, g2, g3, g4⟩
                · cases hvx
                · simp only [Option.some.injEq, KI.arr.injEq] at hvx
                  obtain ⟨rfl, rfl, rfl⟩ := hvx
                  have hoff : off = 0 := by simpa using g4
                  subst hoff
                  obtain ⟨u1, u2, rfl, p1, p2⟩ := hPx.take len
                  rw [← hxs'] at p1
                  have hM1 := (Mem.append.1 hM).1
                  have hl1 := p1.length
                  rw [hlen] at hl1
                  by_cases hroom : len + ys.length ≤ cap
                  · have hle : (len + ys.length) * sz' ≤ cur.size := by
                      have := Nat.mul_le_mul_right sz' hroom; omega
                    have hlu := hP.length
                    rw [Nat.add_mul] at hle
                    rw [hv, run_app_in (ty := o.type) ht hu hi hg hsrc hroom (by rw [hsz, hlu]; exact hle)]
                    simp only [Result.andThen_ok]
                    subst hd; subst hh
                    rw [hsz]
                    have hob : OB κ hp id b := ⟨_, _, hl, rfl, hk, rfl⟩
                    have hst := setRow_Stp w b (cur.toList.take (len * sz') ++ us ++ cur.toList.drop (len * sz' + us.length)).toArray hg (by simp only [List.size_toArray, List.length_append, List.length_take, List.length_drop, Array.length_toList]; omega)
                    obtain ⟨j1, j2⟩ := h.move (F' := Fr F n) hob hst (ki := .arr b sz' tot) rfl (m := n) (hF 0 (by omega)) (Fr.ne (k := 0) (by omega)) (ent := .arr sz' (xs' ++ ys)) (fun keep => by
                      simp only [ER]
                      refine ⟨by have := (fits_inv hfit).2; simp [hlen]; omega, .inr ⟨b, tot, _, ty0, u1 ++ us, updK_same, setRow_heap w b cur _ ty0 _ hg, ?_, ?_, ?_⟩⟩
                      · simp only [List.size_toArray, List.length_append, List.length_take, List.length_drop, Array.length_toList, hlu]; omega
                      · refine Mem.set (setRow_heap w b cur _ ty0 _ hg) (fun j uu hj => ?_)
                        have e0 : cur.toList.take (len * sz') = u1 := by
                          apply List.ext_getElem?
                          intro k
                          rw [List.getElem?_take]
                          by_cases hk : k < len * sz'
                          · rw [if_pos hk]
                            have := Mem.cells hg hM1 k _ (List.getElem?_eq_getElem (by omega))
                            rw [List.getElem?_eq_getElem (by omega : k < u1.length)]
                            simpa using this
                          · rw [if_neg hk, List.getElem?_eq_none (by omega)]
                        rw [e0]
                        have hlt := (List.getElem?_eq_some_iff.1 hj).1
                        simp only [List.getElem?_toArray]
                        rw [List.getElem?_append_left hlt]
                        exact hj
                      · exact PE.append.2 ⟨_, _, rfl, PE.mono keep _ _ _ p1, PE.mono keep _ _ _ hP⟩)
                    exact ⟨_, _, _, .inl rfl, j1, j2, by simp only [MR]; exact .inr ⟨b, sz', tot, 0, cap, updK_same, by simp; exact ⟨hroom, g2, by omega⟩⟩⟩
                  · have hf : (Builtin.firstCells i.size len (.slice (some ⟨b, 0, none⟩) len cap)).run P w.drew = .ok u1.toArray w.drew := by
                      have := run_loadCells_list (P := P) w.drew ⟨b, 0, none⟩ u1 (fun j v hj => by rw [addr_add]; exact hM1 j v hj)
                      rw [hl1] at this
                      simp [Builtin.firstCells, hsz, this]
                    exact grow (rm hp id) _ len cap u1 xs' k1 k2 hv p1 hlen hf (by omega) hfit hd hh
            · cases he
          · cases he
end
end Go.Am
